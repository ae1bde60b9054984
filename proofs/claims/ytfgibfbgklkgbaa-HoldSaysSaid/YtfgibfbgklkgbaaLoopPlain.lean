/- Rows, jumps and weakest preconditions. No program is in sight. -/
import Derived.Test.YtfgibfbgklkgbaaLoopData
import Derived.Test.YtfgibfbgklkgbaaUmPlain
import Derived.Test.YtfgibfbgklkgbaaRopeMath
namespace Go.Um

/-- The first number that is not 0, or 0. -/
def fstN (g : Nat → Int) (n : Nat) : Int := (fst1 (fun k => if g k ≠ 0 then some (g k) else none) 0 n).getD 0
section
variable {g : Nat → Int} {n k : Nat}
theorem fstN_at (hk : k < n) (hp : ∀ j, j < k → g j = 0) (h : g k ≠ 0) : fstN g n = g k := by
  rw [fstN, fst1_some (g := fun k => if g k ≠ 0 then some (g k) else none) (k := k) (y := g k) (if_pos h) (Nat.zero_le _) (by omega) fun j _ hj => if_neg (not_not_intro (hp j hj))]; rfl
theorem fstN_no (hp : ∀ j, j < n → g j = 0) : fstN g n = 0 := by
  rw [fstN, fst1_none fun j _ hj => if_neg (not_not_intro (hp j (by omega)))]; rfl
theorem fstN_zero (h : fstN g n = 0) : ∀ j, j < n → g j = 0 := by
  suffices hs : ∀ m, m ≤ n → (∀ j, j < m → g j = 0) from hs n (Nat.le_refl _)
  intro m
  induction m with
  | zero => intro _ j hj; exact absurd hj (Nat.not_lt_zero j)
  | succ m ih =>
    intro hm j hj
    by_cases hjm : j = m
    · subst hjm
      refine Decidable.of_not_not fun hne => ?_
      rw [fstN_at (by omega) (ih (by omega)) hne] at h
      exact hne h
    · exact ih (by omega) j (by omega)
end

def whole (x : Int) : Bool := decide (-1000000 ≤ x ∧ x ≤ 1000000)
def outs (l : List Int) : Bool := l.any fun x => !whole x
theorem whole_iff {x : Int} : whole x = true ↔ -1000000 ≤ x ∧ x ≤ 1000000 := by simp [whole]
theorem out_of {p : Prop} {x : Int} (h : p ∨ (!whole x) = true) : p ∨ ¬ (-1000000 ≤ x ∧ x ≤ 1000000) := h.imp id fun h h2 => by rw [whole_iff.2 h2] at h; cases h
theorem out_not {p : Prop} {x : Int} (h : ¬ (p ∨ (!whole x) = true)) : ¬ (p ∨ ¬ (-1000000 ≤ x ∧ x ≤ 1000000)) := fun h2 => h (h2.imp id fun h3 => by
  cases hw : whole x with
  | true => exact absurd (whole_iff.1 hw) h3
  | false => rfl)
theorem outs_no {l : List Int} (h : ∀ k, k < l.length → -1000000 ≤ nth l k ∧ nth l k ≤ 1000000) : outs l = false := by
  rw [outs, List.any_eq_false]
  intro x hx
  obtain ⟨j, hj, rfl⟩ := List.mem_iff_getElem.1 hx
  have := h j hj
  rw [nth_eq hj] at this
  simp [whole, this]
theorem outs_at {l : List Int} {k : Nat} (hk : k < l.length) (h : ¬ (-1000000 ≤ nth l k ∧ nth l k ≤ 1000000)) : outs l = true :=
  List.any_eq_true.2 ⟨_, nth_mem hk, by simp [whole, h]⟩
theorem outs_false {l : List Int} (h : outs l = false) {k : Nat} (hk : k < l.length) : -1000000 ≤ nth l k ∧ nth l k ≤ 1000000 := by
  refine Decidable.of_not_not fun hn => ?_
  rw [outs_at hk hn] at h; cases h

def rowFault (n : Int) (r : LRow) : Int :=
  if ¬ (1 ≤ r.Kind ∧ r.Kind ≤ 3) then 4 else if n < (r.Of.length : Int) then 9 else if outs r.Of = true ∨ ¬ (-1000000 ≤ r.To ∧ r.To ≤ 1000000) then 3 else 0
def rowsFault (l : List LRow) (n : Int) : Int := if 40 < (l.length : Int) then 2 else fstN (fun k => rowFault n (nth l k)) l.length
section
variable {n : Int} {r : LRow} {l : List LRow} {k : Nat}
theorem rowFault_kind (h : ¬ (1 ≤ r.Kind ∧ r.Kind ≤ 3)) : rowFault n r = 4 := if_pos h
theorem rowFault_len (h : 1 ≤ r.Kind ∧ r.Kind ≤ 3) (h2 : n < (r.Of.length : Int)) : rowFault n r = 9 := by rw [rowFault, if_neg (not_not_intro h), if_pos h2]
theorem rowFault_out (h : 1 ≤ r.Kind ∧ r.Kind ≤ 3) (h2 : ¬ n < (r.Of.length : Int)) (h3 : outs r.Of = true ∨ ¬ (-1000000 ≤ r.To ∧ r.To ≤ 1000000)) : rowFault n r = 3 := by
  rw [rowFault, if_neg (not_not_intro h), if_neg h2, if_pos h3]
theorem rowFault_no (h : 1 ≤ r.Kind ∧ r.Kind ≤ 3) (h2 : ¬ n < (r.Of.length : Int)) (h3 : ¬ (outs r.Of = true ∨ ¬ (-1000000 ≤ r.To ∧ r.To ≤ 1000000))) : rowFault n r = 0 := by
  rw [rowFault, if_neg (not_not_intro h), if_neg h2, if_neg h3]
theorem rowFault_zero (h : rowFault n r = 0) : (1 ≤ r.Kind ∧ r.Kind ≤ 3) ∧ (r.Of.length : Int) ≤ n ∧ outs r.Of = false ∧ -1000000 ≤ r.To ∧ r.To ≤ 1000000 := by
  unfold rowFault at h
  split at h
  · cases h
  · rename_i h1
    split at h
    · cases h
    · split at h
      · cases h
      · rename_i h3
        have h4 := not_or.1 h3
        exact ⟨Decidable.of_not_not h1, by omega, Bool.eq_false_iff.2 h4.1, Decidable.of_not_not h4.2⟩
theorem rowsFault_many (h : 40 < (l.length : Int)) : rowsFault l n = 2 := if_pos h
theorem rowsFault_at (h : ¬ 40 < (l.length : Int)) (hk : k < l.length) (hp : ∀ j, j < k → rowFault n (nth l j) = 0) {c : Int} (hc : rowFault n (nth l k) = c) (h0 : c ≠ 0) : rowsFault l n = c := by
  rw [rowsFault, if_neg h, fstN_at hk hp (by rw [hc]; exact h0), hc]
theorem rowsFault_no (h : ¬ 40 < (l.length : Int)) (hp : ∀ j, j < l.length → rowFault n (nth l j) = 0) : rowsFault l n = 0 := by
  rw [rowsFault, if_neg h, fstN_no hp]
theorem rowsFault_zero (h : rowsFault l n = 0) : l.length ≤ 40 ∧ ∀ j, j < l.length → rowFault n (nth l j) = 0 := by
  unfold rowsFault at h
  split at h
  · cases h
  · exact ⟨by omega, fstN_zero h⟩
theorem rowsFault_one : rowsFault [r] n = rowFault n r := by
  by_cases h : rowFault n r = 0
  · rw [h, rowsFault_no (by simp) fun j hj => by
      have : j = 0 := by simpa using hj
      subst this; exact h]
  · exact rowsFault_at (k := 0) (by simp) (by simp) (fun j hj => absurd hj (Nat.not_lt_zero j)) rfl h
end
def toFault (n : Int) (l : List Int) : Int := if (l.length : Int) ≠ n + 1 then 9 else if outs l = true then 3 else 0
def jumpFault (j : Jump) (n : Int) : Int :=
  if rowsFault j.When n ≠ 0 then rowsFault j.When n else if (j.To.length : Int) ≠ n then 9 else fstN (fun k => toFault n (nth j.To k)) j.To.length
section
variable {n : Int} {j : Jump} {k : Nat} {l : List Int}
theorem toFault_len (h : (l.length : Int) ≠ n + 1) : toFault n l = 9 := if_pos h
theorem toFault_out (h : ¬ (l.length : Int) ≠ n + 1) (h2 : outs l = true) : toFault n l = 3 := by rw [toFault, if_neg h, if_pos h2]
theorem toFault_no (h : ¬ (l.length : Int) ≠ n + 1) (h2 : outs l = false) : toFault n l = 0 := by rw [toFault, if_neg h, if_neg (by rw [h2]; decide)]
theorem toFault_zero (h : toFault n l = 0) : (l.length : Int) = n + 1 ∧ outs l = false := by
  unfold toFault at h
  split at h
  · cases h
  · split at h
    · cases h
    · rename_i h1 h2
      exact ⟨by omega, Bool.eq_false_iff.2 h2⟩
theorem jumpFault_when (h : rowsFault j.When n ≠ 0) : jumpFault j n = rowsFault j.When n := if_pos h
theorem jumpFault_len (h : ¬ rowsFault j.When n ≠ 0) (h2 : (j.To.length : Int) ≠ n) : jumpFault j n = 9 := by rw [jumpFault, if_neg h, if_pos h2]
theorem jumpFault_at (h : ¬ rowsFault j.When n ≠ 0) (h2 : ¬ (j.To.length : Int) ≠ n) (hk : k < j.To.length) (hp : ∀ i, i < k → toFault n (nth j.To i) = 0) {c : Int} (hc : toFault n (nth j.To k) = c) (h0 : c ≠ 0) : jumpFault j n = c := by
  rw [jumpFault, if_neg h, if_neg h2, fstN_at hk hp (by rw [hc]; exact h0), hc]
theorem jumpFault_no (h : ¬ rowsFault j.When n ≠ 0) (h2 : ¬ (j.To.length : Int) ≠ n) (hp : ∀ i, i < j.To.length → toFault n (nth j.To i) = 0) : jumpFault j n = 0 := by
  rw [jumpFault, if_neg h, if_neg h2, fstN_no hp]
theorem ok_step {ok : Bool} {T : Prop} {Q : Nat → Prop} {i : Nat} [Decidable (ok = true ∧ Q i)] (hq : ok = true ↔ (T ∧ ∀ j, j < i → Q j)) : (decide (ok = true ∧ Q i) = true) ↔ (T ∧ ∀ j, j < i + 1 → Q j) := by
  rw [decide_eq_true_iff, hq]
  constructor
  · rintro ⟨⟨h1, h2⟩, h3⟩
    exact ⟨h1, all_succ h2 h3⟩
  · rintro ⟨h1, h2⟩
    exact ⟨⟨h1, fun j hj => h2 j (by omega)⟩, h2 i (by omega)⟩
theorem ok_out {ok : Bool} {T : Prop} [Decidable T] {l : List Int} {i : Nat} (hq : ok = true ↔ (T ∧ ∀ j, j < i → -1000000 ≤ nth l j ∧ nth l j ≤ 1000000)) (hil : i ≤ l.length) (hok : ¬ ok = true) : outs l = true ∨ ¬ T := by
  by_cases hT : T
  · refine .inl (Decidable.of_not_not fun ho => hok (hq.2 ⟨hT, fun j hj => ?_⟩))
    exact outs_false (Bool.eq_false_iff.2 ho) (by omega)
  · exact .inr hT
theorem ok_in {ok : Bool} {T : Prop} {l : List Int} {i : Nat} (hq : ok = true ↔ (T ∧ ∀ j, j < i → -1000000 ≤ nth l j ∧ nth l j ≤ 1000000)) (hi : ¬ i < l.length) (hok : ok = true) : ¬ (outs l = true ∨ ¬ T) := by
  have h := hq.1 hok
  rintro (h1 | h1)
  · rw [outs_no fun k hk => h.2 k (by omega)] at h1; cases h1
  · exact h1 h.1
/-- A jump that nothing is wrong with. -/
structure JW (j : Jump) (n : Int) : Prop where
  when_ : rowsFault j.When n = 0
  len : (j.To.length : Int) = n
  to : ∀ i, i < j.To.length → ((nth j.To i).length : Int) = n + 1 ∧ outs (nth j.To i) = false
theorem JW.of (h : jumpFault j n = 0) : JW j n := by
  unfold jumpFault at h
  split at h
  · rename_i h1; exact absurd h h1
  · split at h
    · cases h
    · rename_i h1 h2
      exact ⟨Decidable.of_not_not h1, Decidable.of_not_not h2, fun i hi => toFault_zero (fstN_zero h i hi)⟩
theorem JW.at_ (h : JW j n) {i v : Nat} (hi : i < j.To.length) (hv : (v : Int) ≤ n) : v < (nth j.To i).length ∧ -1000000 ≤ nth (nth j.To i) v ∧ nth (nth j.To i) v ≤ 1000000 := by
  have h1 := h.to i hi
  exact ⟨by omega, outs_false h1.2 (by omega)⟩
end

theorem LRow.same_iff {a b : LRow} : ((a.Kind = b.Kind ∧ a.To = b.To) ∧ a.Of = b.Of) ↔ a = b := by
  constructor
  · rintro ⟨⟨h1, h2⟩, h3⟩
    cases a; cases b; simp_all
  · rintro rfl; exact ⟨⟨rfl, rfl⟩, rfl⟩

/-! ### Sums -/
def sumTo (g : Nat → Int) : Nat → Int
  | 0 => 0
  | n + 1 => sumTo g n + g n
theorem sumTo_bound {g : Nat → Int} {b : Int} : ∀ {n : Nat}, (∀ i, i < n → -b ≤ g i ∧ g i ≤ b) → -(n * b) ≤ sumTo g n ∧ sumTo g n ≤ n * b
  | 0, _ => by simp [sumTo]
  | n + 1, h => by
    have ih := sumTo_bound (n := n) fun i hi => h i (by omega)
    have h1 := h n (by omega)
    have e : ((n + 1 : Nat) : Int) * b = n * b + b := by rw [Int.natCast_add, Int.add_mul]; simp
    rw [e, sumTo]
    omega
theorem mul_whole {a b : Int} (ha : -1000000 ≤ a ∧ a ≤ 1000000) (hb : -1000000 ≤ b ∧ b ≤ 1000000) : -1000000000000 ≤ a * b ∧ a * b ≤ 1000000000000 := by
  have h1 : (a * b).natAbs ≤ 1000000 * 1000000 := by
    rw [Int.natAbs_mul]
    exact Nat.mul_le_mul (by omega) (by omega)
  omega
def wantG (j : Jump) (r : LRow) (v : Nat) (i : Nat) : Int := nth r.Of i * nth (nth j.To i) v
def wantT (j : Jump) (r : LRow) (n : Nat) : Nat → Int
  | 0 => r.To
  | i + 1 => wantT j r n i - wantG j r n i
theorem wantT_eq {j : Jump} {r : LRow} {n : Nat} : ∀ {i : Nat}, wantT j r n i = r.To - sumTo (wantG j r n) i
  | 0 => by simp [wantT, sumTo]
  | i + 1 => by rw [wantT, sumTo, wantT_eq (i := i)]; omega
def wantTo (j : Jump) (r : LRow) : Int := wantT j r j.To.length r.Of.length
def wantOf (j : Jump) (r : LRow) (m : Nat) : List Int := (List.range m).map fun v => sumTo (wantG j r v) r.Of.length
def wantRow (j : Jump) (r : LRow) : LRow := ⟨wantOf j r j.To.length, r.Kind, wantTo j r⟩
/-- The rows of sums while they are made: below v with one row more. -/
def wantMid (j : Jump) (r : LRow) (n i v : Nat) : List Int := (List.range n).map fun u => sumTo (wantG j r u) (if u < v then i + 1 else i)
section
variable {j : Jump} {r : LRow} {m n i v : Nat}
theorem wantOf_next : wantOf j r (m + 1) = wantOf j r m ++ [sumTo (wantG j r m) r.Of.length] := by
  simp [wantOf, List.range_succ]
theorem wantOf_len : (wantOf j r m).length = m := by simp [wantOf]
theorem wantMid_len : (wantMid j r n i v).length = n := by simp [wantMid]
theorem wantMid_zero : wantMid j r n 0 0 = List.replicate n 0 := by
  apply List.ext_getElem (by simp [wantMid])
  intro k h1 h2
  simp [wantMid, sumTo]
theorem wantMid_nth (hv : v < n) : nth (wantMid j r n i v) v = sumTo (wantG j r v) i := by
  rw [nth_eq (by rw [wantMid_len]; exact hv)]
  simp [wantMid]
theorem wantMid_set (hv : v < n) : (wantMid j r n i v).set v (sumTo (wantG j r v) i + wantG j r v i) = wantMid j r n i (v + 1) := by
  apply List.ext_getElem (by simp [wantMid])
  intro k h1 h2
  rw [List.getElem_set]
  by_cases hk : v = k
  · subst hk; simp [wantMid, sumTo]
  · simp only [hk, if_false]
    simp only [wantMid, List.getElem_map, List.getElem_range]
    congr 1
    by_cases h3 : k < v
    · rw [if_pos h3, if_pos (by omega)]
    · rw [if_neg h3, if_neg (by omega)]
theorem wantMid_end : wantMid j r n i n = wantMid j r n (i + 1) 0 := by
  apply List.ext_getElem (by simp [wantMid])
  intro k h1 h2
  simp only [wantMid, List.getElem_map, List.getElem_range]
  rw [if_pos (by simpa [wantMid] using h1), if_neg (by omega)]
theorem wantMid_all : wantMid j r n r.Of.length 0 = wantOf j r n := by
  simp [wantMid, wantOf]
theorem wantMid_set2 (hv : v < n) : (wantMid j r n i v).set v (nth (wantMid j r n i v) v + nth r.Of i * nth (nth j.To i) v) = wantMid j r n i (v + 1) := by
  rw [wantMid_nth hv]; exact wantMid_set hv
/-- No sum is too great. -/
theorem wantG_bound {N : Int} (hj : JW j N) (hr : rowFault N r = 0) (hN : N ≤ 8) (hv : (v : Int) ≤ N) (hi : i < r.Of.length) : -1000000000000 ≤ wantG j r v i ∧ wantG j r v i ≤ 1000000000000 := by
  have h1 := rowFault_zero hr
  have h2 := hj.len
  exact mul_whole (outs_false h1.2.2.1 hi) (hj.at_ (by omega) hv).2
theorem wantS_bound {N : Int} (hj : JW j N) (hr : rowFault N r = 0) (hN : N ≤ 8) (hv : (v : Int) ≤ N) (hi : i ≤ r.Of.length) : -8000000000000 ≤ sumTo (wantG j r v) i ∧ sumTo (wantG j r v) i ≤ 8000000000000 := by
  have h1 := rowFault_zero hr
  have h2 := sumTo_bound (g := wantG j r v) (b := 1000000000000) (n := i) fun k hk => wantG_bound hj hr hN hv (by omega)
  have h3 : (i : Int) ≤ 8 := by omega
  omega
end

theorem wantT_bound {j : Jump} {r : LRow} {i v : Nat} {N : Int} (hj : JW j N) (hr : rowFault N r = 0) (hN : N ≤ 8) (hv : (v : Int) ≤ N) (hi : i ≤ r.Of.length) : -9000000000000 ≤ wantT j r v i ∧ wantT j r v i ≤ 9000000000000 := by
  have h1 := rowFault_zero hr
  have h2 := wantS_bound hj hr hN hv hi
  rw [wantT_eq]; omega

/-! ### Weakest preconditions -/
def wantBad (j : Jump) (r : LRow) : Prop := outs (wantRow j r).Of = true ∨ ¬ (-1000000 ≤ (wantRow j r).To ∧ (wantRow j r).To ≤ 1000000)
instance {j : Jump} {r : LRow} : Decidable (wantBad j r) := by unfold wantBad; infer_instance
def wantHead (j : Jump) (l : List LRow) : Int × Int :=
  if (j.To.length : Int) < 1 ∨ 8 < (j.To.length : Int) then (2, -1) else if jumpFault j j.To.length ≠ 0 then (jumpFault j j.To.length, -1) else (rowsFault l j.To.length, if rowsFault l j.To.length ≠ 0 then -2 else 0)
def wantFault (j : Jump) (l : List LRow) : Int × Int :=
  if (wantHead j l).1 ≠ 0 then wantHead j l else (fst1 (fun k => if wantBad j (nth l k) then some (10, (k : Int)) else none) 0 l.length).getD (0, 0)
def wantAll (j : Jump) (l : List LRow) : List LRow := if (wantFault j l).1 ≠ 0 then [] else l.map (wantRow j)
section
variable {j : Jump} {l : List LRow} {k : Nat}
theorem wantHead_n (h : (j.To.length : Int) < 1 ∨ 8 < (j.To.length : Int)) : wantHead j l = (2, -1) := if_pos h
theorem wantHead_j (h : ¬ ((j.To.length : Int) < 1 ∨ 8 < (j.To.length : Int))) (h2 : jumpFault j j.To.length ≠ 0) : wantHead j l = (jumpFault j j.To.length, -1) := by rw [wantHead, if_neg h, if_pos h2]
theorem wantHead_r (h : ¬ ((j.To.length : Int) < 1 ∨ 8 < (j.To.length : Int))) (h2 : ¬ jumpFault j j.To.length ≠ 0) (h3 : rowsFault l j.To.length ≠ 0) : wantHead j l = (rowsFault l j.To.length, -2) := by
  rw [wantHead, if_neg h, if_neg h2, if_pos h3]
theorem wantHead_no (h : ¬ ((j.To.length : Int) < 1 ∨ 8 < (j.To.length : Int))) (h2 : ¬ jumpFault j j.To.length ≠ 0) (h3 : ¬ rowsFault l j.To.length ≠ 0) : wantHead j l = (0, 0) := by
  rw [wantHead, if_neg h, if_neg h2, if_neg h3, Decidable.of_not_not h3]
theorem wantFault_head {x : Int × Int} (h : wantHead j l = x) (h0 : x.1 ≠ 0) : wantFault j l = x := by rw [wantFault, h, if_pos h0]
theorem wantFault_at (h : wantHead j l = (0, 0)) (hk : k < l.length) (hp : ∀ i, i < k → ¬ wantBad j (nth l i)) (hb : wantBad j (nth l k)) : wantFault j l = (10, (k : Int)) := by
  rw [wantFault, h, if_neg (by decide), fst1_some (g := fun k => if wantBad j (nth l k) then some (10, (k : Int)) else none) (k := k) (y := (10, (k : Int))) (if_pos hb) (Nat.zero_le _) (by omega) fun i _ hi => if_neg (hp i hi)]; rfl
theorem wantFault_no (h : wantHead j l = (0, 0)) (hp : ∀ i, i < l.length → ¬ wantBad j (nth l i)) : wantFault j l = (0, 0) := by
  rw [wantFault, h, if_neg (by decide), fst1_none fun i _ hi => if_neg (hp i (by omega))]; rfl
theorem wantAll_bad (h : (wantFault j l).1 ≠ 0) : wantAll j l = [] := if_pos h
theorem wantAll_ok (h : ¬ (wantFault j l).1 ≠ 0) : wantAll j l = l.map (wantRow j) := if_neg h
theorem wantHead_zero (h : (wantHead j l).1 = 0) : ¬ ((j.To.length : Int) < 1 ∨ 8 < (j.To.length : Int)) ∧ jumpFault j j.To.length = 0 ∧ rowsFault l j.To.length = 0 := by
  unfold wantHead at h
  split at h
  · cases h
  · split at h
    · rename_i h1 h2; exact absurd h h2
    · rename_i h1 h2; exact ⟨h1, Decidable.of_not_not h2, h⟩
theorem wantBad_of {r : LRow} {i : Nat} (hi : i = r.Of.length) (h : outs (wantMid j r j.To.length i 0) = true ∨ (!whole (wantT j r j.To.length i)) = true) : wantBad j r := by
  rw [hi, wantMid_all] at h
  rcases h with h | h
  · exact .inl h
  · refine .inr fun h2 => ?_
    rw [show whole (wantT j r j.To.length r.Of.length) = true from whole_iff.2 h2] at h; cases h
theorem wantBad_not {r : LRow} {i : Nat} (hi : i = r.Of.length) (h : ¬ (outs (wantMid j r j.To.length i 0) = true ∨ (!whole (wantT j r j.To.length i)) = true)) : ¬ wantBad j r := by
  rw [hi, wantMid_all] at h
  rintro (h2 | h2)
  · exact h (.inl h2)
  · refine h2 (whole_iff.1 ?_)
    cases hw : whole (wantT j r j.To.length r.Of.length) with
    | true => exact hw
    | false => exact absurd (.inr (by rw [hw]; rfl)) h
/-- What a law's own way knows at row k: what was wrong, or that nothing was. -/
def WantA (j : Jump) (l : List LRow) (k : Nat) (c a : Int) : Prop :=
  (c ≠ 0 ∧ wantFault j l = (c, a)) ∨ (c = 0 ∧ a = 0 ∧ wantHead j l = (0, 0) ∧ ∀ i, i < k → ¬ wantBad j (nth l i))
theorem WantA.start {x : Int × Int} (h : wantHead j l = x) (hx : x.1 = 0 → x.2 = 0) : WantA j l 0 x.1 x.2 := by
  by_cases h0 : x.1 = 0
  · exact .inr ⟨h0, hx h0, by rw [h]; exact Prod.ext h0 (hx h0), fun i hi => absurd hi (Nat.not_lt_zero i)⟩
  · exact .inl ⟨h0, wantFault_head h h0⟩
theorem WantA.ok {c a : Int} (h : WantA j l k c a) (hc : c = 0) : a = 0 ∧ wantHead j l = (0, 0) ∧ ∀ i, i < k → ¬ wantBad j (nth l i) := by
  rcases h with h | h
  · exact absurd hc h.1
  · exact h.2
theorem WantA.bad {c a : Int} (h : WantA j l k c a) (hc : c = 0) (hk : k < l.length) (hb : wantBad j (nth l k)) : WantA j l (k + 1) 10 k :=
  .inl ⟨by decide, wantFault_at (h.ok hc).2.1 hk (h.ok hc).2.2 hb⟩
theorem WantA.good {c a : Int} (h : WantA j l k c a) (hc : c = 0) (hb : ¬ wantBad j (nth l k)) : WantA j l (k + 1) c a := by
  obtain ⟨h1, h2, h3⟩ := h.ok hc
  refine .inr ⟨hc, h1, h2, fun i hi => ?_⟩
  by_cases hik : i = k
  · rw [hik]; exact hb
  · exact h3 i (by omega)
theorem WantA.done {c a : Int} (h : WantA j l k c a) (hk : k ≤ l.length) (hn : ¬ ((k : Int) < l.length ∧ c = 0)) : wantFault j l = (c, a) := by
  rcases h with h | h
  · exact h.2
  · obtain ⟨rfl, rfl, h2, h3⟩ := h
    exact wantFault_no h2 fun i hi => h3 i (by omega)
theorem wantRow_fault (h : wantHead j l = (0, 0)) (hk : k < l.length) : (rowFault j.To.length (wantRow j (nth l k)) ≠ 0) ↔ wantBad j (nth l k) := by
  obtain ⟨h1, h2, h3⟩ := wantHead_zero (j := j) (l := l) (by rw [h])
  have hr := rowFault_zero ((rowsFault_zero h3).2 k hk)
  have hlen : ¬ (j.To.length : Int) < ((wantRow j (nth l k)).Of.length : Int) := by
    show ¬ _ < ((wantOf j (nth l k) j.To.length).length : Int)
    rw [wantOf_len]; omega
  constructor
  · intro h
    refine Decidable.of_not_not fun hn => h ?_
    exact rowFault_no hr.1 hlen hn
  · intro hb
    rw [rowFault_out (r := wantRow j (nth l k)) hr.1 hlen hb]; decide
end
end Go.Um
