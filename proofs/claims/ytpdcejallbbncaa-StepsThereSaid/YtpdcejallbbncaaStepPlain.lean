/- Plans as clauses: the list that both programs make. No program is in sight. -/
import Derived.Test.YtpdcejallbbncaaEasyPlain
namespace Go.Um
def factV (q : Quest) (f t : Int) : Int := t * q.Facts + f + 1
def actV (q : Quest) (n a t : Int) : Int := (n + 1) * q.Facts + t * (q.Acts.length : Int) + a + 1
def varsN (q : Quest) (n : Int) : Int := (n + 1) * q.Facts + n * (q.Acts.length : Int)
/-- the parts of a time's clauses -/
def tAll (q : Quest) (n t : Int) (k : Nat) : List Int := (List.range k).map fun (a : Nat) => actV q n a t
def tPair (q : Quest) (n t : Int) (a b : Nat) : List (List Int) := (List.range b).map fun (b : Nat) => [-actV q n b t, -actV q n a t]
def tPairs (q : Quest) (n t : Int) (k : Nat) : List (List Int) := (List.range k).flatMap fun a => tPair q n t a a
def tPos (q : Quest) (t : Int) (no : Int) (l : List Int) : List (List Int) := l.map fun f => [factV q f t, no]
def tNeg (q : Quest) (t : Int) (no : Int) (l : List Int) : List (List Int) := l.map fun f => [-factV q f t, no]
def tAct (q : Quest) (n t : Int) (a : Nat) : List (List Int) := tPos q t (-actV q n a t) (nth q.Acts a).Need ++ tNeg q t (-actV q n a t) (nth q.Acts a).Bar ++ tPos q (t + 1) (-actV q n a t) (nth q.Acts a).Add ++ tNeg q (t + 1) (-actV q n a t) (nth q.Acts a).Drop
def tActs (q : Quest) (n t : Int) (k : Nat) : List (List Int) := (List.range k).flatMap (tAct q n t)
def tRise (q : Quest) (n t : Int) (f k : Nat) : List Int := [factV q f t, -factV q f (t + 1)] ++ ((List.range k).filter fun a => hasB (nth q.Acts a).Add (f : Nat)).map fun (a : Nat) => actV q n a t
def tFall (q : Quest) (n t : Int) (f k : Nat) : List Int := [-factV q f t, factV q f (t + 1)] ++ ((List.range k).filter fun a => hasB (nth q.Acts a).Drop (f : Nat)).map fun (a : Nat) => actV q n a t
def tFrames (q : Quest) (n t : Int) (k : Nat) : List (List Int) := (List.range k).flatMap fun f => [tRise q n t f q.Acts.length, tFall q n t f q.Acts.length]
def timeC (q : Quest) (n t : Int) : List (List Int) := [tAll q n t q.Acts.length] ++ tPairs q n t q.Acts.length ++ tActs q n t q.Acts.length ++ tFrames q n t q.Facts.toNat
def cFirst (q : Quest) (k : Nat) : List (List Int) := (List.range k).map fun (f : Nat) => if hasB q.First (f : Nat) = true then [factV q f 0] else [-factV q f 0]
def cTimes (q : Quest) (n : Int) (k : Nat) : List (List Int) := (List.range k).flatMap fun (t : Nat) => timeC q n t
def cGoal (q : Quest) (n : Int) (l : List Int) : List (List Int) := l.map fun f => [factV q f n]
def clausesQ (q : Quest) (n : Int) : List (List Int) := cFirst q q.Facts.toNat ++ cTimes q n n.toNat ++ cGoal q n q.Goal
section
variable {q : Quest} {n t no : Int} {k a b f : Nat} {l : List Int}
theorem tAll_next : tAll q n t (k + 1) = tAll q n t k ++ [actV q n k t] := by rw [tAll, List.range_succ, List.map_append]; rfl
theorem tAll_len : (tAll q n t k).length = k := by simp [tAll]
theorem tPair_next : tPair q n t a (b + 1) = tPair q n t a b ++ [[-actV q n b t, -actV q n a t]] := by rw [tPair, List.range_succ, List.map_append]; rfl
theorem tPairs_next : tPairs q n t (k + 1) = tPairs q n t k ++ tPair q n t k k := by rw [tPairs, List.range_succ, List.flatMap_append]; simp [tPairs]
theorem tPos_next {i : Nat} (h : i < l.length) : tPos q t no (l.take (i + 1)) = tPos q t no (l.take i) ++ [[factV q (nth l i) t, no]] := by rw [take_succ_nth h, tPos, List.map_append]; rfl
theorem tNeg_next {i : Nat} (h : i < l.length) : tNeg q t no (l.take (i + 1)) = tNeg q t no (l.take i) ++ [[-factV q (nth l i) t, no]] := by rw [take_succ_nth h, tNeg, List.map_append]; rfl
theorem tActs_next : tActs q n t (k + 1) = tActs q n t k ++ tAct q n t k := by rw [tActs, List.range_succ, List.flatMap_append]; simp [tActs]
theorem tRise_yes (h : hasB (nth q.Acts k).Add (f : Nat) = true) : tRise q n t f (k + 1) = tRise q n t f k ++ [actV q n k t] := by
  rw [tRise, List.range_succ, List.filter_append]; simp [tRise, h]
theorem tRise_no (h : ¬ hasB (nth q.Acts k).Add (f : Nat) = true) : tRise q n t f (k + 1) = tRise q n t f k := by
  rw [tRise, List.range_succ, List.filter_append]; simp [tRise, h]
theorem tFall_yes (h : hasB (nth q.Acts k).Drop (f : Nat) = true) : tFall q n t f (k + 1) = tFall q n t f k ++ [actV q n k t] := by
  rw [tFall, List.range_succ, List.filter_append]; simp [tFall, h]
theorem tFall_no (h : ¬ hasB (nth q.Acts k).Drop (f : Nat) = true) : tFall q n t f (k + 1) = tFall q n t f k := by
  rw [tFall, List.range_succ, List.filter_append]; simp [tFall, h]
theorem tRise_len : (tRise q n t f k).length ≤ k + 2 := by
  have := List.length_filter_le (fun a => hasB (nth q.Acts a).Add (f : Nat)) (List.range k)
  simp [tRise] at this ⊢; omega
theorem tFall_len : (tFall q n t f k).length ≤ k + 2 := by
  have := List.length_filter_le (fun a => hasB (nth q.Acts a).Drop (f : Nat)) (List.range k)
  simp [tFall] at this ⊢; omega
theorem tFrames_next : tFrames q n t (k + 1) = tFrames q n t k ++ [tRise q n t k q.Acts.length] ++ [tFall q n t k q.Acts.length] := by
  rw [tFrames, List.range_succ, List.flatMap_append]; simp [tFrames]
theorem cFirst_yes (h : hasB q.First (k : Nat) = true) : cFirst q (k + 1) = cFirst q k ++ [[factV q k 0]] := by
  rw [cFirst, List.range_succ, List.map_append]; simp [cFirst, h]
theorem cFirst_no (h : ¬ hasB q.First (k : Nat) = true) : cFirst q (k + 1) = cFirst q k ++ [[-factV q k 0]] := by
  rw [cFirst, List.range_succ, List.map_append]; simp [cFirst, h]
theorem cTimes_next : cTimes q n (k + 1) = cTimes q n k ++ timeC q n k := by rw [cTimes, List.range_succ, List.flatMap_append]; simp [cTimes]
theorem cGoal_next {i : Nat} (h : i < l.length) : cGoal q n (l.take (i + 1)) = cGoal q n (l.take i) ++ [[factV q (nth l i) n]] := by rw [take_succ_nth h, cGoal, List.map_append]; rfl
/-! ### How far the numbers go -/
theorem mul_le {x y A B : Int} (hx : 0 ≤ x ∧ x ≤ A) (hy : 0 ≤ y ∧ y ≤ B) : 0 ≤ x * y ∧ x * y ≤ A * B := ⟨Int.mul_nonneg hx.1 hy.1, Int.mul_le_mul hx.2 hy.2 hy.1 (by omega)⟩
theorem fact_rng (hq : QW q) {f t : Int} (hf : 0 ≤ f ∧ f ≤ 16) (ht : 0 ≤ t ∧ t ≤ 21) : 0 ≤ t * q.Facts ∧ t * q.Facts ≤ 336 ∧ 1 ≤ factV q f t ∧ factV q f t ≤ 353 := by
  have h1 := mul_le (x := t) (y := q.Facts) (A := 21) (B := 16) ht (by have := hq.facts; omega)
  unfold factV; omega
theorem act_rng (hq : QW q) {n a t : Int} (hn : 0 ≤ n ∧ n ≤ 20) (ha : 0 ≤ a ∧ a ≤ 12) (ht : 0 ≤ t ∧ t ≤ 21) : 0 ≤ (n + 1) * q.Facts ∧ (n + 1) * q.Facts ≤ 336 ∧ 0 ≤ t * (q.Acts.length : Int) ∧ t * (q.Acts.length : Int) ≤ 252 ∧ 1 ≤ actV q n a t ∧ actV q n a t ≤ 601 := by
  have h1 := mul_le (x := n + 1) (y := q.Facts) (A := 21) (B := 16) (by omega) (by have := hq.facts; omega)
  have h2 := mul_le (x := t) (y := (q.Acts.length : Int)) (A := 21) (B := 12) ht (by have := hq.many; omega)
  unfold actV; omega
theorem vars_rng (hq : QW q) {n : Int} (hn : 0 ≤ n ∧ n ≤ 20) : 0 ≤ (n + 1) * q.Facts ∧ (n + 1) * q.Facts ≤ 336 ∧ 0 ≤ n * (q.Acts.length : Int) ∧ n * (q.Acts.length : Int) ≤ 240 ∧ 0 ≤ varsN q n ∧ varsN q n ≤ 576 := by
  have h1 := mul_le (x := n + 1) (y := q.Facts) (A := 21) (B := 16) (by omega) (by have := hq.facts; omega)
  have h2 := mul_le (x := n) (y := (q.Acts.length : Int)) (A := 20) (B := 12) hn (by have := hq.many; omega)
  unfold varsN; omega
end
/-! ### What is wrong with a problem and a number -/
def chkF (q : Quest) (n : Int) : Int × Int := if (questFault q).1 ≠ 0 then questFault q else if n < 0 ∨ 20 < n then (3, -2) else if 120 < varsN q n then (10, 0) else (0, 0)
section
variable {q : Quest} {n : Int}
theorem chkF_1 (h : (questFault q).1 ≠ 0) : chkF q n = questFault q := if_pos h
theorem chkF_2 (h : ¬ (questFault q).1 ≠ 0) (h2 : n < 0 ∨ 20 < n) : chkF q n = (3, -2) := by rw [chkF, if_neg h, if_pos h2]
theorem chkF_3 (h : ¬ (questFault q).1 ≠ 0) (h2 : ¬ (n < 0 ∨ 20 < n)) (h3 : 120 < varsN q n) : chkF q n = (10, 0) := by rw [chkF, if_neg h, if_neg h2, if_pos h3]
theorem chkF_4 (h : ¬ (questFault q).1 ≠ 0) (h2 : ¬ (n < 0 ∨ 20 < n)) (h3 : ¬ 120 < varsN q n) : chkF q n = (0, 0) := by rw [chkF, if_neg h, if_neg h2, if_neg h3]
theorem chkF_zero (h : (chkF q n).1 = 0) : chkF q n = (0, 0) ∧ QW q ∧ (questFault q).1 = 0 ∧ (0 ≤ n ∧ n ≤ 20) ∧ varsN q n ≤ 120 := by
  unfold chkF at h ⊢
  split at h
  · rename_i h1; exact absurd h h1
  · rename_i h1
    split at h
    · exact absurd h (by decide)
    · rename_i h2
      split at h
      · exact absurd h (by decide)
      · rename_i h3
        rw [if_neg h1, if_neg h2, if_neg h3]
        exact ⟨rfl, QW.of (Decidable.of_not_not h1), Decidable.of_not_not h1, by omega, by omega⟩
end
/-! ### What is handed back -/
def doF (q : Quest) (n : Int) : Int × Int := if (chkF q n).1 ≠ 0 then chkF q n else if 400 < ((clausesQ q n).length : Int) then (10, 0) else (0, 0)
def doV (q : Quest) (n : Int) : Int := if (doF q n).1 ≠ 0 then 0 else varsN q n
def doC (q : Quest) (n : Int) : List (List Int) := if (doF q n).1 ≠ 0 then [] else clausesQ q n
section
variable {q : Quest} {n t : Int} {k : Nat}
theorem flat_le {α β : Type} {g : α → List β} {B : Nat} : ∀ {l : List α}, (∀ x ∈ l, (g x).length ≤ B) → (l.flatMap g).length ≤ l.length * B
  | [], _ => by simp
  | x :: l, h => by
    have h1 := h x (List.mem_cons_self ..)
    have h2 := flat_le (l := l) fun y hy => h y (List.mem_cons_of_mem _ hy)
    rw [List.flatMap_cons, List.length_append, List.length_cons, Nat.add_mul]; omega
theorem timeC_len (hq : QW q) : (timeC q n t).length ≤ 2000 := by
  have hm := hq.many
  have hf := hq.facts
  have h1 : (tPairs q n t q.Acts.length).length ≤ q.Acts.length * 12 := by
    have := flat_le (B := 12) (l := List.range q.Acts.length) (g := fun a => tPair q n t a a) fun x hx => by
      have := List.mem_range.1 hx
      simp [tPair]; omega
    simpa [tPairs] using this
  have h2 : (tActs q n t q.Acts.length).length ≤ q.Acts.length * 64 := by
    have := flat_le (B := 64) (l := List.range q.Acts.length) (g := tAct q n t) fun x hx => by
      have hx := List.mem_range.1 hx
      have ha := hq.form x hx
      have hF0 : 0 ≤ q.Facts := by omega
      have n1 := ha.1.1.1.len hF0
      have n2 := ha.1.1.2.len hF0
      have n3 := ha.1.2.len hF0
      have n4 := ha.2.len hF0
      simp [tAct, tPos, tNeg]; omega
    simpa [tActs] using this
  have h3 : (tFrames q n t q.Facts.toNat).length ≤ q.Facts.toNat * 2 := by
    have := flat_le (B := 2) (l := List.range q.Facts.toNat) (g := fun f => [tRise q n t f q.Acts.length, tFall q n t f q.Acts.length]) fun x _ => by simp
    simpa [tFrames] using this
  have h4 : q.Acts.length * 12 ≤ 12 * 12 := Nat.mul_le_mul hm (Nat.le_refl _)
  have h5 : q.Acts.length * 64 ≤ 12 * 64 := Nat.mul_le_mul hm (Nat.le_refl _)
  simp [timeC]; omega
theorem doF_chk (h : (chkF q n).1 ≠ 0) : doF q n = chkF q n ∧ doV q n = 0 ∧ doC q n = [] := by
  have h1 : doF q n = chkF q n := if_pos h
  exact ⟨h1, by rw [doV, h1, if_pos h], by rw [doC, h1, if_pos h]⟩
theorem doF_much (h : ¬ (chkF q n).1 ≠ 0) (h2 : 400 < ((clausesQ q n).length : Int)) : doF q n = (10, 0) ∧ doV q n = 0 ∧ doC q n = [] := by
  have h1 : doF q n = (10, 0) := by rw [doF, if_neg h, if_pos h2]
  exact ⟨h1, by rw [doV, h1, if_pos (by decide)], by rw [doC, h1, if_pos (by decide)]⟩
theorem doF_ok (h : ¬ (chkF q n).1 ≠ 0) (h2 : ¬ 400 < ((clausesQ q n).length : Int)) : doF q n = (0, 0) ∧ doV q n = varsN q n ∧ doC q n = clausesQ q n := by
  have h1 : doF q n = (0, 0) := by rw [doF, if_neg h, if_neg h2]
  exact ⟨h1, by rw [doV, h1, if_neg (by decide)], by rw [doC, h1, if_neg (by decide)]⟩
end
/-! ### The plan of an assignment -/
def bkTo (q : Quest) (n : Int) (holds : List Bool) (t : Int) : Nat → Int
  | 0 => -1
  | k + 1 => if bkTo q n holds t k < 0 ∧ nth holds (actV q n (k : Int) t - 1).toNat = true then (k : Int) else bkTo q n holds t k
def bkAt (q : Quest) (n : Int) (holds : List Bool) (t : Int) : Int := bkTo q n holds t q.Acts.length
def backL (q : Quest) (n : Int) (holds : List Bool) (u : Nat) : List Int := (List.range u).map fun (t : Nat) => bkAt q n holds t
def bkBad (q : Quest) (n : Int) (holds : List Bool) (t : Nat) : Option (Int × Int) := if bkAt q n holds t < 0 then some (6, (t : Int)) else none
def backF (q : Quest) (n : Int) (holds : List Bool) : Int × Int := if (chkF q n).1 ≠ 0 then chkF q n else if (holds.length : Int) ≠ varsN q n then (9, -3) else (fst1 (bkBad q n holds) 0 n.toNat).getD (0, 0)
def backP (q : Quest) (n : Int) (holds : List Bool) : List Int := if (backF q n holds).1 ≠ 0 then [] else backL q n holds n.toNat
section
variable {q : Quest} {n t : Int} {holds : List Bool} {k u : Nat}
theorem backL_next : backL q n holds (u + 1) = backL q n holds u ++ [bkAt q n holds u] := by rw [backL, List.range_succ, List.map_append]; rfl
theorem backL_len : (backL q n holds u).length = u := by simp [backL]
theorem bkTo_yes (h : bkTo q n holds t k < 0 ∧ nth holds (actV q n (k : Int) t - 1).toNat = true) : bkTo q n holds t (k + 1) = (k : Int) := if_pos h
theorem bkTo_no (h : ¬ (bkTo q n holds t k < 0 ∧ nth holds (actV q n (k : Int) t - 1).toNat = true)) : bkTo q n holds t (k + 1) = bkTo q n holds t k := if_neg h
theorem bkTo_rng : ∀ k, -1 ≤ bkTo q n holds t k ∧ bkTo q n holds t k < (k : Int) ∨ bkTo q n holds t k = -1
  | 0 => .inr rfl
  | k + 1 => by
    have ih := bkTo_rng k
    unfold bkTo
    split
    · exact .inl ⟨by omega, by omega⟩
    · rcases ih with ih | ih
      · exact .inl ⟨by omega, by omega⟩
      · exact .inr ih
theorem act_lt (hq : QW q) (hn : 0 ≤ n ∧ n ≤ 20) (hu : (u : Int) < n) (hk : k < q.Acts.length) : 0 ≤ actV q n (k : Int) (u : Int) - 1 ∧ actV q n (k : Int) (u : Int) - 1 < varsN q n := by
  have h1 := act_rng hq (a := (k : Int)) (t := (u : Int)) hn (by have := hq.many; omega) (by omega)
  have h2 : ((u : Int) + 1) * (q.Acts.length : Int) ≤ n * (q.Acts.length : Int) := Int.mul_le_mul_of_nonneg_right (by omega) (by omega)
  rw [Int.add_mul, Int.one_mul] at h2
  unfold varsN
  have h3 : actV q n (k : Int) (u : Int) = (n + 1) * q.Facts + (u : Int) * (q.Acts.length : Int) + (k : Int) + 1 := rfl
  omega
theorem backF_1 (h : (chkF q n).1 ≠ 0) : backF q n holds = chkF q n ∧ backP q n holds = [] := by
  have h1 : backF q n holds = chkF q n := if_pos h
  exact ⟨h1, by rw [backP, h1, if_pos h]⟩
theorem backF_2 (h : ¬ (chkF q n).1 ≠ 0) (h2 : (holds.length : Int) ≠ varsN q n) : backF q n holds = (9, -3) ∧ backP q n holds = [] := by
  have h1 : backF q n holds = (9, -3) := by rw [backF, if_neg h, if_pos h2]
  exact ⟨h1, by rw [backP, h1, if_pos (by decide)]⟩
theorem backF_3 (h : ¬ (chkF q n).1 ≠ 0) (h2 : ¬ (holds.length : Int) ≠ varsN q n) (hu : u < n.toNat) (hno : ∀ j, j < u → ¬ bkAt q n holds j < 0) (hy : bkAt q n holds u < 0) : backF q n holds = (6, (u : Int)) ∧ backP q n holds = [] := by
  have h1 : backF q n holds = (6, (u : Int)) := by
    have hb : bkBad q n holds u = some (6, (u : Int)) := if_pos hy
    have hbn : ∀ j, 0 ≤ j → j < u → bkBad q n holds j = none := fun j _ hj => if_neg (hno j hj)
    rw [backF, if_neg h, if_neg h2, fst1_some (g := bkBad q n holds) hb (Nat.zero_le u) (by omega) hbn]; rfl
  exact ⟨h1, by rw [backP, h1]; exact if_pos (show (6 : Int) ≠ 0 by decide)⟩
theorem backF_4 (h : ¬ (chkF q n).1 ≠ 0) (h2 : ¬ (holds.length : Int) ≠ varsN q n) (hno : ∀ j, j < n.toNat → ¬ bkAt q n holds j < 0) : backF q n holds = (0, 0) ∧ backP q n holds = backL q n holds n.toNat := by
  have h1 : backF q n holds = (0, 0) := by
    have hbn : ∀ j, 0 ≤ j → j < 0 + n.toNat → bkBad q n holds j = none := fun j _ hj => if_neg (hno j (by omega))
    rw [backF, if_neg h, if_neg h2, fst1_none (g := bkBad q n holds) hbn]; rfl
  exact ⟨h1, by rw [backP, h1, if_neg (by decide)]⟩
end
end Go.Um
