/- Transition systems: what is wrong with one, its states, where they lead. No program is in sight. -/
import Derived.Test.YtfgibfbgklkgbaaLoopPlain
import Derived.Test.YtfgibfbgklkgbaaSearch
namespace Go.Um

theorem nth_range' {β : Type} [Inhabited β] {g : Nat → β} {n f : Nat} (h : f < n) : nth ((List.range n).map g) f = g f := by simp [nth, h]
theorem nth_ext' {β : Type} [Inhabited β] {l m : List β} (hl : l.length = m.length) (h : ∀ k, k < l.length → nth l k = nth m k) : l = m := by
  apply List.ext_getElem hl
  intro k h1 h2
  have := h k h1
  rwa [nth_eq h1, nth_eq h2] at this
theorem nodup_le {α : Type} [DecidableEq α] : ∀ {L S : List α}, L.Nodup → (∀ x ∈ L, x ∈ S) → L.length ≤ S.length
  | [], _, _, _ => Nat.zero_le _
  | a :: L, S, h, hs => by
    have ha := hs a (List.mem_cons_self ..)
    have h2 := List.nodup_cons.1 h
    have ih := nodup_le (L := L) (S := S.erase a) h2.2 fun x hx => (List.mem_erase_of_ne (fun e : x = a => h2.1 (by rw [← e]; exact hx))).2 (hs x (List.mem_cons_of_mem _ hx))
    rw [List.length_erase_of_mem ha] at ih
    have : 0 < S.length := List.length_pos_of_mem ha
    rw [List.length_cons]; omega

/-! ### Rows that hold -/
def dotTo (c s : List Int) : Nat → Int := sumTo fun k => nth c k * nth s k
def dotL (c s : List Int) : Int := dotTo c s c.length
def rowOut (r : LRow) (n : Int) : Prop := (r.Kind = 1 ∧ r.To < n) ∨ (r.Kind = 2 ∧ r.To ≤ n) ∨ (r.Kind = 3 ∧ n ≠ r.To)
instance {r : LRow} {n : Int} : Decidable (rowOut r n) := by unfold rowOut; infer_instance
def holdB (l : List LRow) (s : List Int) : Bool := decide (∀ k, k < l.length → ¬ rowOut (nth l k) (dotL (nth l k).Of s))
def wrapI (n : Int) : Int := IntKind.i64.wrap n
theorem wrapI_in {n : Int} (h : In64 n) : wrapI n = n := wrap_in h
theorem wrapI_zero : (0 : Int) = wrapI 0 := by decide
theorem wrapI_add {a b : Int} : wrapI (wrapI a + b) = wrapI (a + b) := by
  simp only [wrapI, IntKind.wrap, IntKind.bits, IntKind.signed]
  simp
  omega
/-- States whose numbers are not too great. -/
def Small (s : List Int) : Prop := ∀ k, k < s.length → -1000000 ≤ nth s k ∧ nth s k ≤ 1000000
theorem dot_bound {r : LRow} {s : List Int} {N : Int} (hr : rowFault N r = 0) (hN : N ≤ 8) (hs : Small s) (hl : N ≤ s.length) {k : Nat} (hk : k < r.Of.length) :
    -1000000000000 ≤ nth r.Of k * nth s k ∧ nth r.Of k * nth s k ≤ 1000000000000 := by
  have h1 := rowFault_zero hr
  exact mul_whole (outs_false h1.2.2.1 hk) (hs k (by omega))
theorem dotS_bound {r : LRow} {s : List Int} {N : Int} (hr : rowFault N r = 0) (hN : N ≤ 8) (hs : Small s) (hl : N ≤ s.length) {k : Nat} (hk : k ≤ r.Of.length) :
    -8000000000000 ≤ dotTo r.Of s k ∧ dotTo r.Of s k ≤ 8000000000000 := by
  have h1 := rowFault_zero hr
  have h2 := sumTo_bound (g := fun k => nth r.Of k * nth s k) (b := 1000000000000) (n := k) fun i hi => dot_bound hr hN hs hl (by omega)
  have h3 : (k : Int) ≤ 8 := by omega
  unfold dotTo
  omega
theorem rowOut_iff {r : LRow} {n : Int} (h : 1 ≤ r.Kind ∧ r.Kind ≤ 3) : ((r.To < n ∨ (n = r.To ∧ r.Kind = 2)) ∨ (n < r.To ∧ r.Kind = 3)) ↔ rowOut r n := by
  unfold rowOut
  constructor
  · rintro ((h1 | h1) | h1)
    · have : r.Kind = 1 ∨ r.Kind = 2 ∨ r.Kind = 3 := by omega
      rcases this with h2 | h2 | h2
      · exact .inl ⟨h2, h1⟩
      · exact .inr (.inl ⟨h2, by omega⟩)
      · exact .inr (.inr ⟨h2, by omega⟩)
    · exact .inr (.inl ⟨h1.2, by omega⟩)
    · exact .inr (.inr ⟨h1.2, by omega⟩)
  · rintro (h1 | h1 | h1)
    · exact .inl (.inl h1.2)
    · by_cases h2 : n = r.To
      · exact .inl (.inr ⟨h2, h1.1⟩)
      · exact .inl (.inl (by omega))
    · by_cases h2 : r.To < n
      · exact .inl (.inl h2)
      · exact .inr ⟨by omega, h1.1⟩

/-! ### What is wrong with one -/
def facI (l : Loop) (k : Nat) : Int := nth l.High k - nth l.Low k + 1
def boxTo (l : Loop) : Nat → Int
  | 0 => 1
  | k + 1 => boxTo l k * facI l k
def rngBad (l : Loop) (k : Nat) : Prop := (nth l.Low k < -1000000 ∨ 1000000 < nth l.High k) ∨ nth l.High k < nth l.Low k
instance {l : Loop} {k : Nat} : Decidable (rngBad l k) := by unfold rngBad; infer_instance
theorem rng_iff (l : Loop) (k : Nat) : ((¬ (-1000000 ≤ nth l.Low k ∧ nth l.Low k ≤ 1000000) ∨ ¬ (-1000000 ≤ nth l.High k ∧ nth l.High k ≤ 1000000)) ∨ nth l.High k < nth l.Low k) ↔ rngBad l k := by
  unfold rngBad; omega
def boxBad (l : Loop) (k : Nat) : Int := if rngBad l k then 3 else if 1200 < boxTo l (k + 1) then 10 else 0
def jumpsFault (l : Loop) : Nat → Option (Int × Int) := fun k => if jumpFault (nth l.Jumps k) l.Low.length ≠ 0 then some (jumpFault (nth l.Jumps k) l.Low.length, (k : Int)) else none
def loopFault (l : Loop) : Int × Int :=
  if (l.Low.length : Int) < 1 ∨ 8 < (l.Low.length : Int) then (2, -1) else if (l.High.length : Int) ≠ l.Low.length then (9, -1)
  else if fstN (boxBad l) l.Low.length ≠ 0 then (fstN (boxBad l) l.Low.length, -1) else if 6 < (l.Jumps.length : Int) then (2, -1)
  else if rowsFault l.Start l.Low.length ≠ 0 then (rowsFault l.Start l.Low.length, -2)
  else match fst1 (jumpsFault l) 0 l.Jumps.length with
    | some x => x
    | none => if rowsFault l.Bad l.Low.length ≠ 0 then (rowsFault l.Bad l.Low.length, -3) else (0, 0)
/-- One that nothing is wrong with. -/
structure LW (l : Loop) : Prop where
  many : 1 ≤ (l.Low.length : Int) ∧ (l.Low.length : Int) ≤ 8
  high : l.High.length = l.Low.length
  rng : ∀ k, k < l.Low.length → ¬ rngBad l k
  box : ∀ k, k ≤ l.Low.length → boxTo l k ≤ 1200
  jumps : l.Jumps.length ≤ 6
  start : rowsFault l.Start l.Low.length = 0
  jump : ∀ k, k < l.Jumps.length → JW (nth l.Jumps k) l.Low.length
  bad : rowsFault l.Bad l.Low.length = 0
section
variable {l : Loop} {k : Nat}
def LH1 (l : Loop) : Prop := ¬ ((l.Low.length : Int) < 1 ∨ 8 < (l.Low.length : Int))
def LH2 (l : Loop) : Prop := ¬ (l.High.length : Int) ≠ l.Low.length
theorem loopFault_1 (h : (l.Low.length : Int) < 1 ∨ 8 < (l.Low.length : Int)) : loopFault l = (2, -1) := if_pos h
theorem loopFault_2 (h : LH1 l) (h2 : (l.High.length : Int) ≠ l.Low.length) : loopFault l = (9, -1) := by rw [loopFault, if_neg h, if_pos h2]
theorem loopFault_3 (h : LH1 l) (h2 : LH2 l) (hk : k < l.Low.length) (hp : ∀ j, j < k → boxBad l j = 0) {c : Int} (hc : boxBad l k = c) (h0 : c ≠ 0) : loopFault l = (c, -1) := by
  have h3 : fstN (boxBad l) l.Low.length = c := by rw [fstN_at hk hp (by rw [hc]; exact h0), hc]
  rw [loopFault, if_neg h, if_neg h2, h3, if_pos h0]
theorem boxBad_rng (h : rngBad l k) : boxBad l k = 3 := if_pos h
theorem boxBad_much (h : ¬ rngBad l k) (h2 : 1200 < boxTo l (k + 1)) : boxBad l k = 10 := by rw [boxBad, if_neg h, if_pos h2]
theorem boxBad_no (h : ¬ rngBad l k) (h2 : ¬ 1200 < boxTo l (k + 1)) : boxBad l k = 0 := by rw [boxBad, if_neg h, if_neg h2]
def LH3 (l : Loop) : Prop := ∀ j, j < l.Low.length → boxBad l j = 0
theorem loopFault_4 (h : LH1 l) (h2 : LH2 l) (h3 : LH3 l) (h4 : 6 < (l.Jumps.length : Int)) : loopFault l = (2, -1) := by
  rw [loopFault, if_neg h, if_neg h2, fstN_no h3, if_neg (by decide), if_pos h4]
theorem loopFault_5 (h : LH1 l) (h2 : LH2 l) (h3 : LH3 l) (h4 : ¬ 6 < (l.Jumps.length : Int)) (h5 : rowsFault l.Start l.Low.length ≠ 0) : loopFault l = (rowsFault l.Start l.Low.length, -2) := by
  rw [loopFault, if_neg h, if_neg h2, fstN_no h3, if_neg (by decide), if_neg h4, if_pos h5]
theorem loopFault_6 (h : LH1 l) (h2 : LH2 l) (h3 : LH3 l) (h4 : ¬ 6 < (l.Jumps.length : Int)) (h5 : ¬ rowsFault l.Start l.Low.length ≠ 0) (hk : k < l.Jumps.length) (hp : ∀ j, j < k → jumpFault (nth l.Jumps j) l.Low.length = 0)
    (h6 : jumpFault (nth l.Jumps k) l.Low.length ≠ 0) : loopFault l = (jumpFault (nth l.Jumps k) l.Low.length, (k : Int)) := by
  have hf : fst1 (jumpsFault l) 0 l.Jumps.length = some (jumpFault (nth l.Jumps k) l.Low.length, (k : Int)) :=
    fst1_some (g := jumpsFault l) (k := k) (by simp only [jumpsFault]; rw [if_pos h6]) (Nat.zero_le _) (by omega) fun j _ hj => by simp only [jumpsFault]; rw [if_neg (not_not_intro (hp j hj))]
  rw [loopFault, if_neg h, if_neg h2, fstN_no h3, if_neg (by decide), if_neg h4, if_neg h5, hf]
theorem loopFault_78 (h : LH1 l) (h2 : LH2 l) (h3 : LH3 l) (h4 : ¬ 6 < (l.Jumps.length : Int)) (h5 : ¬ rowsFault l.Start l.Low.length ≠ 0) (hp : ∀ j, j < l.Jumps.length → jumpFault (nth l.Jumps j) l.Low.length = 0) :
    loopFault l = if rowsFault l.Bad l.Low.length ≠ 0 then (rowsFault l.Bad l.Low.length, -3) else (0, 0) := by
  have hf : fst1 (jumpsFault l) 0 l.Jumps.length = none := fst1_none fun j _ hj => by simp only [jumpsFault]; rw [if_neg (not_not_intro (hp j (by omega)))]
  rw [loopFault, if_neg h, if_neg h2, fstN_no h3, if_neg (by decide), if_neg h4, if_neg h5, hf]
theorem fst1_none_at' {β : Type} {g : Nat → Option β} {n i : Nat} (h : fst1 g i n = none) : ∀ j, i ≤ j → j < i + n → g j = none := by
  induction n generalizing i with
  | zero => intro j h1 h2; omega
  | succ n ih =>
    intro j h1 h2
    simp only [fst1] at h
    split at h
    · cases h
    · rename_i h0
      by_cases hj : j = i
      · rw [hj]; exact h0
      · exact ih h j (by omega) (by omega)
theorem fst1_mem' {β : Type} {g : Nat → Option β} {x : β} {n i : Nat} (h : fst1 g i n = some x) : ∃ j, g j = some x := by
  induction n generalizing i with
  | zero => simp [fst1] at h
  | succ n ih =>
    simp only [fst1] at h
    split at h
    · rename_i y h0; exact ⟨i, by rw [h0, h]⟩
    · exact ih h
theorem LW.of (h : (loopFault l).1 = 0) : LW l := by
  unfold loopFault at h
  split at h
  · cases h
  · split at h
    · cases h
    · split at h
      · rename_i h3; exact absurd h h3
      · split at h
        · cases h
        · split at h
          · rename_i h5; exact absurd h h5
          · rename_i h1 h2 h3 h4 h5
            have hb := fstN_zero (Decidable.of_not_not h3)
            have hb2 : ∀ k, k < l.Low.length → ¬ rngBad l k ∧ ¬ 1200 < boxTo l (k + 1) := fun k hk => by
              have := hb k hk
              unfold boxBad at this
              split at this
              · cases this
              · split at this
                · cases this
                · rename_i h6 h7; exact ⟨h6, h7⟩
            cases hf : fst1 (jumpsFault l) 0 l.Jumps.length with
            | some x =>
              rw [hf] at h
              obtain ⟨j, hj⟩ := fst1_mem' hf
              simp only [jumpsFault] at hj
              split at hj
              · rename_i h6; cases hj; exact absurd h h6
              · cases hj
            | none =>
              rw [hf] at h
              have hj := fst1_none_at' hf
              simp only at h
              split at h
              · rename_i h6; exact absurd h h6
              · rename_i h6
                refine ⟨by omega, by omega, fun k hk => (hb2 k hk).1, fun k hk => ?_, by omega, Decidable.of_not_not h5, fun k hk => JW.of ?_, Decidable.of_not_not h6⟩
                · cases k with
                  | zero => show (1 : Int) ≤ 1200; decide
                  | succ k => have := (hb2 k (by omega)).2; omega
                · have := hj k (Nat.zero_le _) (by omega)
                  simp only [jumpsFault] at this
                  split at this
                  · cases this
                  · rename_i h7; exact Decidable.of_not_not h7
theorem LW.code (h : LW l) : loopFault l = (0, 0) := by
  have h1 : LH1 l := by have := h.many; unfold LH1; omega
  have h2 : LH2 l := by have := h.high; unfold LH2; omega
  have h3 : LH3 l := fun j hj => boxBad_no (h.rng j hj) (by have := h.box (j + 1) (by omega); omega)
  rw [loopFault_78 h1 h2 h3 (by have := h.jumps; omega) (not_not_intro h.start) fun j hj => ?_, if_neg (not_not_intro h.bad)]
  have hj2 := h.jump j hj
  exact jumpFault_no (not_not_intro hj2.when_) (not_not_intro hj2.len) fun i hi => toFault_no (not_not_intro (hj2.to i hi).1) (hj2.to i hi).2
theorem LW.fac (h : LW l) (hk : k < l.Low.length) : 1 ≤ facI l k ∧ facI l k ≤ 2000001 ∧ -1000000 ≤ nth l.Low k ∧ nth l.High k ≤ 1000000 ∧ nth l.Low k ≤ nth l.High k := by
  have := h.rng k hk
  unfold rngBad at this
  unfold facI
  omega
theorem box_start : ∀ j, j ≤ 0 → 1 ≤ boxTo l j ∧ boxTo l j ≤ 1200 := fun j hj => by
  have : j = 0 := by omega
  subst this
  exact ⟨Int.le_refl _, by show (1 : Int) ≤ 1200; decide⟩
theorem box_next (h : ∀ j, j ≤ k → 1 ≤ boxTo l j ∧ boxTo l j ≤ 1200) (h1 : 1 ≤ boxTo l (k + 1)) (h2 : ¬ 1200 < boxTo l (k + 1)) : ∀ j, j ≤ k + 1 → 1 ≤ boxTo l j ∧ boxTo l j ≤ 1200 := fun j hj => by
  by_cases hjk : j ≤ k
  · exact h j hjk
  · have : j = k + 1 := by omega
    subst this; exact ⟨h1, Int.not_lt.1 h2⟩
theorem mul_box {a b : Int} (ha : 1 ≤ a ∧ a ≤ 1200) (hb : 1 ≤ b ∧ b ≤ 2000001) : 1 ≤ a * b ∧ a * b ≤ 2400001200 := by
  have h1 : (a * b).natAbs ≤ 1200 * 2000001 := by rw [Int.natAbs_mul]; exact Nat.mul_le_mul (by omega) (by omega)
  have h2 : 0 < a * b := Int.mul_pos (by omega) (by omega)
  omega
end

/-! ### All states -/
def rngL (l : Loop) (i : Nat) : List Int := (List.range (facI l i).toNat).map fun x => nth l.Low i + (x : Nat)
def allTo (l : Loop) : Nat → List (List Int)
  | 0 => [[]]
  | i + 1 => (allTo l i).flatMap fun s => (rngL l i).map fun x => s ++ [x]
def statesF (l : Loop) : Nat → List Int → List (List Int)
  | 0, had => [had]
  | m + 1, had => (rngL l had.length).flatMap fun x => statesF l m (had ++ [x])
def statesL (l : Loop) : List (List Int) := allTo l l.Low.length
section
variable {l : Loop} {i m n : Nat}
theorem flatMap_len {α β : Type} {f : α → List β} {c : Nat} : ∀ {xs : List α}, (∀ x ∈ xs, (f x).length = c) → (xs.flatMap f).length = xs.length * c
  | [], _ => by simp
  | x :: xs, h => by
    rw [List.flatMap_cons, List.length_append, h x (List.mem_cons_self ..), flatMap_len fun y hy => h y (List.mem_cons_of_mem _ hy), List.length_cons, Nat.add_mul]; omega
theorem rngL_len : (rngL l i).length = (facI l i).toNat := by simp [rngL]
theorem allTo_len (h : LW l) : ∀ i, i ≤ l.Low.length → ((allTo l i).length : Int) = boxTo l i ∧ 1 ≤ boxTo l i
  | 0, _ => by simp [allTo, boxTo]
  | i + 1, hi => by
    have ih := allTo_len h i (by omega)
    have hf := h.fac (k := i) (by omega)
    have hb := h.box i (by omega)
    rw [allTo, flatMap_len (c := (facI l i).toNat) (fun s _ => by rw [List.length_map, rngL_len]), boxTo, ← ih.1]
    have hp := mul_box (a := boxTo l i) (b := facI l i) ⟨ih.2, hb⟩ ⟨hf.1, hf.2.1⟩
    rw [← ih.1] at hp
    refine ⟨?_, hp.1⟩
    rw [Int.natCast_mul]; congr 1; omega
theorem allTo_le (h : LW l) (hi : i ≤ l.Low.length) : (allTo l i).length ≤ 1200 := by
  have := allTo_len h i hi
  have := h.box i hi
  omega
theorem rngL_mem (h : LW l) (hi : i < l.Low.length) {x : Int} (hx : x ∈ rngL l i) : nth l.Low i ≤ x ∧ x ≤ nth l.High i := by
  obtain ⟨y, hy, rfl⟩ := List.mem_map.1 hx
  have := List.mem_range.1 hy
  have := h.fac hi
  unfold facI at *
  omega
def insideB (l : Loop) (s : List Int) : Bool := decide (∀ k, k < s.length → nth l.Low k ≤ nth s k ∧ nth s k ≤ nth l.High k)
theorem allTo_mem (h : LW l) : ∀ i, i ≤ l.Low.length → ∀ s ∈ allTo l i, s.length = i ∧ insideB l s = true
  | 0, _, s, hs => by
    rw [allTo, List.mem_singleton] at hs
    subst hs; exact ⟨rfl, decide_eq_true fun k hk => absurd hk (Nat.not_lt_zero k)⟩
  | i + 1, hi, s, hs => by
    obtain ⟨t, ht, h2⟩ := List.mem_flatMap.1 hs
    obtain ⟨x, hx, rfl⟩ := List.mem_map.1 h2
    have ih := allTo_mem h i (by omega) t ht
    refine ⟨by simp [ih.1], decide_eq_true fun k hk => ?_⟩
    by_cases hk2 : k < t.length
    · rw [nth_app_left hk2]; exact of_decide_eq_true ih.2 k hk2
    · have hke : k = t.length := by simp at hk; omega
      rw [hke, nth_app_last, ih.1]; exact rngL_mem h (by omega) hx
theorem inside_small (h : LW l) {s : List Int} (hl : s.length = l.Low.length) (hs : insideB l s = true) : Small s := fun k hk => by
  have h1 := of_decide_eq_true hs k hk
  have h2 := h.fac (k := k) (by omega)
  omega
theorem flatMap_congr' {α β : Type} {f g : α → List β} : ∀ {xs : List α}, (∀ x ∈ xs, f x = g x) → xs.flatMap f = xs.flatMap g
  | [], _ => rfl
  | x :: xs, h => by rw [List.flatMap_cons, List.flatMap_cons, h x (List.mem_cons_self ..), flatMap_congr' fun y hy => h y (List.mem_cons_of_mem _ hy)]
/-- One list, made from the front and from the back. -/
theorem allTo_flat (h : LW l) : ∀ i, i ≤ l.Low.length → (allTo l i).flatMap (statesF l (l.Low.length - i)) = statesF l l.Low.length []
  | 0, _ => by simp [allTo]
  | i + 1, hi => by
    rw [allTo, List.flatMap_assoc, ← allTo_flat h i (by omega)]
    refine flatMap_congr' fun s hs => ?_
    have hl := (allTo_mem h i (by omega) s hs).1
    rw [List.flatMap_map, show l.Low.length - i = (l.Low.length - (i + 1)) + 1 by omega, statesF, hl]
theorem states_same (h : LW l) : statesF l l.Low.length [] = statesL l := by
  rw [← allTo_flat h l.Low.length (Nat.le_refl _), Nat.sub_self, statesL]
  have : ∀ xs : List (List Int), xs.flatMap (statesF l 0) = xs := by
    intro xs
    induction xs with
    | nil => rfl
    | cons x xs ih => rw [List.flatMap_cons, ih]; rfl
  exact this _
theorem statesF_len : ∀ (m : Nat) (a b : List Int), a.length = b.length → (statesF l m a).length = (statesF l m b).length
  | 0, _, _, _ => rfl
  | m + 1, a, b, h => by
    have e : ∀ x y : Int, (statesF l m (a ++ [x])).length = (statesF l m (b ++ [y])).length := fun x y => statesF_len m _ _ (by simp [h])
    rw [statesF, statesF, flatMap_len (c := (statesF l m (b ++ [0])).length) (fun x _ => e x 0), flatMap_len (c := (statesF l m (b ++ [0])).length) (fun x _ => (e x 0 ▸ e x x ▸ rfl : (statesF l m (b ++ [x])).length = _)), h]
theorem statesF_le (h : LW l) {had : List Int} (hl : had.length ≤ l.Low.length) : (statesF l (l.Low.length - had.length) had).length ≤ 1200 := by
  have h1 := allTo_flat h had.length hl
  have h2 : ((allTo l had.length).flatMap (statesF l (l.Low.length - had.length))).length = (allTo l had.length).length * (statesF l (l.Low.length - had.length) had).length :=
    flatMap_len fun s hs => statesF_len _ _ _ (allTo_mem h _ hl s hs).1
  rw [h1, states_same h] at h2
  have h3 := allTo_le h (Nat.le_refl l.Low.length)
  have h4 := allTo_len h had.length hl
  have h5 : 1 ≤ (allTo l had.length).length := by omega
  have h6 : 1 * (statesF l (l.Low.length - had.length) had).length ≤ (allTo l had.length).length * (statesF l (l.Low.length - had.length) had).length := Nat.mul_le_mul_right _ h5
  unfold statesL at h2
  omega
theorem nodup_flat {α β : Type} {f : α → List β} : ∀ {xs : List α}, xs.Nodup → (∀ x ∈ xs, (f x).Nodup) → (∀ x ∈ xs, ∀ y ∈ xs, ∀ b, b ∈ f x → b ∈ f y → x = y) → (xs.flatMap f).Nodup
  | [], _, _, _ => by simp
  | x :: xs, h, h1, h2 => by
    have h3 := List.nodup_cons.1 h
    rw [List.flatMap_cons]
    refine List.nodup_append.2 ⟨h1 x (List.mem_cons_self ..), nodup_flat h3.2 (fun y hy => h1 y (List.mem_cons_of_mem _ hy)) (fun y hy z hz => h2 y (List.mem_cons_of_mem _ hy) z (List.mem_cons_of_mem _ hz)), fun a ha b hb e => ?_⟩
    obtain ⟨y, hy, hb2⟩ := List.mem_flatMap.1 hb
    have := h2 x (List.mem_cons_self ..) y (List.mem_cons_of_mem _ hy) a ha (e ▸ hb2)
    exact h3.1 (this ▸ hy)
theorem nodup_map {α β : Type} {f : α → β} (hf : ∀ x y, f x = f y → x = y) : ∀ {xs : List α}, xs.Nodup → (xs.map f).Nodup
  | [], _ => by simp
  | x :: xs, h => by
    have h3 := List.nodup_cons.1 h
    rw [List.map_cons, List.nodup_cons]
    refine ⟨fun hm => ?_, nodup_map hf h3.2⟩
    obtain ⟨y, hy, e⟩ := List.mem_map.1 hm
    exact h3.1 (hf _ _ e ▸ hy)
theorem allTo_nodup : ∀ i, (allTo l i).Nodup
  | 0 => by simp [allTo]
  | i + 1 => by
    rw [allTo]
    refine nodup_flat (allTo_nodup i) (fun s _ => nodup_map (fun x y e => by simpa using e) (nodup_map (fun x y e => by omega) List.nodup_range)) ?_
    intro s _ t _ b hb hb2
    obtain ⟨x, _, rfl⟩ := List.mem_map.1 hb
    obtain ⟨y, _, e⟩ := List.mem_map.1 hb2
    exact ((List.append_inj' e rfl).1).symm
end
end Go.Um
