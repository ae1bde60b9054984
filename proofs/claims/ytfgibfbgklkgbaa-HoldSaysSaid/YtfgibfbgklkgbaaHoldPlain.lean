/- Rows that are kept, and bad runs. No program is in sight. -/
import Derived.Test.YtfgibfbgklkgbaaLoopWeak
namespace Go.Um
section
variable {α : Type} [Inhabited α] {p : α → Bool} {L : List α} {k : Nat}
theorem find_at (hk : k < L.length) (hp : ∀ j, j < k → p (nth L j) = false) (h : p (nth L k) = true) : L.find? p = some (nth L k) := by
  induction L generalizing k with
  | nil => simp at hk
  | cons x L ih =>
    cases k with
    | zero => rw [List.find?_cons]; have : p x = true := h; rw [this]; rfl
    | succ k =>
      have h0 : p x = false := hp 0 (by omega)
      rw [List.find?_cons, h0]
      exact ih (k := k) (by simpa using hk) (fun j hj => hp (j + 1) (by omega)) h
theorem find_no (hp : ∀ j, j < L.length → p (nth L j) = false) : L.find? p = none := by
  rw [List.find?_eq_none]
  intro x hx h
  obtain ⟨j, hj, rfl⟩ := nth_of_mem hx
  rw [hp j hj] at h; cases h
end
def chkFault (l : Loop) (r : List LRow) : Int × Int := if (loopFault l).1 ≠ 0 then loopFault l else if rowsFault r l.Low.length ≠ 0 then (rowsFault r l.Low.length, -4) else (0, 0)
def lost1 (l : Loop) (r : List LRow) (s : List Int) : Bool := holdB l.Start s && !holdB r s
def leaveB (l : Loop) (r : List LRow) (s : List Int) : Bool := (nextL l s).any fun t => !holdB r t
def lost2 (l : Loop) (r : List LRow) (s : List Int) : Bool := holdB r s && leaveB l r s
def lostS (l : Loop) (r : List LRow) : Option (List Int) := match (statesL l).find? (lost1 l r) with
  | some s => some s
  | none => (statesL l).find? (lost2 l r)
def keptB (l : Loop) (r : List LRow) : Bool := if (chkFault l r).1 ≠ 0 then false else (lostS l r).isNone
def keptS (l : Loop) (r : List LRow) : List Int := if (chkFault l r).1 ≠ 0 then [] else (lostS l r).getD []
section
variable {l : Loop} {r : List LRow} {s : List Int} {k : Nat}
theorem chk_loop (h : (loopFault l).1 ≠ 0) : chkFault l r = loopFault l := if_pos h
theorem chk_rows (h : ¬ (loopFault l).1 ≠ 0) (h2 : rowsFault r l.Low.length ≠ 0) : chkFault l r = (rowsFault r l.Low.length, -4) := by rw [chkFault, if_neg h, if_pos h2]
theorem chk_no (h : ¬ (loopFault l).1 ≠ 0) (h2 : ¬ rowsFault r l.Low.length ≠ 0) : chkFault l r = (0, 0) := by rw [chkFault, if_neg h, if_neg h2]
theorem chk_zero (h : (chkFault l r).1 = 0) : LW l ∧ rowsFault r l.Low.length = 0 ∧ chkFault l r = (0, 0) := by
  unfold chkFault at h ⊢
  split at h
  · rename_i h1; exact absurd h h1
  · rename_i h1
    split at h
    · rename_i h2; exact absurd h h2
    · rename_i h2
      rw [if_neg h1, if_neg h2]
      exact ⟨LW.of (Decidable.of_not_not h1), Decidable.of_not_not h2, rfl⟩
theorem chk_of (h : LW l) (h2 : rowsFault r l.Low.length = 0) : chkFault l r = (0, 0) := chk_no (not_not_intro (by rw [h.code])) (not_not_intro h2)
theorem lostS_1 (hk : k < (statesL l).length) (hp : ∀ j, j < k → lost1 l r (nth (statesL l) j) = false) (h : lost1 l r (nth (statesL l) k) = true) : lostS l r = some (nth (statesL l) k) := by rw [lostS, find_at hk hp h]
theorem lostS_2 (h1 : ∀ j, j < (statesL l).length → lost1 l r (nth (statesL l) j) = false) (hk : k < (statesL l).length) (hp : ∀ j, j < k → lost2 l r (nth (statesL l) j) = false) (h : lost2 l r (nth (statesL l) k) = true) : lostS l r = some (nth (statesL l) k) := by
  rw [lostS, find_no h1]; exact find_at hk hp h
theorem lostS_no (h1 : ∀ j, j < (statesL l).length → lost1 l r (nth (statesL l) j) = false) (h2 : ∀ j, j < (statesL l).length → lost2 l r (nth (statesL l) j) = false) : lostS l r = none := by
  rw [lostS, find_no h1]; exact find_no h2
theorem lost1_no {s : List Int} (h : ¬ (holdB l.Start s = true ∧ (!holdB r s) = true)) : lost1 l r s = false := by
  rw [lost1]
  cases h1 : holdB l.Start s <;> cases h2 : holdB r s <;> simp_all
theorem lost2_no {s : List Int} (h : ¬ (holdB r s = true ∧ leaveB l r s = true)) : lost2 l r s = false := by
  rw [lost2]
  cases h1 : holdB r s <;> cases h2 : leaveB l r s <;> simp_all
theorem lost2_yes {s : List Int} (h : holdB r s = true) (hk : k < (nextL l s).length) (h2 : (!holdB r (nth (nextL l s) k)) = true) : lost2 l r s = true := by
  rw [lost2, h, Bool.true_and, leaveB, List.any_eq_true]
  exact ⟨_, nth_mem hk, h2⟩
theorem lost2_none {s : List Int} (h : ∀ j, j < (nextL l s).length → holdB r (nth (nextL l s) j) = true) : lost2 l r s = false := by
  rw [lost2, show leaveB l r s = false from ?_, Bool.and_false]
  rw [leaveB, List.any_eq_false]
  intro t ht
  obtain ⟨j, hj, rfl⟩ := nth_of_mem ht
  rw [h j hj]; decide
theorem lostS_none (h : lostS l r = none) {s : List Int} (hs : s ∈ statesL l) : lost1 l r s = false ∧ lost2 l r s = false := by
  unfold lostS at h
  split at h
  · cases h
  · rename_i h1
    exact ⟨Bool.eq_false_iff.2 (List.find?_eq_none.1 h1 s hs), Bool.eq_false_iff.2 (List.find?_eq_none.1 h s hs)⟩
theorem st_states (hl : LW l) (h : St_ l s) : s ∈ statesL l := allTo_has hl _ (Nat.le_refl _) s h.1 h.2
/-- Floyd, Hoare: what is kept holds of all that is come to. -/
theorem kept_runs (hl : LW l) (h : lostS l r = none) : ∀ i, i < (comeL l).length → holdB r (nth (comeL l) i) = true := by
  intro i
  induction i using Nat.strongRecOn with
  | _ i ih =>
    intro hi
    rcases come_from hl hi with h1 | ⟨j, hj, h1⟩
    · have h2 := (lostS_none h (st_states hl (startsL_mem hl h1).1)).1
      rw [lost1, (startsL_mem hl h1).2] at h2
      simpa using h2
    · have hjl : j < (comeL l).length := by omega
      have h2 := (lostS_none h (st_states hl (comeL_st hl (nth_mem hjl)))).2
      rw [lost2, ih j hj hjl, Bool.true_and, leaveB, List.any_eq_false] at h2
      have := h2 _ h1
      simpa using this
end

theorem holdok_st {l : Loop} {r : List LRow} {s : List Int} (hl : LW l) (hr : rowsFault r l.Low.length = 0) (h : St_ l s) : HoldOk r s :=
  HoldOk.of hr hl.many.2 (inside_small hl h.1 h.2) (by rw [h.1]; exact Int.le_refl _)
theorem next_st {l : Loop} {s t : List Int} (hl : LW l) (h : t ∈ nextL l s) : St_ l t := nextTo_mem hl _ (Nat.le_refl _) t h
theorem state_st {l : Loop} {i : Nat} (hl : LW l) (h : i < (statesL l).length) : St_ l (nth (statesL l) i) := allTo_mem hl _ (Nat.le_refl _) _ (nth_mem h)
/-! ### Turning a list round -/
def revTo {α : Type} [Inhabited α] (xs : List α) (i : Nat) : List α := (List.range xs.length).map fun k => if k < i ∨ xs.length ≤ k + i then nth xs (xs.length - 1 - k) else nth xs k
section
variable {α : Type} [Inhabited α] {xs : List α} {i k : Nat}
theorem revTo_len : (revTo xs i).length = xs.length := by simp [revTo]
theorem revTo_nth (hk : k < xs.length) : nth (revTo xs i) k = if k < i ∨ xs.length ≤ k + i then nth xs (xs.length - 1 - k) else nth xs k := nth_range' hk
theorem revTo_zero : revTo xs 0 = xs := nth_ext' revTo_len fun k hk => by rw [revTo_len] at hk; rw [revTo_nth hk, if_neg (by omega)]
theorem nth_set' {l : List α} {v : α} {j k : Nat} (hk : k < l.length) : nth (l.set j v) k = if j = k then v else nth l k := by
  rw [nth_eq (by simpa using hk), List.getElem_set, nth_eq hk]
theorem revTo_step (hi : 2 * i + 1 < xs.length) : ((revTo xs i).set i (nth (revTo xs i) (xs.length - 1 - i))).set (xs.length - 1 - i) (nth (revTo xs i) i) = revTo xs (i + 1) := by
  refine nth_ext' (by simp [revTo]) fun k hk => ?_
  rw [List.length_set, List.length_set, revTo_len] at hk
  rw [nth_set' (by rw [List.length_set, revTo_len]; exact hk), nth_set' (by rw [revTo_len]; exact hk), revTo_nth hk, revTo_nth (k := i) (by omega), revTo_nth (k := xs.length - 1 - i) (by omega), revTo_nth (i := i + 1) hk, if_neg (show ¬ (i < i ∨ xs.length ≤ i + i) by omega), if_neg (show ¬ (xs.length - 1 - i < i ∨ xs.length ≤ xs.length - 1 - i + i) by omega)]
  by_cases h1 : xs.length - 1 - i = k
  · rw [if_pos h1, if_pos (by omega), ← h1]; congr 1; omega
  · rw [if_neg h1]
    by_cases h2 : i = k
    · rw [if_pos h2, if_pos (by omega), h2]
    · rw [if_neg h2]
      by_cases h3 : k < i ∨ xs.length ≤ k + i
      · rw [if_pos h3, if_pos (by omega)]
      · rw [if_neg h3, if_neg (by omega)]
theorem revTo_end (hi : xs.length ≤ 2 * i + 1) : revTo xs i = xs.reverse := nth_ext' (by simp [revTo]) fun k hk => by
  rw [revTo_len] at hk
  rw [revTo_nth hk, nth_eq (l := xs.reverse) (by simpa using hk), List.getElem_reverse]
  by_cases h : k < i ∨ xs.length ≤ k + i
  · rw [if_pos h, nth_eq (by omega)]
  · rw [if_neg h, ← nth_eq (l := xs) (by omega)]; congr 1; omega
end

/-! ### A bad run -/
def predI (l : Loop) (at_ : Nat) : Int := idxOf (fun s => (nextL l s).any fun t => decide (t = nth (comeL l) at_)) (comeL l)
def chainF (l : Loop) : Nat → Nat → List Nat
  | 0, at_ => [at_]
  | n + 1, at_ => if holdB l.Start (nth (comeL l) at_) = true then [at_] else at_ :: chainF l n (predI l at_).toNat
def chain (l : Loop) (at_ : Nat) : List Nat := chainF l at_ at_
def badAtI (l : Loop) : Int := idxOf (holdB l.Bad) (comeL l)
def badB (l : Loop) : Bool := if (loopFault l).1 ≠ 0 then false else decide (0 ≤ badAtI l)
def badL (l : Loop) : List (List Int) := if (loopFault l).1 ≠ 0 then [] else if badAtI l < 0 then [] else ((chain l (badAtI l).toNat).map (nth (comeL l))).reverse
section
variable {l : Loop} {at_ : Nat}
theorem chain_start (h : holdB l.Start (nth (comeL l) at_) = true) : chain l at_ = [at_] := by
  cases at_ with
  | zero => rfl
  | succ n => rw [chain, chainF, if_pos h]
theorem pred_is (hl : LW l) (ha : at_ < (comeL l).length) (h : ¬ holdB l.Start (nth (comeL l) at_) = true) : 0 ≤ predI l at_ ∧ (predI l at_).toNat < at_ ∧ nth (comeL l) at_ ∈ nextL l (nth (comeL l) (predI l at_).toNat) := by
  rcases come_from hl ha with h1 | ⟨j, hj, h1⟩
  · exact absurd (startsL_mem hl h1).2 h
  · rcases first_or (fun s => (nextL l s).any fun t => decide (t = nth (comeL l) at_)) (comeL l) with h2 | ⟨k, hk, h2, h3⟩
    · have := h2 j (by omega)
      rw [List.any_eq_false] at this
      have := this _ h1
      simp at this
    · have e : predI l at_ = k := idxOf_at hk h2 h3
      have hkj : k ≤ j := by
        refine Nat.not_lt.1 fun hlt => ?_
        have := h2 j hlt
        rw [List.any_eq_false] at this
        have := this _ h1
        simp at this
      obtain ⟨t, ht, h4⟩ := List.any_eq_true.1 h3
      rw [e]
      exact ⟨by omega, by omega, by rw [← of_decide_eq_true h4]; exact ht⟩
theorem chainF_more (hl : LW l) : ∀ (at_ : Nat), at_ < (comeL l).length → ∀ n, at_ ≤ n → chainF l n at_ = chain l at_ := by
  intro at_
  induction at_ using Nat.strongRecOn with
  | _ at_ ih =>
    intro ha n hn
    by_cases h : holdB l.Start (nth (comeL l) at_) = true
    · rw [chain_start h]
      cases n with
      | zero => rfl
      | succ n => rw [chainF, if_pos h]
    · have hp := pred_is hl ha h
      cases at_ with
      | zero => omega
      | succ m =>
        cases n with
        | zero => omega
        | succ n => rw [chain, chainF, chainF, if_neg h, if_neg h, ih _ hp.2.1 (by omega) n (by omega), ih _ hp.2.1 (by omega) m (by omega)]
theorem chain_step (hl : LW l) (ha : at_ < (comeL l).length) (h : ¬ holdB l.Start (nth (comeL l) at_) = true) : chain l at_ = at_ :: chain l (predI l at_).toNat := by
  have hp := pred_is hl ha h
  cases at_ with
  | zero => omega
  | succ m => rw [chain, chainF, if_neg h, chainF_more hl _ (by omega) m (by omega)]
theorem chainF_len : ∀ (n at_ : Nat), (chainF l n at_).length ≤ n + 1
  | 0, _ => by simp [chainF]
  | n + 1, at_ => by
    rw [chainF]; split
    · simp
    · have := chainF_len n (predI l at_).toNat; rw [List.length_cons]; omega
end
theorem St.eq1 {H0 H : Heap} {M S0 : Nat → Prop} {L : List Ent} {e e' : Ent} (h : St H0 M S0 (e :: L) H) (he : e = e') : St H0 M S0 (e' :: L) H := by rw [← he]; exact h
theorem badL_of {l : Loop} (h : ¬ (loopFault l).1 ≠ 0) {a0 : Nat} (ha : badAtI l = a0) {L : List Nat} (hc : chain l a0 = L) : badL l = (L.map (nth (comeL l))).reverse ∧ badB l = true := by
  constructor
  · rw [badL, if_neg h, ha, if_neg (by omega), Int.toNat_natCast, hc]
  · rw [badB, if_neg h, ha]; exact decide_eq_true (by omega)
theorem badL_no {l : Loop} (h : ¬ (loopFault l).1 ≠ 0) (ha : badAtI l < 0) : badL l = [] ∧ badB l = false := by
  constructor
  · rw [badL, if_neg h, if_pos ha]
  · rw [badB, if_neg h]; exact decide_eq_false (by omega)
end Go.Um
