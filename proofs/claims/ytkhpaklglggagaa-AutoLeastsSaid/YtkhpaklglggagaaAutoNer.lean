/- Myhill and Nerode: what takes the same has one least automaton. No program is in sight. -/
import Derived.Test.YtkhpaklglggagaaAutoCls
namespace Go.Um
instance decAuto : DecidableEq Auto := fun a b => decidable_of_iff (a.Signs = b.Signs ∧ a.Next = b.Next ∧ a.Takes = b.Takes) ⟨fun h => by
  obtain ⟨s, n, t⟩ := a
  obtain ⟨s', n', t'⟩ := b
  have h1 : s = s' := h.1
  have h2 : n = n' := h.2.1
  have h3 : t = t' := h.2.2
  rw [h1, h2, h3], fun h => by rw [h]; exact ⟨rfl, rfl, rfl⟩⟩
section
variable {a b : Auto}
theorem same_iff (ha : WF a) (hb : WF b) (hs : a.Signs = b.Signs) : sameB a b = true ↔ ∀ l, Valid_ a.Signs l → takesA a 0 l = takesA b 0 l := by
  have hc := pairs_closed ha hb hs
  have hsg := ha.signs
  rw [sameB, Bool.not_eq_true', List.any_eq_false]
  constructor
  · intro h l hl
    have h0 : (0, 0) ∈ pairsL a b := by have := nth_mem hc.pos; rwa [hc.first] at this
    have h1 := (builtA_run (tk := fun _ : Int × Int => true) hc l h0 (fun c hm => by have := hl c hm; omega)).2
    have h2 := h _ h1
    rw [fold_pair] at h2
    exact Classical.byContradiction fun hne => h2 (decide_eq_true hne)
  · intro h p hp
    obtain ⟨i, hi⟩ := prod_ends ha hb hs
    have hall := hi.all (I := fun p : Int × Int => ∃ l, Valid_ a.Signs l ∧ p = (runA a 0 l, runA b 0 l)) ⟨[], (fun _ h => by cases h), rfl⟩ (by
      rintro x c ⟨l, hl, rfl⟩ h0 h1
      refine ⟨l ++ [c], fun d hd => ?_, ?_⟩
      · rcases List.mem_append.1 hd with hd | hd
        · exact hl d hd
        · rw [List.mem_singleton.1 hd]; omega
      · show stepP a b (runA a 0 l, runA b 0 l) c = ((l ++ [c]).foldl (stepA a) 0, (l ++ [c]).foldl (stepA b) 0)
        rw [List.foldl_append, List.foldl_append]; rfl)
    rw [hi.endL] at hp
    obtain ⟨l, hl, rfl⟩ := hall p hp
    have h1 : nth a.Takes (runA a 0 l).toNat = nth b.Takes (runA b 0 l).toNat := h l hl
    intro h2
    exact of_decide_eq_true h2 h1
theorem sameR_iff (ha : WF a) (hb : WF b) (hs : a.Signs = b.Signs) : sameR a b = true ↔ ∀ l, Valid_ a.Signs l → takesA a 0 l = takesA b 0 l := by
  rw [sameR, pairFault_of ha hb hs, if_neg (by decide), same_iff ha hb hs]
theorem sameR_least (ha : WF a) (hb : WF b) (hs : a.Signs = b.Signs) : sameR a b = decide (leastA a = leastA b) := by
  rw [Bool.eq_iff_iff, decide_eq_true_iff, sameR_iff ha hb hs, least_iff ha hb hs]
theorem leastR_zero (h : (leastR a).2.1 = 0) : WF a ∧ leastR a = (leastA a, (0, 0)) := by
  have hw : WF a := WF.of (Classical.byContradiction fun hne => by rw [leastR_bad hne] at h; exact hne h)
  exact ⟨hw, leastR_ok hw⟩
theorem leastR_none (h : (leastR a).2.1 ≠ 0) : (leastR a).1.Next = [] := by
  unfold leastR at h ⊢
  split
  · rfl
  · rename_i h1; rw [if_neg h1] at h; exact absurd rfl h
theorem nerode_law (ha : WF a) (hb : WF b) (l : List Int) : (leastA a).Next.length ≤ a.Next.length ∧ (leastA a).Signs = a.Signs ∧ autoTakes (leastA a) l = autoTakes a l ∧ pairFault a (leastA a) = (0, 0) ∧ sameR a (leastA a) = true ∧
    ((pairFault a b).1 ≠ 0 → pairFault a b = (11, -1)) ∧ (¬ (pairFault a b).1 ≠ 0 → sameR a b = decide (leastA a = leastA b)) := by
  have hw := least_WF ha
  have hs := least_signs ha
  refine ⟨(least_len ha).2, hs, ?_, pairFault_of ha hw hs.symm, (sameR_iff ha hw hs.symm).2 fun l hl => (least_takes ha hl).symm, fun h => ?_, fun h => ?_⟩
  · have e : ∀ x : Auto, WF x → x.Signs = a.Signs → (textFault a.Signs l).1 ≠ 0 → autoTakes x l = (false, textFault a.Signs l) := fun x hx hxs ht => by rw [autoTakes, hx.fault, if_neg (by decide), hxs, if_pos ht]
    by_cases ht : (textFault a.Signs l).1 = 0
    · rw [autoTakes_is ha ht, autoTakes_is hw (by rw [hs]; exact ht), least_takes ha (textFault_code ht).2.2]
    · rw [e _ ha rfl ht, e _ hw hs ht]
  · have hne : a.Signs ≠ b.Signs := fun e => h (by rw [pairFault_of ha hb e])
    unfold pairFault
    rw [ha.fault, hb.fault, if_neg (by decide), if_neg (by decide), if_pos hne]
  · exact sameR_least ha hb (pairFault_zero (Decidable.of_not_not h)).2.2.2
theorem auto_ext (h1 : a.Signs = b.Signs) (h2 : a.Next.length = b.Next.length) (h3 : ∀ j, j < a.Next.length → nth a.Next j = nth b.Next j) (h4 : a.Takes.length = b.Takes.length) (h5 : ∀ j, j < a.Takes.length → nth a.Takes j = nth b.Takes j) : a = b := by
  obtain ⟨s, n, t⟩ := a
  obtain ⟨s', n', t'⟩ := b
  have e1 : n = n' := List.ext_getElem h2 fun k p q => by have := h3 k p; rwa [nth_eq p, nth_eq q] at this
  have e2 : t = t' := List.ext_getElem h4 fun k p q => by have := h5 k p; rwa [nth_eq p, nth_eq q] at this
  have e3 : s = s' := h1
  rw [e1, e2, e3]
theorem leastR_sg (h : In64 a.Signs) : In64 (leastR a).1.Signs := by
  unfold leastR
  split
  · show In64 0; decide
  · show In64 ((a.Signs.toNat : Nat) : Int)
    obtain ⟨h1, h2⟩ := h
    constructor <;> omega
theorem least_sg2 (h : In64 a.Signs) : In64 (leastA a).Signs := by
  show In64 ((a.Signs.toNat : Nat) : Int)
  obtain ⟨h1, h2⟩ := h
  constructor <;> omega
end
end Go.Um
