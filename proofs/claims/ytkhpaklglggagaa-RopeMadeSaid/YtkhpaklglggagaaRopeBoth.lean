/- Cutting and fitting: what the laws need. No program is in sight. -/
import Derived.Test.YtkhpaklglggagaaRopeCut
import Derived.Test.YtkhpaklglggagaaRopeMath
namespace Go.Um
open GoT (sz ag rdc)
theorem evenFit : ropeAll [-1, 2, -1] [5, 2, 5] = ([[5]], true, 0, 0) := by decide +kernel

theorem takes_ok {a : Auto} {w : List Int} (hW : WF a) (hl : w.length ≤ 30) (hv : ∀ c ∈ w, 0 ≤ c ∧ c < a.Signs) (ht : takesA a 0 w = true) : autoTakes a w = (true, 0, 0) := by
  have hf := hW.fault
  have h1 : (autoFault a).1 = 0 := by rw [hf]
  have h2 := textFault_ok (signs := a.Signs) (l := w) (by omega) hv
  rw [autoTakes, if_neg (fun h => h h1), if_neg (fun h => h (by rw [h2])), ht]
theorem cut_out {l : List Auto} {t : List Int} (h : (cutFault l t).1 ≠ 0 ∨ (!cutOk l t) = true) : cutList l t = [] := by
  by_cases hz : (cutFault l t).1 = 0
  · have h2 := h.resolve_left (fun h => h hz)
    rw [(cut_good hz).1] at h2
    rw [(cut_good hz).2]
    cases hc : cutG l t with
    | none => rfl
    | some s => rw [hc] at h2; cases h2
  · exact (cut_bad hz).2
theorem cut_in {l : List Auto} {t : List Int} (h : ¬ ((cutFault l t).1 ≠ 0 ∨ (!cutOk l t) = true)) : (cutFault l t).1 = 0 ∧ cutG l t = some (cutList l t) := by
  have hz : (cutFault l t).1 = 0 := Decidable.of_not_not fun h' => h (.inl h')
  refine ⟨hz, ?_⟩
  have h2 : ¬ (!cutOk l t) = true := fun h' => h (.inr h')
  rw [(cut_good hz).1] at h2
  rw [(cut_good hz).2]
  cases hc : cutG l t with
  | none => rw [hc] at h2; simp at h2
  | some s => rfl

structure CutAt (l : List Auto) (t c : List Int) (i : Nat) (q : Int) : Prop where
  lo : 0 ≤ q ∧ q ≤ (t.length : Int)
  rest : cutG (l.drop i) (t.drop q.toNat) = some (c.drop i)
theorem CutAt.start {l : List Auto} {t c : List Int} (h : cutG l t = some c) : CutAt l t c 0 0 := ⟨by omega, h⟩
theorem CutAt.len {l : List Auto} {t c : List Int} {i : Nat} {q : Int} (h : CutAt l t c i q) (hi : i < l.length) : i < c.length := by
  have := cutG_len h.rest
  rw [List.length_drop, List.length_drop] at this
  omega
theorem CutAt.step {l : List Auto} {t c : List Int} {i : Nat} {q : Int} (h : CutAt l t c i q) (hi : i < l.length) :
    0 ≤ nth c i ∧ nth c i ≤ (t.length : Int) - q ∧ takesA (nth l i) 0 ((t.take (q + nth c i).toNat).drop q.toNat) = true ∧ CutAt l t c (i + 1) (q + nth c i) := by
  have hr := h.rest
  rw [cutG_cons hi, drop_nth (h.len hi)] at hr
  obtain ⟨j, _, hj, hs, _⟩ := fst1_what hr
  unfold cutStep at hs
  split at hs
  · rename_i ht
    obtain ⟨s', hs', he⟩ := Option.map_eq_some_iff.1 hs
    obtain ⟨he1, he2⟩ := List.cons.inj he
    have hlo := h.lo
    rw [List.length_drop] at hj
    refine ⟨by omega, by omega, ?_, ⟨by omega, ?_⟩⟩
    · rw [← he1, cut_mid hlo.1]; exact ht
    · rw [← he1, cut_on hlo.1, hs', he2]
  · cases hs
theorem CutAt.done {l : List Auto} {t c : List Int} {i : Nat} {q : Int} (h : CutAt l t c i q) (hi : l.length ≤ i) : q = (t.length : Int) := by
  have hr := h.rest
  rw [List.drop_eq_nil_of_le hi] at hr
  unfold cutG at hr
  split at hr
  · rename_i h0
    rw [List.length_drop] at h0
    have := h.lo
    omega
  · cases hr
end Go.Um
