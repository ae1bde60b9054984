/- RopeFits: whatever the pattern and the word, the law answers true. No condition. -/
import Derived.Test.YtkhpaklglggagaaRows
import Derived.Test.YtkhpaklglggagaaChecked
import Derived.ProofKit
import Derived.Test.YtkhpaklglggagaaUmOpen
import Derived.Test.YtkhpaklglggagaaAutoA1
namespace Go.Proofs.Ytkhpaklglggagaa
open Go.ChangeShapes Go.WideShapes Go.ChangeAt Go.RowKit Go.Um

theorem opT22 : OpT Try.prog 22 (List Int) := opList Try.underlying22 (opInt Try.underlying3) (by kernel_rfl) (by kernel_rfl)
theorem ownKnob_ : ownKnob Try.prog.godebug = none := by kernel_rfl
theorem laidOut_ : laidOutB Try.prog = true := by kernel_rfl

set_option maxRecDepth 100000 in
theorem ropeFits_lifted (os : Os) (started : os.Started) (H : Type) (enc : TypeId × Value → H) :
    ReturnsInHanded {} Try.checked os 3 .any (Rows.ropeFitsSpec.pre6 enc Try.prog Try.f3 Rows.ropeFitsRow.domain false) (Rows.ropeFitsSpec.post enc Try.prog Try.f3 false true false false) := by
  refine returnsInHanded_of_change_sized (C := Try.checked) ownKnob_ started (by kernel_rfl) Try.func3
    (ChangeSpec.witness6 (enc := enc) (C := Try.checked) false ⟨#[], #[.slice none 0 0, .slice none 0 0], []⟩ 8 (by kernel_rfl) (by kernel_rfl) (by kernel_rfl) (by kernel_rfl)) ?_
  intro W base args ds gs before hval0 hW _ hw0 _
  have hval : ∀ (j : Nat) t v, Try.f3.params[j]? = some t → args[j]? = some v → Value.okWide Try.prog W .any base t v := hval0
  have hW' := hW
  obtain ⟨p, q, hA0, hV, rfl, hfz, hnd⟩ := hW
  obtain ⟨rfl, rfl⟩ := trodVars_none hV
  have hA : DataW.TrodAll enc Try.prog W 0 (fun _ => true) true Try.f3.params.toList args.toList ds p := hA0
  have hw : (DataW.weightsEach Try.prog (Try.f3.params.toList ++ []) (ds ++ [])).all (· ≤ reachBytes) = true := hw0
  simp only [List.append_nil] at hw
  rw [Try.params3] at hA hval hw
  obtain ⟨v0, v1, d0, d1, p0, p1, rfl, rfl, rfl, h0, h1⟩ := trodAll_two hA
  obtain ⟨a, ra⟩ := opT22.rd (hval 0 22 v0 rfl rfl) h0 (weights_cut hw (j := 0) rfl rfl)
  obtain ⟨b, rb⟩ := opT22.rd (hval 1 22 v1 rfl rfl) h1 (weights_cut hw (j := 1) rfl rfl)
  refine (RopeFits_L v0 v1 a b ra rb W rfl).mono fun e W' ⟨v, he, ha, hx, hv⟩ => ?_
  subst hv
  exact ⟨_, he, post_law laidOut_ hW' rfl (by rw [Try.params3]; decide +kernel) rfl Try.underlying4 rfl rfl rfl ha hx⟩

theorem ropeFits_holds : Rows.RopeFitsSaid :=
  OpenClaim.holds_of_wide 3 Try.f3 rfl rfl rfl rfl rfl rfl rfl ⟨rfl, rfl, rfl, rfl, rfl⟩ rfl rfl rfl rfl rfl (by kernel_rfl) Try.func3 (by kernel_rfl)
    (of_decide_eq_true (by kernel_rfl)) (by unfold Func.isWrapper; first | (rw [if_pos (by decide +kernel)]; kernel_rfl) | (rw [if_neg (by decide +kernel)]; exact ⟨rfl, rfl⟩))
    (fun os started H enc _ => ropeFits_lifted os started H enc)
end Go.Proofs.Ytkhpaklglggagaa
#print axioms Go.Proofs.Ytkhpaklglggagaa.ropeFits_holds
