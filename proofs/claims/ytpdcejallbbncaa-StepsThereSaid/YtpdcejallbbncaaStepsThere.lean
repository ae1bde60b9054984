/- StepsThere: whatever the problem and the plan, the law answers true. No condition. -/
import Derived.Test.YtpdcejallbbncaaRows
import Derived.Test.YtpdcejallbbncaaChecked
import Derived.ProofKit
import Derived.Test.YtpdcejallbbncaaUmOpen
import Derived.Test.YtpdcejallbbncaaActOp
import Derived.Test.YtpdcejallbbncaaStepsThere1
namespace Go.Proofs.Ytpdcejallbbncaa
open Go.ChangeShapes Go.WideShapes Go.ChangeAt Go.RowKit Go.Um

theorem ownKnob_ : ownKnob Try.prog.godebug = none := by kernel_rfl

set_option maxRecDepth 100000 in
theorem stepsThere_lifted (os : Os) (started : os.Started) (H : Type) (enc : TypeId × Value → H) :
    ReturnsInHanded {} Try.checked os 10 .any (Rows.stepsThereSpec.pre6 enc Try.prog Try.f10 Rows.stepsThereRow.domain false) (Rows.stepsThereSpec.post enc Try.prog Try.f10 false true false false) := by
  refine returnsInHanded_of_change_sized (C := Try.checked) ownKnob_ started (by kernel_rfl) Try.func10
    (ChangeSpec.witness6 (enc := enc) (C := Try.checked) false ⟨#[], #[.agg #[.int .i64 0, .slice none 0 0, .slice none 0 0, .slice none 0 0], .slice none 0 0], []⟩ 8 (by kernel_rfl) (by kernel_rfl) (by kernel_rfl) (by kernel_rfl)) ?_
  intro W base args ds gs before hval0 hW _ hw0 _
  have hval : ∀ (j : Nat) t v, Try.f10.params[j]? = some t → args[j]? = some v → Value.okWide Try.prog W .any base t v := hval0
  have hW' := hW
  obtain ⟨p, q, hA0, hV, rfl, hfz, hnd⟩ := hW
  obtain ⟨rfl, rfl⟩ := trodVars_none hV
  have hA : DataW.TrodAll enc Try.prog W 0 (fun _ => true) true Try.f10.params.toList args.toList ds p := hA0
  have hw : (DataW.weightsEach Try.prog (Try.f10.params.toList ++ []) (ds ++ [])).all (· ≤ reachBytes) = true := hw0
  simp only [List.append_nil] at hw
  rw [Try.params10] at hA hval hw
  obtain ⟨v0, v1, d0, d1, p0, p1, rfl, rfl, rfl, h0, h1⟩ := trodAll_two hA
  obtain ⟨x0, r0, m0⟩ := opT25.rd (hval 0 25 v0 rfl rfl) h0 (weights_cut hw (j := 0) rfl rfl)
  obtain ⟨a0, b0, c0, rfl, g0, ra0, rb0, rc0⟩ := Rd.quest.1 r0
  obtain ⟨x1, r1, m1⟩ := opT22.rd (hval 1 22 v1 rfl rfl) h1 (weights_cut hw (j := 1) rfl rfl)
  refine (StepsThere_L a0 b0 c0 v1 x0 x1 g0 ra0 rb0 rc0 r1 W rfl).mono fun e W' ⟨v, he, ha, hx, hv⟩ => ?_
  subst hv
  exact ⟨_, he, post_law laidOut_ hW' rfl (by rw [Try.params10]; decide +kernel) rfl Try.underlying4 rfl rfl rfl ha hx⟩

theorem stepsThere_holds : Rows.StepsThereSaid :=
  OpenClaim.holds_of_wide 10 Try.f10 rfl rfl rfl rfl rfl rfl rfl ⟨rfl, rfl, rfl, rfl, rfl⟩ rfl rfl rfl rfl rfl (by kernel_rfl) Try.func10 (by kernel_rfl)
    (of_decide_eq_true (by kernel_rfl)) (by unfold Func.isWrapper; first | (rw [if_pos (by decide +kernel)]; kernel_rfl) | (rw [if_neg (by decide +kernel)]; exact ⟨rfl, rfl⟩))
    (fun os started H enc _ => stepsThere_lifted os started H enc)
end Go.Proofs.Ytpdcejallbbncaa
#print axioms Go.Proofs.Ytpdcejallbbncaa.stepsThere_holds
