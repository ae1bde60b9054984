/- ArrUp: whatever the question and the world, the law answers true. No condition. -/
import Derived.Test.YtacphjgolmolmaaGreatRows
import Derived.Test.YtacphjgolmolmaaGreatChecked
import Derived.ProofKit
import Derived.Test.YtacphjgolmolmaaGreatWldOp
import Derived.Test.YtacphjgolmolmaaGreatArrUp1Z
import Derived.Test.YtacphjgolmolmaaGreatUmArrUpA
namespace Go.Proofs.YtacphjgolmolmaaGreat
open Go.ChangeShapes Go.WideShapes Go.ChangeAt Go.RowKit Go.Um
theorem ownKnob_ : ownKnob Tryz.prog.godebug = none := by kernel_rfl
set_option maxRecDepth 100000 in
theorem arrUp_lifted (os : Os) (started : os.Started) (H : Type) (enc : TypeId × Value → H) :
    ReturnsInHanded {} Tryz.checked os 3 .any (Rows.arrUpSpec.pre6 enc Tryz.prog Tryz.f3 Rows.arrUpRow.domain false) (Rows.arrUpSpec.post enc Tryz.prog Tryz.f3 false true false false) := by
  refine returnsInHanded_of_change_sized (C := Tryz.checked) ownKnob_ started (by kernel_rfl) Tryz.func3
    (ChangeSpec.witness6 (enc := enc) (C := Tryz.checked) false ⟨#[], #[.agg #[.slice none 0 0, .slice none 0 0, .slice none 0 0], .agg #[.slice none 0 0]], []⟩ 8 (by kernel_rfl) (by kernel_rfl) (by kernel_rfl) (by kernel_rfl)) ?_
  intro W base args ds gs before hval0 hW _ hw0 _
  have hval : ∀ (j : Nat) t v, Tryz.f3.params[j]? = some t → args[j]? = some v → Value.okWide Tryz.prog W .any base t v := hval0
  have hW' := hW
  obtain ⟨p, q, hA0, hV, rfl, hfz, hnd⟩ := hW
  obtain ⟨rfl, rfl⟩ := trodVars_none hV
  have hA : DataW.TrodAll enc Tryz.prog W 0 (fun _ => true) true Tryz.f3.params.toList args.toList ds p := hA0
  have hw : (DataW.weightsEach Tryz.prog (Tryz.f3.params.toList ++ []) (ds ++ [])).all (· ≤ reachBytes) = true := hw0
  simp only [List.append_nil] at hw
  rw [Tryz.params3] at hA hval hw
  obtain ⟨v0, v1, d0, d1, p0, p1, rfl, rfl, rfl, h0, h1⟩ := trodAll_two hA
  obtain ⟨x0, r0, m0⟩ := opT26.rd (hval 0 26 v0 rfl rfl) h0 (weights_cut hw (j := 0) rfl rfl)
  obtain ⟨a0, b0, c0, rfl, ra0, rb0, rc0⟩ := Rd.ask.1 r0
  obtain ⟨x1, r1, m1⟩ := opT29.rd (hval 1 29 v1 rfl rfl) h1 (weights_cut hw (j := 1) rfl rfl)
  obtain ⟨a1, rfl, ra1⟩ := Rd.wld.1 r1
  refine (ArrUp_L a0 b0 c0 a1 x0 x1 ra0 rb0 rc0 ra1 W rfl).mono fun e W' ⟨v, he, ha, hx, hv⟩ => ?_
  subst hv
  exact ⟨_, he, post_law laidOut_ hW' rfl (by rw [Tryz.params3]; decide +kernel) rfl Tryz.underlying4 rfl rfl rfl ha hx⟩
theorem arrUp_holds : Rows.ArrUpSaid :=
  OpenClaim.holds_of_wide 3 Tryz.f3 rfl rfl rfl rfl rfl rfl rfl ⟨rfl, rfl, rfl, rfl, rfl⟩ rfl rfl rfl rfl rfl (by kernel_rfl) Tryz.func3 (by kernel_rfl)
    (of_decide_eq_true (by kernel_rfl)) (by unfold Func.isWrapper; first | (rw [if_pos (by decide +kernel)]; kernel_rfl) | (rw [if_neg (by decide +kernel)]; exact ⟨rfl, rfl⟩))
    (fun os started H enc _ => arrUp_lifted os started H enc)
end Go.Proofs.YtacphjgolmolmaaGreat
#print axioms Go.Proofs.YtacphjgolmolmaaGreat.arrUp_holds
