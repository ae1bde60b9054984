/- TopCounts: whatever the numbers, the law answers true. No condition. -/
import Derived.Test.YtbfgipgojdinoaaRows
import Derived.Test.YtbfgipgojdinoaaChecked
import Derived.ProofKit
import Derived.Test.YtbfgipgojdinoaaCardOp
import Derived.Test.YtbfgipgojdinoaaTopCounts1
import Derived.Test.YtbfgipgojdinoaaUmTopCountsA
namespace Go.Proofs.Ytbfgipgojdinoaa
open Go.ChangeShapes Go.WideShapes Go.ChangeAt Go.RowKit Go.Um
theorem ownKnob_ : ownKnob Try.prog.godebug = none := by kernel_rfl
set_option maxRecDepth 100000 in
theorem topCounts_lifted (os : Os) (started : os.Started) (H : Type) (enc : TypeId × Value → H) :
    ReturnsInHanded {} Try.checked os 4 .any (Rows.topCountsSpec.pre6 enc Try.prog Try.f4 Rows.topCountsRow.domain false) (Rows.topCountsSpec.post enc Try.prog Try.f4 false true false false) := by
  refine returnsInHanded_of_change_sized (C := Try.checked) ownKnob_ started (by kernel_rfl) Try.func4
    (ChangeSpec.witness6 (enc := enc) (C := Try.checked) false ⟨#[], #[.slice none 0 0, .int .i64 0], []⟩ 8 (by kernel_rfl) (by kernel_rfl) (by kernel_rfl) (by kernel_rfl)) ?_
  intro W base args ds gs before hval0 hW _ hw0 _
  have hval : ∀ (j : Nat) t v, Try.f4.params[j]? = some t → args[j]? = some v → Value.okWide Try.prog W .any base t v := hval0
  have hW' := hW
  obtain ⟨p, q, hA0, hV, rfl, hfz, hnd⟩ := hW
  obtain ⟨rfl, rfl⟩ := trodVars_none hV
  have hA : DataW.TrodAll enc Try.prog W 0 (fun _ => true) true Try.f4.params.toList args.toList ds p := hA0
  have hw : (DataW.weightsEach Try.prog (Try.f4.params.toList ++ []) (ds ++ [])).all (· ≤ reachBytes) = true := hw0
  simp only [List.append_nil] at hw
  rw [Try.params4] at hA hval hw
  obtain ⟨v0, v1, d0, d1, p0, p1, rfl, rfl, rfl, h0, h1⟩ := trodAll_two hA
  obtain ⟨x0, r0, m0⟩ := opT22.rd (hval 0 22 v0 rfl rfl) h0 (weights_cut hw (j := 0) rfl rfl)
  obtain ⟨x1, r1, m1⟩ := opT3.rd (hval 1 3 v1 rfl rfl) h1 (weights_cut hw (j := 1) rfl rfl)
  obtain ⟨rfl, w1⟩ := Rd.int.1 r1
  refine (TopCounts_L v0 x0 x1 r0 W rfl).mono fun e W' ⟨v, he, ha, hx, hv⟩ => ?_
  subst hv
  exact ⟨_, he, post_law laidOut_ hW' rfl (by rw [Try.params4]; decide +kernel) rfl Try.underlying4 rfl rfl rfl ha hx⟩
theorem topCounts_holds : Rows.TopCountsSaid :=
  OpenClaim.holds_of_wide 4 Try.f4 rfl rfl rfl rfl rfl rfl rfl ⟨rfl, rfl, rfl, rfl, rfl⟩ rfl rfl rfl rfl rfl (by kernel_rfl) Try.func4 (by kernel_rfl)
    (of_decide_eq_true (by kernel_rfl)) (by unfold Func.isWrapper; first | (rw [if_pos (by decide +kernel)]; kernel_rfl) | (rw [if_neg (by decide +kernel)]; exact ⟨rfl, rfl⟩))
    (fun os started H enc _ => topCounts_lifted os started H enc)
end Go.Proofs.Ytbfgipgojdinoaa
#print axioms Go.Proofs.Ytbfgipgojdinoaa.topCounts_holds
