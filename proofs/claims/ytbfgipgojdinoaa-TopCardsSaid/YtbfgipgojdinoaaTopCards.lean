/- TopCards: whatever the numbers, the law answers true. No condition. -/
import Derived.Test.YtbfgipgojdinoaaRows
import Derived.Test.YtbfgipgojdinoaaChecked
import Derived.ProofKit
import Derived.Test.YtbfgipgojdinoaaCardOp
import Derived.Test.YtbfgipgojdinoaaTopCards1
import Derived.Test.YtbfgipgojdinoaaUmTopCardsA
namespace Go.Proofs.Ytbfgipgojdinoaa
open Go.ChangeShapes Go.WideShapes Go.ChangeAt Go.RowKit Go.Um
theorem ownKnob_ : ownKnob Try.prog.godebug = none := by kernel_rfl
set_option maxRecDepth 100000 in
theorem topCards_lifted (os : Os) (started : os.Started) (H : Type) (enc : TypeId × Value → H) :
    ReturnsInHanded {} Try.checked os 3 .any (Rows.topCardsSpec.pre6 enc Try.prog Try.f3 Rows.topCardsRow.domain false) (Rows.topCardsSpec.post enc Try.prog Try.f3 false true false false) := by
  refine returnsInHanded_of_change_sized (C := Try.checked) ownKnob_ started (by kernel_rfl) Try.func3
    (ChangeSpec.witness6 (enc := enc) (C := Try.checked) false ⟨#[], #[.int .i64 0, .int .i64 0, .int .i64 0], []⟩ 8 (by kernel_rfl) (by kernel_rfl) (by kernel_rfl) (by kernel_rfl)) ?_
  intro W base args ds gs before hval0 hW _ hw0 _
  have hval : ∀ (j : Nat) t v, Try.f3.params[j]? = some t → args[j]? = some v → Value.okWide Try.prog W .any base t v := hval0
  have hW' := hW
  obtain ⟨p, q, hA0, hV, rfl, hfz, hnd⟩ := hW
  obtain ⟨rfl, rfl⟩ := trodVars_none hV
  have hA : DataW.TrodAll enc Try.prog W 0 (fun _ => true) true Try.f3.params.toList args.toList ds p := hA0
  have hw : (DataW.weightsEach Try.prog (Try.f3.params.toList ++ []) (ds ++ [])).all (· ≤ reachBytes) = true := hw0
  simp only [List.append_nil] at hw
  rw [Try.params3] at hA hval hw
  obtain ⟨v0, v1, v2, d0, d1, d2, p0, p1, p2, rfl, rfl, rfl, h0, h1, h2⟩ := trodAll_three hA
  obtain ⟨x0, r0, m0⟩ := opT3.rd (hval 0 3 v0 rfl rfl) h0 (weights_cut hw (j := 0) rfl rfl)
  obtain ⟨rfl, w0⟩ := Rd.int.1 r0
  obtain ⟨x1, r1, m1⟩ := opT3.rd (hval 1 3 v1 rfl rfl) h1 (weights_cut hw (j := 1) rfl rfl)
  obtain ⟨rfl, w1⟩ := Rd.int.1 r1
  obtain ⟨x2, r2, m2⟩ := opT3.rd (hval 2 3 v2 rfl rfl) h2 (weights_cut hw (j := 2) rfl rfl)
  obtain ⟨rfl, w2⟩ := Rd.int.1 r2
  refine (TopCards_L x0 x1 x2 w2 W rfl).mono fun e W' ⟨v, he, ha, hx, hv⟩ => ?_
  subst hv
  exact ⟨_, he, post_law laidOut_ hW' rfl (by rw [Try.params3]; decide +kernel) rfl Try.underlying4 rfl rfl rfl ha hx⟩
theorem topCards_holds : Rows.TopCardsSaid :=
  OpenClaim.holds_of_wide 3 Try.f3 rfl rfl rfl rfl rfl rfl rfl ⟨rfl, rfl, rfl, rfl, rfl⟩ rfl rfl rfl rfl rfl (by kernel_rfl) Try.func3 (by kernel_rfl)
    (of_decide_eq_true (by kernel_rfl)) (by unfold Func.isWrapper; first | (rw [if_pos (by decide +kernel)]; kernel_rfl) | (rw [if_neg (by decide +kernel)]; exact ⟨rfl, rfl⟩))
    (fun os started H enc _ => topCards_lifted os started H enc)
end Go.Proofs.Ytbfgipgojdinoaa
#print axioms Go.Proofs.Ytbfgipgojdinoaa.topCards_holds
