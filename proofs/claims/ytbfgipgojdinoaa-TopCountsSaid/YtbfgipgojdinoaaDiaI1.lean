import Derived.Test.YtbfgipgojdinoaaProg
import Derived.Test.YtbfgipgojdinoaaDiaC3
import Derived.Test.YtbfgipgojdinoaaUmTopCountsC
namespace Go.Um
open Go.Proofs
open GoT (sz ag rdc)
open KeyT (kv)
set_option maxRecDepth 100000 in
theorem Each_A {H0 : Heap} {S : Nat → Prop} (vC : Value) (C : List (List Int)) (N : Nat) (rC : Rd S H0 vC C) : CallsH Try.prog 36 #[vC, I ((N : Int))] H0 (fun rv_ H' => Ext NoB H0 H' ∧ ∃ b3_ b2_, rv_ = Value.func (.func 63) #[] #[PT b3_ 0, PT b2_ 0] ∧ Fresh S [bE b3_ #[I ((N : Int))] 3, bE b2_ #[vC] 24] H0 H' ∧ [bE b3_ #[I ((N : Int))] 3, bE b2_ #[vC] 24].Pairwise fun e e' => ∀ b, e.blocks b → ¬ e'.blocks b) := by
 have hS0 : St H0 NoB (SZ S H0) [rdE vC C] H0 := St.arg (St.start (fun _ h => h.2)) (Bl0.nil) rC (fun _ h => h.1)
 refine callsH_of_wpF (args := [vC, I ((N : Int))]) (rs := [.tmp 4]) Try.func36 rfl Try.ntmps36 Try.results36 (by kernel_rfl) (Nat.le_of_ble_eq_true rfl) ?_
 have y0 : argF [vC, I ((N : Int))] 0 = vC := rfl
 have y1 : argF [vC, I ((N : Int))] 1 = I ((N : Int)) := rfl
 generalize argF [vC, I ((N : Int))] = f0 at *
 refine wpF_seq ?_
 refine wpF_region ?_
 refine lo rfl ?_
 refine e_box (v := vC) rfl y0 hS0 (fun g1 H2 hS3 hxx => ?_)
 rw [cells_rdL (hS0.rdl 0 rfl)] at hS3
 refine lo rfl ?_
 refine e_box (v := I ((N : Int))) rfl y1 hS3 (fun g4 H5 hS6 hxx => ?_)
 refine la (v := Value.nilFunc) rfl rfl rfl ?_
 refine wpL_nil ?_
 refine wpF_seq ?_
 refine wpF_region ?_
 refine lq rfl (q_makeFunc (fi' := #[]) rfl (by simp) (arr2 (v0 := PT g4 0) (v1 := PT g1 0) rfl rfl)) ?_
 refine la (v := Value.func (.func 63) #[] #[PT g4 0, PT g1 0]) rfl rfl rfl ?_
 refine wpL_nil ?_
 refine wpF_ret ?_
 refine ⟨_, resT rfl resN, hS6.frame, ?_⟩
 show ∃ b3_ b2_, (Value.func (.func 63) #[] #[PT g4 0, PT g1 0]) = Value.func (.func 63) #[] #[PT b3_ 0, PT b2_ 0] ∧ Fresh S [bE b3_ #[I ((N : Int))] 3, bE b2_ #[vC] 24] H0 H5 ∧ [bE b3_ #[I ((N : Int))] 3, bE b2_ #[vC] 24].Pairwise fun e e' => ∀ b, e.blocks b → ¬ e'.blocks b
 have hL : St H0 NoB (SZ S H0) [bE g4 #[I ((N : Int))] 3, bE g1 #[vC] 24] H5 := (hS6.drop (sk (sk (sn (List.Sublist.slnil)))))
 exact ⟨_, _, rfl, St.freshN hL⟩
end Go.Um
