import Derived.Test.YtacphjgolmolmaaProg
import Derived.Test.YtacphjgolmolmaaMeanC1
import Derived.Test.YtacphjgolmolmaaUmArrDownC
namespace Go.Um
open Go.Proofs
open GoT (sz ag rdc)
open KeyT (kv)
theorem el_Cell_77_MeanC2 : ElT Try.prog Cell 77 := ⟨Try.isAgg77, Try.sizeOf77⟩
theorem el_Decl_43_MeanC2 : ElT Try.prog Decl 43 := ⟨Try.isAgg43, Try.sizeOf43⟩
theorem el_Entry_74_MeanC2 : ElT Try.prog Entry 74 := ⟨Try.isAgg74, Try.sizeOf74⟩
theorem el_Meaning_71_MeanC2 : ElT Try.prog Meaning 71 := ⟨Try.isAgg71, Try.sizeOf71⟩
theorem fl66_MeanC2 (a b c d : Int) (w : World) : (Op.equalIn 10000 66 (.agg #[I a, I b]) (.agg #[I c, I d])).run Try.prog w = .ok (decide (a = c ∧ b = d)) w := eq2_run Try.underlying66 Try.underlying3 Try.underlying3 (by decide) (by decide) rfl rfl Try.isAgg3 Try.isAgg3 Try.stoodInHeld66 a b c d w
set_option maxRecDepth 100000 in
theorem thing_M {H0 : Heap} (n : Int)  : CallsH Try.prog 45 #[I (n)] H0 (fun rv_ H' => Ext NoB H0 H' ∧ rv_ = B (decide (thingS n))) := by
 have hS0 : St H0 NoB NoB [] H0 := St.start (fun _ h => h.elim)
 refine callsH_of_wpF (args := [I (n)]) (rs := [.tmp 2]) Try.func45 rfl Try.ntmps45 Try.results45 (by kernel_rfl) (Nat.le_of_ble_eq_true rfl) ?_
 have y0 : argF [I (n)] 0 = I (n) := rfl
 generalize argF [I (n)] = f0 at *
 refine fcr (fun f H => f 0 = I (n) ∧ H0 = H) ?_ ?_
 ·refine la (v := B (false)) rfl rfl rfl ?_
  exact ⟨y0, rfl⟩
 clear y0
 rintro f1 _ ⟨y0, rfl⟩
 refine fcr (fun f H => f 2 = B (decide ((0 ≤ n) ∧ (n ≤ 1000))) ∧ H0 = H) ?_ ?_
 ·refine lm (v := I (n)) rfl rfl y0 ?_
  refine lq rfl (q_geq rfl rfl rfl) ?_
  refine lm (v := B (decide (0 ≤ n))) rfl rfl rfl ?_
  by_cases hg2 : 0 ≤ n
  ·have hb3 := Eq.trans rfl (congrArg B (decide_eq_true hg2))
   refine gq rfl rfl rfl hb3 (q_move (v := I (n)) rfl y0) ?_
   refine gq rfl rfl rfl hb3 (q_leq rfl rfl rfl) ?_
   refine lq rfl (q_pickT (v := B (decide (n ≤ 1000))) rfl hb3 rfl) ?_
   refine la (v := B (decide (n ≤ 1000))) rfl rfl rfl ?_
   exact ⟨(Eq.trans rfl (congrArg B (decide_congr_of ((Iff.rfl).trans (((and_iff_right hg2).trans Iff.rfl)).symm)))), rfl⟩
  ·have hb4 := Eq.trans rfl (congrArg B (decide_eq_false hg2))
   refine wpL_gs rfl rfl rfl hb4 rfl ?_
   refine wpL_gs rfl rfl rfl hb4 rfl ?_
   refine lq rfl (q_pickF (v := B (false)) rfl hb4 rfl) ?_
   refine la (v := B (false)) rfl rfl rfl ?_
   exact ⟨(Eq.trans rfl (congrArg B ((decide_eq_false (fun h => hg2 h.1)).symm))), rfl⟩
 clear y0
 rintro f5 _ ⟨y2, rfl⟩
 refine wpF_ret ?_
 refine ⟨_, resT y2 resN, hS0.frame, ?_⟩
 show (B (decide ((0 ≤ n) ∧ (n ≤ 1000)))) = B (decide (thingS n))
 rfl
set_option maxHeartbeats 1000000 in
set_option maxRecDepth 100000 in
theorem array_M {H0 : Heap} (vc : Value) (v : Val) (h6vVNum : In64 v.VNum) (h6vVDen : In64 v.VDen) (rvc : Rd NoB H0 vc v.Cells) (h6vRest : In64 v.Rest) : CallsH Try.prog 64 #[Vg #[I (v.VNum), I (v.VDen), vc, I (v.Rest)]] H0 (fun rv_ H' => Ext NoB H0 H' ∧ rv_ = B (arrB v)) := by
 have hsc : v.Cells.length * 16 ≤ 140737488355328 := (Rd.list.1 rvc).bound
 have hS0 : St H0 NoB NoB [rdE vc v.Cells] H0 := St.arg (St.start (fun _ h => h.elim)) (Bl0.nil) rvc (fun _ h => h)
 refine callsH_of_wpF (args := [Vg #[I (v.VNum), I (v.VDen), vc, I (v.Rest)]]) (rs := [.tmp 2]) Try.func64 rfl Try.ntmps64 Try.results64 (by kernel_rfl) (Nat.le_of_ble_eq_true rfl) ?_
 have y0 : argF [Vg #[I (v.VNum), I (v.VDen), vc, I (v.Rest)]] 0 = Vg #[I (v.VNum), I (v.VDen), vc, I (v.Rest)] := rfl
 generalize argF [Vg #[I (v.VNum), I (v.VDen), vc, I (v.Rest)]] = f0 at *
 refine fcr (fun f H => ∃ (g1 : Nat), f 1 = PT g1 0 ∧ St H0 NoB NoB [bE g1 #[I (v.VNum), I (v.VDen), vc, I (v.Rest)] 69, rdE vc v.Cells] H) ?_ ?_
 ·refine lo rfl ?_
  refine e_box (v := Vg #[I (v.VNum), I (v.VDen), vc, I (v.Rest)]) rfl y0 hS0 (fun g1 H2 hS3 hxx => ?_)
  refine la (v := B (false)) rfl rfl rfl ?_
  exact ⟨g1, rfl, hS3⟩
 clear y0
 rintro f4 H4 ⟨g1, y1, hS4⟩
 refine wpF_seq ?_
 refine fcr (fun f H => f 1 = PT g1 0 ∧ f 14 = B (decide ((¬ (v.VNum = 0 ∧ v.VDen = 0)) ∨ (¬ (thingS v.Rest)))) ∧ St H0 NoB NoB [bE g1 #[I (v.VNum), I (v.VDen), vc, I (v.Rest)] 69, rdE vc v.Cells] H) ?_ ?_
 ·refine lq rfl (q_fieldAddr rfl Try.underlying69 rfl Try.sizeOf66 y1) ?_
  refine lq rfl (q_loadBlkP (ds := [I (v.VNum), I (v.VDen)]) rfl rfl Try.isAgg66 Try.sizeOf66 rfl rfl (hS4.blk 0 rfl) (fun h => h)) ?_
  refine lq rfl (q_build (v := Vg #[I (0), I (0)]) rfl par0 (fun w__ => by kernel_rfl)) ?_
  refine lq rfl (q_neqF2 rfl Try.eqGuardType66 (fl66_MeanC2 _ _ _ _) rfl rfl) ?_
  refine lm (v := B (decide (¬ (v.VNum = 0 ∧ v.VDen = 0)))) rfl rfl rfl ?_
  by_cases hg5 : ¬ (v.VNum = 0 ∧ v.VDen = 0)
  ·have hb6 := Eq.trans rfl (congrArg B (decide_eq_true hg5))
   refine wpL_gs rfl rfl rfl hb6 rfl ?_
   refine wpL_gs rfl rfl rfl hb6 rfl ?_
   refine wpL_gs rfl rfl rfl hb6 rfl ?_
   refine wpL_gs rfl rfl rfl hb6 rfl ?_
   refine lq rfl (q_pickT (v := B (true)) rfl hb6 rfl) ?_
   exact ⟨y1, (Eq.trans rfl (congrArg B ((decide_eq_true (Or.inl hg5)).symm))), hS4⟩
  ·have hb7 := Eq.trans rfl (congrArg B (decide_eq_false hg5))
   refine gq rfl rfl rfl hb7 (q_fieldAddr rfl Try.underlying69 rfl Try.sizeOf3 y1) ?_
   refine gq rfl rfl rfl hb7 (q_loadBlk rfl rfl Try.isAgg3 (hS4.blk 0 rfl) rfl (fun h => h)) ?_
   refine wpL_go rfl rfl rfl hb7 ?_
   refine e_call rfl Try.call45 (arr1 (v0 := I (v.Rest)) rfl) (thing_M v.Rest) ?_
   rintro _ H8 ⟨hxx, rfl⟩
   have hS9 := hS4.ext hxx
   refine gq rfl rfl rfl hb7 (q_notP rfl rfl) ?_
   refine lq rfl (q_pickF (v := B (decide (¬ (thingS v.Rest)))) rfl hb7 rfl) ?_
   exact ⟨y1, (Eq.trans rfl (congrArg B (decide_congr_of (((not_congr Iff.rfl)).trans (((or_iff_right hg5).trans (not_congr Iff.rfl))).symm)))), hS9⟩
 clear y1
 rintro f11 H11 ⟨y1, y14, hS11⟩
 refine wpF_condP y14 (fun h14 => ?t45) (fun h14 => ?e45)
 case t45 =>
  refine fcr (fun f H => f 2 = B (false) ∧ H11 = H) ?_ ?_
  ·refine la (v := B (false)) rfl rfl rfl ?_
   exact ⟨rfl, rfl⟩
  clear y1 y14
  rintro f13 _ ⟨y2, rfl⟩
  refine wpF_ret ?_
  refine ⟨_, resT y2 resN, hS11.frame, ?_⟩
  show (B (false)) = B (arrB v)
  exact congrArg B (decide_eq_false (fun h => h.1 h14)).symm
 refine wpF_skip ?_
 refine wpF_seq ?_
 refine fcr (fun f H => f 1 = PT g1 0 ∧ f 16 = vc ∧ f 17 = I ((v.Cells.length : Int)) ∧ f 18 = I (0) ∧ H11 = H) ?_ ?_
 ·refine lq rfl (q_fieldAddr rfl Try.underlying69 rfl Try.sizeOf67 y1) ?_
  refine lq rfl (q_loadBlk rfl rfl Try.isAgg67 (hS11.blk 0 rfl) rfl (fun h => h)) ?_
  refine lq rfl (q_lenRd rfl Try.underlying67 rfl (hS11.rdl 1 rfl)) ?_
  refine lm (v := I (0)) rfl rfl rfl ?_
  exact ⟨y1, rfl, rfl, rfl, rfl⟩
 clear y1 y14
 rintro f14 _ ⟨y1, y16, y17, y18, rfl⟩
 refine wpF_block ?_
 refine wpF_loop (fun mz f H => ∃ (k : Nat), mz = v.Cells.length - k ∧ (k ≤ v.Cells.length) ∧ (∀ j, j < k → ¬ cellBad v j) ∧ f 1 = PT g1 0 ∧ f 16 = vc ∧ f 17 = I ((v.Cells.length : Int)) ∧ f 18 = I ((k : Int)) ∧ St H0 NoB NoB [bE g1 #[I (v.VNum), I (v.VDen), vc, I (v.Rest)] 69, rdE vc v.Cells] H) (v.Cells.length - 0) ?_ ?_
 ·exact ⟨0, rfl, Nat.zero_le _, (fun j hj => absurd hj (Nat.not_lt_zero j)), y1, y16, y17, (Eq.trans y18 (congrArg I (by omega))), hS11⟩
 intro m15 f15 H15 hI15
 clear y1 y16 y17 y18
 obtain ⟨k, hm15, hk, hp, y1, y16, y17, y18, hS15⟩ := hI15
 refine fcr (fun f H => f 1 = PT g1 0 ∧ f 16 = vc ∧ f 17 = I ((v.Cells.length : Int)) ∧ f 18 = I ((k : Int)) ∧ f 19 = B (decide ((k : Int) < (v.Cells.length : Int))) ∧ H15 = H) ?_ ?_
 ·refine lq rfl (q_lss rfl y18 y17) ?_
  exact ⟨y1, y16, y17, y18, rfl, rfl⟩
 clear y1 y16 y17 y18
 rintro f16 _ ⟨y1, y16, y17, y18, y19, rfl⟩
 refine wpF_seq ?_
 refine wpF_condP y19 (fun hlt => ?t44) (fun hlt => ?e44)
 case e44 =>
  refine wpF_exit ?_
  refine atX_here ?_
  refine fcr (fun f H => f 2 = B (true) ∧ H15 = H) ?_ ?_
  ·refine la (v := B (true)) rfl rfl rfl ?_
   exact ⟨rfl, rfl⟩
  clear y1 y16 y17 y18 y19
  rintro f43 _ ⟨y2, rfl⟩
  refine wpF_ret ?_
  refine ⟨_, resT y2 resN, hS15.frame, ?_⟩
  show (B (true)) = B (arrB v)
  exact congrArg B (decide_eq_true ⟨h14, fun j hj => hp j (by omega)⟩).symm
 refine wpF_skip ?_
 refine wpF_seq ?_
 refine wpF_block ?_
 refine fcr (fun f H => ∃ (g19 : Nat), (In64 (nth v.Cells k).At) ∧ (In64 (nth v.Cells k).It) ∧ f 1 = PT g1 0 ∧ f 3 = I ((k : Int)) ∧ f 4 = PT g19 0 ∧ f 16 = vc ∧ f 17 = I ((v.Cells.length : Int)) ∧ f 18 = I ((k : Int)) ∧ St H0 NoB NoB [bE g19 #[I ((nth v.Cells k).At), I ((nth v.Cells k).It)] 77, bE g1 #[I (v.VNum), I (v.VDen), vc, I (v.Rest)] 69, rdE vc v.Cells] H) ?_ ?_
 ·refine lm (v := I ((k : Int))) rfl rfl y18 ?_
  refine lq rfl (q_indexRd (k := k) rfl Try.underlying67 el_Cell_77_MeanC2 y16 y18 (hS15.rdl 1 rfl) (by omega) (by omega)) ?_
  obtain ⟨u18, huu18, hlu18⟩ := (Rd.list.1 (hS15.rdS 1 rfl)).elem k (by omega)
  obtain ⟨rfl, hu180, hu181⟩ := Rd.cell.1 huu18
  refine lq rfl (q_loadE rfl rfl (hlu18 Try.prog 77 _ el_Cell_77_MeanC2 (fun _ h => False.elim h))) ?_
  refine lo rfl ?_
  refine e_alloc rfl Try.zeroValue77 hS15 (fun g19 H20 hS21 hxx => ?_)
  refine la (v := I ((k : Int))) rfl rfl rfl ?_
  refine lo rfl ?_
  refine e_storeBlkA (cs' := #[I ((nth v.Cells k).At), I ((nth v.Cells k).It)]) rfl rfl rfl Try.sizeOf77 rfl rfl (fa rfl (fa rfl fe)) hS21 (fun H22 hS23 hxx => ?_)
  exact ⟨g19, hu180, hu181, y1, rfl, rfl, y16, y17, y18, hS23⟩
 clear y1 y16 y17 y18 y19
 rintro f24 H24 ⟨g19, hu180, hu181, y1, y3, y4, y16, y17, y18, hS24⟩
 refine sc (fun f H => f 1 = PT g1 0 ∧ f 16 = vc ∧ f 17 = I ((v.Cells.length : Int)) ∧ f 18 = I ((k : Int)) ∧ f 55 = B (decide ((((¬ (thingS ((nth v.Cells k).At))) ∨ (¬ (thingS ((nth v.Cells k).It)))) ∨ (((nth v.Cells k).It) = v.Rest)) ∨ ((0 < (k : Int)) ∧ (((nth v.Cells k).At) ≤ ((nth v.Cells (((k : Int) - 1).toNat)).At))))) ∧ St H0 NoB NoB [bE g19 #[I ((nth v.Cells k).At), I ((nth v.Cells k).It)] 77, bE g1 #[I (v.VNum), I (v.VDen), vc, I (v.Rest)] 69, rdE vc v.Cells] H) ?_ ?_
 ·refine wpF_drawn [] [] (fun _ _ => False) (by kernel_rfl) (by kernel_rfl) ?_
  refine rq 0 (by kernel_rfl) rfl rfl (q_fieldAddr rfl Try.underlying77 rfl Try.sizeOf3 y4) ?_
  refine rq 1 (by kernel_rfl) rfl rfl (q_loadBlk rfl rfl Try.isAgg3 (hS24.blk 0 rfl) rfl (labU_not [] rfl (fe))) ?_
  refine wpR_n [2] (by kernel_rfl) ?_
  refine fa ?_ fe
  refine exE rfl rfl ?_
  refine e_call rfl Try.call45 (arr1 (v0 := I ((nth v.Cells k).At)) rfl) (thing_M ((nth v.Cells k).At)) ?_
  rintro _ H25o2 ⟨hxx, rfl⟩
  have hS25o2 := hS24.ext hxx
  refine ⟨Ext.mono hxx (fun _ h => h.elim), ?_⟩
  refine rq 3 (by kernel_rfl) rfl rfl (q_notP rfl rfl) ?_
  refine rq 4 (by kernel_rfl) rfl rfl (q_move (v := B (decide (¬ (thingS ((nth v.Cells k).At))))) rfl rfl) ?_
  by_cases hg26 : ¬ (thingS ((nth v.Cells k).At))
  ·have hb27 := Eq.trans rfl (congrArg B (decide_eq_true hg26))
   refine wpR_q 5 (by kernel_rfl) rfl (quietAt_s rfl rfl rfl rfl hb27 rfl) ?_
   refine wpR_q 6 (by kernel_rfl) rfl (quietAt_s rfl rfl rfl rfl hb27 rfl) ?_
   refine wpR_q 7 (by kernel_rfl) rfl (quietAt_s rfl rfl rfl rfl hb27 rfl) ?_
   refine wpR_q 8 (by kernel_rfl) rfl (quietAt_s rfl rfl rfl rfl hb27 rfl) ?_
   refine rq 9 (by kernel_rfl) rfl rfl (q_pickT (v := B (true)) rfl hb27 rfl) ?_
   refine rq 10 (by kernel_rfl) rfl rfl (q_move (v := B (true)) rfl rfl) ?_
   refine wpR_q 11 (by kernel_rfl) rfl (quietAt_s rfl rfl rfl rfl rfl rfl) ?_
   refine wpR_q 12 (by kernel_rfl) rfl (quietAt_s rfl rfl rfl rfl rfl rfl) ?_
   refine wpR_q 13 (by kernel_rfl) rfl (quietAt_s rfl rfl rfl rfl rfl rfl) ?_
   refine wpR_q 14 (by kernel_rfl) rfl (quietAt_s rfl rfl rfl rfl rfl rfl) ?_
   refine wpR_q 15 (by kernel_rfl) rfl (quietAt_s rfl rfl rfl rfl rfl rfl) ?_
   refine rq 16 (by kernel_rfl) rfl rfl (q_pickT (v := B (true)) rfl rfl rfl) ?_
   refine rq 17 (by kernel_rfl) rfl rfl (q_move (v := B (true)) rfl rfl) ?_
   refine wpR_q 18 (by kernel_rfl) rfl (quietAt_s rfl rfl rfl rfl rfl rfl) ?_
   refine wpR_q 19 (by kernel_rfl) rfl (quietAt_s rfl rfl rfl rfl rfl rfl) ?_
   refine wpR_q 20 (by kernel_rfl) rfl (quietAt_s rfl rfl rfl rfl rfl rfl) ?_
   refine wpR_q 21 (by kernel_rfl) rfl (quietAt_s' rfl rfl rfl rfl rfl) ?_
   refine wpR_q 22 (by kernel_rfl) rfl (quietAt_s' rfl rfl rfl rfl rfl) ?_
   refine wpR_q 23 (by kernel_rfl) rfl (quietAt_s' rfl rfl rfl rfl rfl) ?_
   refine wpR_q 24 (by kernel_rfl) rfl (quietAt_s' rfl rfl rfl rfl rfl) ?_
   refine wpR_q 25 (by kernel_rfl) rfl (quietAt_s' rfl rfl rfl rfl rfl) ?_
   refine wpR_q 26 (by kernel_rfl) rfl (quietAt_s' rfl rfl rfl rfl rfl) ?_
   refine wpR_q 27 (by kernel_rfl) rfl (quietAt_s' rfl rfl rfl rfl rfl) ?_
   refine wpR_q 28 (by kernel_rfl) rfl (quietAt_s' rfl rfl rfl rfl rfl) ?_
   refine wpR_q 29 (by kernel_rfl) rfl (quietAt_s' rfl rfl rfl rfl rfl) ?_
   refine wpR_q 30 (by kernel_rfl) rfl (quietAt_s' rfl rfl rfl rfl rfl) ?_
   refine wpR_q 31 (by kernel_rfl) rfl (quietAt_s rfl rfl rfl rfl rfl rfl) ?_
   refine rq 32 (by kernel_rfl) rfl rfl (q_pickT (v := B (true)) rfl rfl rfl) ?_
   refine wpR_end (by kernel_rfl) ?_
   exact ⟨y1, y16, y17, y18, (Eq.trans rfl (congrArg B ((decide_eq_true (Or.inl (Or.inl (Or.inl hg26)))).symm))), hS25o2⟩
  ·have hb28 := Eq.trans rfl (congrArg B (decide_eq_false hg26))
   refine wpR_q 5 (by kernel_rfl) rfl (quietAt_g rfl rfl rfl rfl hb28 (q_fieldAddr rfl Try.underlying77 rfl Try.sizeOf3 y4)) ?_
   refine wpR_q 6 (by kernel_rfl) rfl (quietAt_g rfl rfl rfl rfl hb28 (q_loadBlk rfl rfl Try.isAgg3 (hS25o2.blk 0 rfl) rfl (labU_not [] rfl (fe)))) ?_
   refine wpR_n [7] (by kernel_rfl) ?_
   refine fa ?_ fe
   refine exE_g rfl rfl rfl rfl hb28 ?_
   refine e_call rfl Try.call45 (arr1 (v0 := I ((nth v.Cells k).It)) rfl) (thing_M ((nth v.Cells k).It)) ?_
   rintro _ H25o7 ⟨hxx, rfl⟩
   have hS25o7 := hS25o2.ext hxx
   refine ⟨Ext.mono hxx (fun _ h => h.elim), ?_⟩
   refine wpR_q 8 (by kernel_rfl) rfl (quietAt_g rfl rfl rfl rfl hb28 (q_notP rfl rfl)) ?_
   refine rq 9 (by kernel_rfl) rfl rfl (q_pickF (v := B (decide (¬ (thingS ((nth v.Cells k).It))))) rfl hb28 rfl) ?_
   refine rq 10 (by kernel_rfl) rfl rfl (q_move (v := B (decide (¬ (thingS ((nth v.Cells k).It))))) rfl rfl) ?_
   by_cases hg29 : ¬ (thingS ((nth v.Cells k).It))
   ·have hb30 := Eq.trans rfl (congrArg B (decide_eq_true hg29))
    refine wpR_q 11 (by kernel_rfl) rfl (quietAt_s rfl rfl rfl rfl hb30 rfl) ?_
    refine wpR_q 12 (by kernel_rfl) rfl (quietAt_s rfl rfl rfl rfl hb30 rfl) ?_
    refine wpR_q 13 (by kernel_rfl) rfl (quietAt_s rfl rfl rfl rfl hb30 rfl) ?_
    refine wpR_q 14 (by kernel_rfl) rfl (quietAt_s rfl rfl rfl rfl hb30 rfl) ?_
    refine wpR_q 15 (by kernel_rfl) rfl (quietAt_s rfl rfl rfl rfl hb30 rfl) ?_
    refine rq 16 (by kernel_rfl) rfl rfl (q_pickT (v := B (true)) rfl hb30 rfl) ?_
    refine rq 17 (by kernel_rfl) rfl rfl (q_move (v := B (true)) rfl rfl) ?_
    refine wpR_q 18 (by kernel_rfl) rfl (quietAt_s rfl rfl rfl rfl rfl rfl) ?_
    refine wpR_q 19 (by kernel_rfl) rfl (quietAt_s rfl rfl rfl rfl rfl rfl) ?_
    refine wpR_q 20 (by kernel_rfl) rfl (quietAt_s rfl rfl rfl rfl rfl rfl) ?_
    refine wpR_q 21 (by kernel_rfl) rfl (quietAt_s' rfl rfl rfl rfl rfl) ?_
    refine wpR_q 22 (by kernel_rfl) rfl (quietAt_s' rfl rfl rfl rfl rfl) ?_
    refine wpR_q 23 (by kernel_rfl) rfl (quietAt_s' rfl rfl rfl rfl rfl) ?_
    refine wpR_q 24 (by kernel_rfl) rfl (quietAt_s' rfl rfl rfl rfl rfl) ?_
    refine wpR_q 25 (by kernel_rfl) rfl (quietAt_s' rfl rfl rfl rfl rfl) ?_
    refine wpR_q 26 (by kernel_rfl) rfl (quietAt_s' rfl rfl rfl rfl rfl) ?_
    refine wpR_q 27 (by kernel_rfl) rfl (quietAt_s' rfl rfl rfl rfl rfl) ?_
    refine wpR_q 28 (by kernel_rfl) rfl (quietAt_s' rfl rfl rfl rfl rfl) ?_
    refine wpR_q 29 (by kernel_rfl) rfl (quietAt_s' rfl rfl rfl rfl rfl) ?_
    refine wpR_q 30 (by kernel_rfl) rfl (quietAt_s' rfl rfl rfl rfl rfl) ?_
    refine wpR_q 31 (by kernel_rfl) rfl (quietAt_s rfl rfl rfl rfl rfl rfl) ?_
    refine rq 32 (by kernel_rfl) rfl rfl (q_pickT (v := B (true)) rfl rfl rfl) ?_
    refine wpR_end (by kernel_rfl) ?_
    exact ⟨y1, y16, y17, y18, (Eq.trans rfl (congrArg B ((decide_eq_true (Or.inl (Or.inl (Or.inr hg29)))).symm))), hS25o7⟩
   ·have hb31 := Eq.trans rfl (congrArg B (decide_eq_false hg29))
    refine wpR_q 11 (by kernel_rfl) rfl (quietAt_g rfl rfl rfl rfl hb31 (q_fieldAddr rfl Try.underlying77 rfl Try.sizeOf3 y4)) ?_
    refine wpR_q 12 (by kernel_rfl) rfl (quietAt_g rfl rfl rfl rfl hb31 (q_loadBlk rfl rfl Try.isAgg3 (hS25o7.blk 0 rfl) rfl (labU_not [] rfl (fe)))) ?_
    refine wpR_q 13 (by kernel_rfl) rfl (quietAt_g rfl rfl rfl rfl hb31 (q_fieldAddr rfl Try.underlying69 rfl Try.sizeOf3 y1)) ?_
    refine wpR_q 14 (by kernel_rfl) rfl (quietAt_g rfl rfl rfl rfl hb31 (q_loadBlk rfl rfl Try.isAgg3 (hS25o7.blk 1 rfl) rfl (labU_not [] rfl (fe)))) ?_
    refine wpR_q 15 (by kernel_rfl) rfl (quietAt_g rfl rfl rfl rfl hb31 (q_eql rfl rfl rfl)) ?_
    refine rq 16 (by kernel_rfl) rfl rfl (q_pickF (v := B (decide (((nth v.Cells k).It) = v.Rest))) rfl hb31 rfl) ?_
    refine rq 17 (by kernel_rfl) rfl rfl (q_move (v := B (decide (((nth v.Cells k).It) = v.Rest))) rfl rfl) ?_
    by_cases hg32 : ((nth v.Cells k).It) = v.Rest
    ·have hb33 := Eq.trans rfl (congrArg B (decide_eq_true hg32))
     refine wpR_q 18 (by kernel_rfl) rfl (quietAt_s rfl rfl rfl rfl hb33 rfl) ?_
     refine wpR_q 19 (by kernel_rfl) rfl (quietAt_s rfl rfl rfl rfl hb33 rfl) ?_
     refine wpR_q 20 (by kernel_rfl) rfl (quietAt_s rfl rfl rfl rfl hb33 rfl) ?_
     refine wpR_q 21 (by kernel_rfl) rfl (quietAt_s' rfl rfl rfl rfl rfl) ?_
     refine wpR_q 22 (by kernel_rfl) rfl (quietAt_s' rfl rfl rfl rfl rfl) ?_
     refine wpR_q 23 (by kernel_rfl) rfl (quietAt_s' rfl rfl rfl rfl rfl) ?_
     refine wpR_q 24 (by kernel_rfl) rfl (quietAt_s' rfl rfl rfl rfl rfl) ?_
     refine wpR_q 25 (by kernel_rfl) rfl (quietAt_s' rfl rfl rfl rfl rfl) ?_
     refine wpR_q 26 (by kernel_rfl) rfl (quietAt_s' rfl rfl rfl rfl rfl) ?_
     refine wpR_q 27 (by kernel_rfl) rfl (quietAt_s' rfl rfl rfl rfl rfl) ?_
     refine wpR_q 28 (by kernel_rfl) rfl (quietAt_s' rfl rfl rfl rfl rfl) ?_
     refine wpR_q 29 (by kernel_rfl) rfl (quietAt_s' rfl rfl rfl rfl rfl) ?_
     refine wpR_q 30 (by kernel_rfl) rfl (quietAt_s' rfl rfl rfl rfl rfl) ?_
     refine wpR_q 31 (by kernel_rfl) rfl (quietAt_s rfl rfl rfl rfl hb33 rfl) ?_
     refine rq 32 (by kernel_rfl) rfl rfl (q_pickT (v := B (true)) rfl hb33 rfl) ?_
     refine wpR_end (by kernel_rfl) ?_
     exact ⟨y1, y16, y17, y18, (Eq.trans rfl (congrArg B ((decide_eq_true (Or.inl (Or.inr hg32))).symm))), hS25o7⟩
    ·have hb34 := Eq.trans rfl (congrArg B (decide_eq_false hg32))
     refine wpR_q 18 (by kernel_rfl) rfl (quietAt_g rfl rfl rfl rfl hb34 (q_move (v := I ((k : Int))) rfl y3)) ?_
     refine wpR_q 19 (by kernel_rfl) rfl (quietAt_g rfl rfl rfl rfl hb34 (q_gtr rfl rfl rfl)) ?_
     refine wpR_q 20 (by kernel_rfl) rfl (quietAt_g rfl rfl rfl rfl hb34 (q_move (v := B (decide (0 < (k : Int)))) rfl rfl)) ?_
     by_cases hg35 : 0 < (k : Int)
     ·have hb36 := Eq.trans rfl (congrArg B (decide_eq_true hg35))
      refine wpR_q 21 (by kernel_rfl) rfl (quietAt_g rfl rfl rfl rfl hb36 (q_fieldAddr rfl Try.underlying77 rfl Try.sizeOf3 y4)) ?_
      refine wpR_q 22 (by kernel_rfl) rfl (quietAt_g rfl rfl rfl rfl hb36 (q_loadBlk rfl rfl Try.isAgg3 (hS25o7.blk 0 rfl) rfl (labU_not [] rfl (fe)))) ?_
      refine wpR_q 23 (by kernel_rfl) rfl (quietAt_g rfl rfl rfl rfl hb36 (q_fieldAddr rfl Try.underlying69 rfl Try.sizeOf67 y1)) ?_
      refine wpR_q 24 (by kernel_rfl) rfl (quietAt_g rfl rfl rfl rfl hb36 (q_loadBlk rfl rfl Try.isAgg67 (hS25o7.blk 1 rfl) rfl (labU_not [] rfl (fe)))) ?_
      refine wpR_q 25 (by kernel_rfl) rfl (quietAt_g rfl rfl rfl rfl hb36 (q_move (v := I ((k : Int))) rfl y3)) ?_
      refine wpR_q 26 (by kernel_rfl) rfl (quietAt_g rfl rfl rfl rfl hb36 (q_sub rfl rfl rfl (by constructor <;> omega))) ?_
      refine wpR_q 27 (by kernel_rfl) rfl (quietAt_g rfl rfl rfl rfl hb36 (q_indexRd (k := ((k : Int) - 1).toNat) rfl Try.underlying67 el_Cell_77_MeanC2 rfl rfl (hS25o7.rdl 2 rfl) (by omega) (by omega))) ?_
      refine wpR_q 28 (by kernel_rfl) rfl (quietAt_g rfl rfl rfl rfl hb36 (q_fieldE (k := ((k : Int) - 1).toNat) rfl Try.underlying77 rfl Try.sizeOf3 rfl rfl (hS25o7.rdl 2 rfl) (by omega))) ?_
      obtain ⟨_, hcu25o29, hFu25o29⟩ := (Rd.list.1 (hS25o7.rdS 2 rfl)).cellF (((k : Int) - 1).toNat) (by omega)
      obtain ⟨rfl, hu25o290, hu25o291⟩ := hcu25o29
      refine wpR_q 29 (by kernel_rfl) rfl (quietAt_g rfl rfl rfl rfl hb36 (q_loadF rfl rfl (hFu25o29 0 _ Try.prog 3 _ rfl Try.isAgg3 (labU_sub [] rfl (fe))))) ?_
      refine wpR_q 30 (by kernel_rfl) rfl (quietAt_g rfl rfl rfl rfl hb36 (q_leq rfl rfl rfl)) ?_
      refine wpR_q 31 (by kernel_rfl) rfl (quietAt_g rfl rfl rfl rfl hb34 (q_pickT (v := B (decide (((nth v.Cells k).At) ≤ ((nth v.Cells (((k : Int) - 1).toNat)).At)))) rfl hb36 rfl)) ?_
      refine rq 32 (by kernel_rfl) rfl rfl (q_pickF (v := B (decide (((nth v.Cells k).At) ≤ ((nth v.Cells (((k : Int) - 1).toNat)).At)))) rfl hb34 rfl) ?_
      refine wpR_end (by kernel_rfl) ?_
      exact ⟨y1, y16, y17, y18, (Eq.trans rfl (congrArg B (decide_congr_of ((Iff.rfl).trans (((or_iff_right (not_or.2 ⟨(not_or.2 ⟨hg26, hg29⟩), hg32⟩)).trans ((and_iff_right hg35).trans Iff.rfl))).symm)))), hS25o7⟩
     ·have hb37 := Eq.trans rfl (congrArg B (decide_eq_false hg35))
      refine wpR_q 21 (by kernel_rfl) rfl (quietAt_s rfl rfl rfl rfl hb37 rfl) ?_
      refine wpR_q 22 (by kernel_rfl) rfl (quietAt_s rfl rfl rfl rfl hb37 rfl) ?_
      refine wpR_q 23 (by kernel_rfl) rfl (quietAt_s rfl rfl rfl rfl hb37 rfl) ?_
      refine wpR_q 24 (by kernel_rfl) rfl (quietAt_s rfl rfl rfl rfl hb37 rfl) ?_
      refine wpR_q 25 (by kernel_rfl) rfl (quietAt_s rfl rfl rfl rfl hb37 rfl) ?_
      refine wpR_q 26 (by kernel_rfl) rfl (quietAt_s rfl rfl rfl rfl hb37 rfl) ?_
      refine wpR_q 27 (by kernel_rfl) rfl (quietAt_s rfl rfl rfl rfl hb37 rfl) ?_
      refine wpR_q 28 (by kernel_rfl) rfl (quietAt_s rfl rfl rfl rfl hb37 rfl) ?_
      refine wpR_q 29 (by kernel_rfl) rfl (quietAt_s rfl rfl rfl rfl hb37 rfl) ?_
      refine wpR_q 30 (by kernel_rfl) rfl (quietAt_s rfl rfl rfl rfl hb37 rfl) ?_
      refine wpR_q 31 (by kernel_rfl) rfl (quietAt_g rfl rfl rfl rfl hb34 (q_pickF (v := B (false)) rfl hb37 rfl)) ?_
      refine rq 32 (by kernel_rfl) rfl rfl (q_pickF (v := B (false)) rfl hb34 rfl) ?_
      refine wpR_end (by kernel_rfl) ?_
      exact ⟨y1, y16, y17, y18, (Eq.trans rfl (congrArg B ((decide_eq_false (not_or.2 ⟨(not_or.2 ⟨(not_or.2 ⟨hg26, hg29⟩), hg32⟩), (fun h => hg35 h.1)⟩)).symm))), hS25o7⟩
 clear y1 y16 y17 y18 y3 y4
 rintro f38 H38 ⟨y1, y16, y17, y18, y55, hS38⟩
 refine wpF_condP y55 (fun h55 => ?t42) (fun h55 => ?e42)
 case e42 =>
  refine wpF_skip ?_
  refine wpF_cut (fun f H => f 1 = PT g1 0 ∧ f 16 = vc ∧ f 17 = I ((v.Cells.length : Int)) ∧ f 18 = I ((k : Int) + 1) ∧ H38 = H) ?_ ?_
  ·refine wpF_region ?_
   refine lq rfl (q_add rfl y18 rfl (by constructor <;> omega)) ?_
   refine lm (v := I ((k : Int) + 1)) rfl rfl rfl ?_
   exact ⟨y1, y16, y17, rfl, rfl⟩
  clear y1 y16 y17 y18 y55
  rintro f41 _ ⟨y1, y16, y17, y18, rfl⟩
  refine ⟨_, ?_, k + 1, rfl, (by omega), (all_succ hp h55), y1, y16, y17, (Eq.trans y18 (congrArg I (by omega))), (hS38.drop (sn (sk (sk (List.Sublist.slnil)))))⟩
  omega
 refine fcr (fun f H => f 2 = B (false) ∧ H38 = H) ?_ ?_
 ·refine la (v := B (false)) rfl rfl rfl ?_
  exact ⟨rfl, rfl⟩
 clear y1 y16 y17 y18 y55
 rintro f40 _ ⟨y2, rfl⟩
 refine wpF_ret ?_
 refine ⟨_, resT y2 resN, hS38.frame, ?_⟩
 show (B (false)) = B (arrB v)
 exact congrArg B (decide_eq_false (fun h => h.2 k (by omega) h55)).symm
set_option maxHeartbeats 1000000 in
set_option maxRecDepth 100000 in
theorem Is_M {H0 : Heap} (vc : Value) (s : Int) (v : Val) (h6vVNum : In64 v.VNum) (h6vVDen : In64 v.VDen) (rvc : Rd NoB H0 vc v.Cells) (h6vRest : In64 v.Rest) : CallsH Try.prog 48 #[I (s), Vg #[I (v.VNum), I (v.VDen), vc, I (v.Rest)]] H0 (fun rv_ H' => Ext NoB H0 H' ∧ rv_ = B (isV s v)) := by
 have hsc : v.Cells.length * 16 ≤ 140737488355328 := (Rd.list.1 rvc).bound
 have hS0 : St H0 NoB NoB [rdE vc v.Cells] H0 := St.arg (St.start (fun _ h => h.elim)) (Bl0.nil) rvc (fun _ h => h)
 refine callsH_of_wpF (args := [I (s), Vg #[I (v.VNum), I (v.VDen), vc, I (v.Rest)]]) (rs := [.tmp 4]) Try.func48 rfl Try.ntmps48 Try.results48 (by kernel_rfl) (Nat.le_of_ble_eq_true rfl) ?_
 have y0 : argF [I (s), Vg #[I (v.VNum), I (v.VDen), vc, I (v.Rest)]] 0 = I (s) := rfl
 have y1 : argF [I (s), Vg #[I (v.VNum), I (v.VDen), vc, I (v.Rest)]] 1 = Vg #[I (v.VNum), I (v.VDen), vc, I (v.Rest)] := rfl
 generalize argF [I (s), Vg #[I (v.VNum), I (v.VDen), vc, I (v.Rest)]] = f0 at *
 refine fcr (fun f H => ∃ (g1 : Nat), f 0 = I (s) ∧ f 3 = PT g1 0 ∧ St H0 NoB NoB [bE g1 #[I (v.VNum), I (v.VDen), vc, I (v.Rest)] 69, rdE vc v.Cells] H) ?_ ?_
 ·refine lo rfl ?_
  refine e_box (v := Vg #[I (v.VNum), I (v.VDen), vc, I (v.Rest)]) rfl y1 hS0 (fun g1 H2 hS3 hxx => ?_)
  refine la (v := B (false)) rfl rfl rfl ?_
  exact ⟨g1, y0, rfl, hS3⟩
 clear y0 y1
 rintro f4 H4 ⟨g1, y0, y3, hS4⟩
 refine wpF_seq ?_
 refine fcr (fun f H => f 0 = I (s) ∧ f 3 = PT g1 0 ∧ f 7 = B (decide (s = 5)) ∧ H4 = H) ?_ ?_
 ·refine lm (v := I (s)) rfl rfl y0 ?_
  refine lq rfl (q_eql rfl rfl rfl) ?_
  exact ⟨y0, y3, rfl, rfl⟩
 clear y0 y3
 rintro f5 _ ⟨y0, y3, y7, rfl⟩
 refine wpF_condP y7 (fun h7 => ?t56) (fun h7 => ?e56)
 case t56 =>
  refine fcr (fun f H => f 4 = B (arrB v) ∧ St H0 NoB NoB [bE g1 #[I (v.VNum), I (v.VDen), vc, I (v.Rest)] 69, rdE vc v.Cells] H) ?_ ?_
  ·refine lq rfl (q_loadBlkA rfl y3 Try.isAgg69 Try.sizeOf69 rfl (hS4.blk 0 rfl) (fun h => h)) ?_
   refine lo rfl ?_
   refine e_call rfl Try.call64 (arr1 (v0 := Vg #[I (v.VNum), I (v.VDen), vc, I (v.Rest)]) rfl) (array_M vc v (by first | assumption | (constructor <;> omega)) (by first | assumption | (constructor <;> omega)) (hS4.rdN 1 rfl) (by first | assumption | (constructor <;> omega)) ) ?_
   rintro _ H7 ⟨hxx, rfl⟩
   have hS8 := hS4.ext hxx
   refine la (v := B (arrB v)) rfl rfl rfl ?_
   exact ⟨rfl, hS8⟩
  clear y0 y3 y7
  rintro f10 H10 ⟨y4, hS10⟩
  refine wpF_ret ?_
  refine ⟨_, resT y4 resN, hS10.frame, ?_⟩
  show (B (arrB v)) = B (isV s v)
  exact congrArg B (by rw [isV, if_pos h7])
 refine wpF_skip ?_
 refine wpF_seq ?_
 refine fcr (fun f H => f 0 = I (s) ∧ f 3 = PT g1 0 ∧ f 35 = B (decide ((((0 < (v.Cells.length : Int)) ∨ (v.Rest ≠ 0)) ∨ ((((checkFr v.fr)).1) ≠ 0)) ∨ ((s ≠ 3) ∧ (v.VDen ≠ 1)))) ∧ St H0 NoB NoB [bE g1 #[I (v.VNum), I (v.VDen), vc, I (v.Rest)] 69, rdE vc v.Cells] H) ?_ ?_
 ·refine lq rfl (q_fieldAddr rfl Try.underlying69 rfl Try.sizeOf67 y3) ?_
  refine lq rfl (q_loadBlk rfl rfl Try.isAgg67 (hS4.blk 0 rfl) rfl (fun h => h)) ?_
  refine lq rfl (q_lenRd rfl Try.underlying67 rfl (hS4.rdl 1 rfl)) ?_
  refine lq rfl (q_gtr rfl rfl rfl) ?_
  refine lm (v := B (decide (0 < (v.Cells.length : Int)))) rfl rfl rfl ?_
  by_cases hg11 : 0 < (v.Cells.length : Int)
  ·have hb12 := Eq.trans rfl (congrArg B (decide_eq_true hg11))
   refine wpL_gs rfl rfl rfl hb12 rfl ?_
   refine wpL_gs rfl rfl rfl hb12 rfl ?_
   refine wpL_gs rfl rfl rfl hb12 rfl ?_
   refine lq rfl (q_pickT (v := B (true)) rfl hb12 rfl) ?_
   refine lm (v := B (true)) rfl rfl rfl ?_
   refine wpL_gs rfl rfl rfl rfl rfl ?_
   refine wpL_gs rfl rfl rfl rfl rfl ?_
   refine wpL_gs rfl rfl rfl rfl rfl ?_
   refine wpL_gs rfl rfl rfl rfl rfl ?_
   refine wpL_gs rfl rfl rfl rfl rfl ?_
   refine lq rfl (q_pickT (v := B (true)) rfl rfl rfl) ?_
   refine lm (v := B (true)) rfl rfl rfl ?_
   refine wpL_gs rfl rfl rfl rfl rfl ?_
   refine wpL_gs rfl rfl rfl rfl rfl ?_
   refine wpL_gs rfl rfl rfl rfl rfl ?_
   refine wpL_gs' rfl rfl rfl rfl ?_
   refine wpL_gs' rfl rfl rfl rfl ?_
   refine wpL_gs' rfl rfl rfl rfl ?_
   refine wpL_gs' rfl rfl rfl rfl ?_
   refine wpL_gs rfl rfl rfl rfl rfl ?_
   refine lq rfl (q_pickT (v := B (true)) rfl rfl rfl) ?_
   exact ⟨y0, y3, (Eq.trans rfl (congrArg B ((decide_eq_true (Or.inl (Or.inl (Or.inl hg11)))).symm))), hS4⟩
  ·have hb13 := Eq.trans rfl (congrArg B (decide_eq_false hg11))
   refine gq rfl rfl rfl hb13 (q_fieldAddr rfl Try.underlying69 rfl Try.sizeOf3 y3) ?_
   refine gq rfl rfl rfl hb13 (q_loadBlk rfl rfl Try.isAgg3 (hS4.blk 0 rfl) rfl (fun h => h)) ?_
   refine gq rfl rfl rfl hb13 (q_neq rfl rfl rfl) ?_
   refine lq rfl (q_pickF (v := B (decide (v.Rest ≠ 0))) rfl hb13 rfl) ?_
   refine lm (v := B (decide (v.Rest ≠ 0))) rfl rfl rfl ?_
   by_cases hg14 : v.Rest ≠ 0
   ·have hb15 := Eq.trans rfl (congrArg B (decide_eq_true hg14))
    refine wpL_gs rfl rfl rfl hb15 rfl ?_
    refine wpL_gs rfl rfl rfl hb15 rfl ?_
    refine wpL_gs rfl rfl rfl hb15 rfl ?_
    refine wpL_gs rfl rfl rfl hb15 rfl ?_
    refine wpL_gs rfl rfl rfl hb15 rfl ?_
    refine lq rfl (q_pickT (v := B (true)) rfl hb15 rfl) ?_
    refine lm (v := B (true)) rfl rfl rfl ?_
    refine wpL_gs rfl rfl rfl rfl rfl ?_
    refine wpL_gs rfl rfl rfl rfl rfl ?_
    refine wpL_gs rfl rfl rfl rfl rfl ?_
    refine wpL_gs' rfl rfl rfl rfl ?_
    refine wpL_gs' rfl rfl rfl rfl ?_
    refine wpL_gs' rfl rfl rfl rfl ?_
    refine wpL_gs' rfl rfl rfl rfl ?_
    refine wpL_gs rfl rfl rfl rfl rfl ?_
    refine lq rfl (q_pickT (v := B (true)) rfl rfl rfl) ?_
    exact ⟨y0, y3, (Eq.trans rfl (congrArg B ((decide_eq_true (Or.inl (Or.inl (Or.inr hg14)))).symm))), hS4⟩
   ·have hb16 := Eq.trans rfl (congrArg B (decide_eq_false hg14))
    refine gq rfl rfl rfl hb16 (q_fieldAddr rfl Try.underlying69 rfl Try.sizeOf66 y3) ?_
    refine gq rfl rfl rfl hb16 (q_loadBlkP (ds := [I (v.VNum), I (v.VDen)]) rfl rfl Try.isAgg66 Try.sizeOf66 rfl rfl (hS4.blk 0 rfl) (fun h => h)) ?_
    refine wpL_go rfl rfl rfl hb16 ?_
    refine e_call rfl Try.call65 (arr1 (v0 := Vg #[I (v.VNum), I (v.VDen)]) rfl) (Check_F  v.fr (by first | assumption | (constructor <;> omega)) (by first | assumption | (constructor <;> omega)) ) ?_
    rintro _ H17 ⟨hxx, rfl⟩
    have hS18 := hS4.ext hxx
    refine gq rfl rfl rfl hb16 (q_field (cs := #[I (((checkFr v.fr)).1), I (((checkFr v.fr)).2)]) (v := I (((checkFr v.fr)).1)) rfl Try.underlying28 rfl Try.isAgg3 rfl rfl) ?_
    refine gq rfl rfl rfl hb16 (q_neq rfl rfl rfl) ?_
    refine lq rfl (q_pickF (v := B (decide ((((checkFr v.fr)).1) ≠ 0))) rfl hb16 rfl) ?_
    refine lm (v := B (decide ((((checkFr v.fr)).1) ≠ 0))) rfl rfl rfl ?_
    by_cases hg20 : (((checkFr v.fr)).1) ≠ 0
    ·have hb21 := Eq.trans rfl (congrArg B (decide_eq_true hg20))
     refine wpL_gs rfl rfl rfl hb21 rfl ?_
     refine wpL_gs rfl rfl rfl hb21 rfl ?_
     refine wpL_gs rfl rfl rfl hb21 rfl ?_
     refine wpL_gs' rfl rfl rfl rfl ?_
     refine wpL_gs' rfl rfl rfl rfl ?_
     refine wpL_gs' rfl rfl rfl rfl ?_
     refine wpL_gs' rfl rfl rfl rfl ?_
     refine wpL_gs rfl rfl rfl hb21 rfl ?_
     refine lq rfl (q_pickT (v := B (true)) rfl hb21 rfl) ?_
     exact ⟨y0, y3, (Eq.trans rfl (congrArg B ((decide_eq_true (Or.inl (Or.inr hg20))).symm))), hS18⟩
    ·have hb22 := Eq.trans rfl (congrArg B (decide_eq_false hg20))
     refine gq rfl rfl rfl hb22 (q_move (v := I (s)) rfl y0) ?_
     refine gq rfl rfl rfl hb22 (q_neq rfl rfl rfl) ?_
     refine gq rfl rfl rfl hb22 (q_move (v := B (decide (s ≠ 3))) rfl rfl) ?_
     by_cases hg23 : s ≠ 3
     ·have hb24 := Eq.trans rfl (congrArg B (decide_eq_true hg23))
      refine gq rfl rfl rfl hb24 (q_fieldAddr rfl Try.underlying69 rfl Try.sizeOf66 y3) ?_
      refine gq rfl rfl rfl hb24 (q_fieldAddr rfl Try.underlying66 rfl Try.sizeOf3 rfl) ?_
      refine gq rfl rfl rfl hb24 (q_loadBlk rfl rfl Try.isAgg3 (hS18.blk 0 rfl) rfl (fun h => h)) ?_
      refine gq rfl rfl rfl hb24 (q_neq rfl rfl rfl) ?_
      refine gq rfl rfl rfl hb22 (q_pickT (v := B (decide (v.VDen ≠ 1))) rfl hb24 rfl) ?_
      refine lq rfl (q_pickF (v := B (decide (v.VDen ≠ 1))) rfl hb22 rfl) ?_
      exact ⟨y0, y3, (Eq.trans rfl (congrArg B (decide_congr_of ((Iff.rfl).trans (((or_iff_right (not_or.2 ⟨(not_or.2 ⟨hg11, hg14⟩), hg20⟩)).trans ((and_iff_right hg23).trans Iff.rfl))).symm)))), hS18⟩
     ·have hb25 := Eq.trans rfl (congrArg B (decide_eq_false hg23))
      refine wpL_gs rfl rfl rfl hb25 rfl ?_
      refine wpL_gs rfl rfl rfl hb25 rfl ?_
      refine wpL_gs rfl rfl rfl hb25 rfl ?_
      refine wpL_gs rfl rfl rfl hb25 rfl ?_
      refine gq rfl rfl rfl hb22 (q_pickF (v := B (false)) rfl hb25 rfl) ?_
      refine lq rfl (q_pickF (v := B (false)) rfl hb22 rfl) ?_
      exact ⟨y0, y3, (Eq.trans rfl (congrArg B ((decide_eq_false (not_or.2 ⟨(not_or.2 ⟨(not_or.2 ⟨hg11, hg14⟩), hg20⟩), (fun h => hg23 h.1)⟩)).symm))), hS18⟩
 clear y0 y3 y7
 rintro f26 H26 ⟨y0, y3, y35, hS26⟩
 refine wpF_condP y35 (fun h35 => ?t55) (fun h35 => ?e55)
 case t55 =>
  have h35n : numBad s v := h35
  refine fcr (fun f H => f 4 = B (false) ∧ H26 = H) ?_ ?_
  ·refine la (v := B (false)) rfl rfl rfl ?_
   exact ⟨rfl, rfl⟩
  clear y0 y3 y35
  rintro f28 _ ⟨y4, rfl⟩
  refine wpF_ret ?_
  refine ⟨_, resT y4 resN, hS26.frame, ?_⟩
  show (B (false)) = B (isV s v)
  exact congrArg B (by rw [isV, if_neg h7, if_pos h35n])
 have h35n : ¬ numBad s v := h35
 refine wpF_skip ?_
 refine wpF_seq ?_
 refine fcr (fun f H => f 0 = I (s) ∧ f 5 = I (v.VNum) ∧ H26 = H) ?_ ?_
 ·refine lq rfl (q_fieldAddr rfl Try.underlying69 rfl Try.sizeOf66 y3) ?_
  refine lq rfl (q_fieldAddr rfl Try.underlying66 rfl Try.sizeOf3 rfl) ?_
  refine lq rfl (q_loadBlk rfl rfl Try.isAgg3 (hS26.blk 0 rfl) rfl (fun h => h)) ?_
  refine la (v := I (v.VNum)) rfl rfl rfl ?_
  exact ⟨y0, rfl, rfl⟩
 clear y0 y3 y35
 rintro f29 _ ⟨y0, y5, rfl⟩
 refine wpF_block ?_
 refine fcr (fun f H => f 0 = I (s) ∧ f 5 = I (v.VNum) ∧ f 39 = B (decide (s = 1)) ∧ H26 = H) ?_ ?_
 ·refine lm (v := I (s)) rfl rfl y0 ?_
  refine lq rfl (q_eql rfl rfl rfl) ?_
  refine la (v := B (decide (s = 1))) rfl rfl rfl ?_
  exact ⟨y0, y5, rfl, rfl⟩
 clear y0 y5
 rintro f30 _ ⟨y0, y5, y39, rfl⟩
 refine wpF_condP y39 (fun h39 => ?t54) (fun h39 => ?e54)
 case t54 =>
  refine fcr (fun f H => f 4 = B (decide ((v.VNum = 0) ∨ (v.VNum = 1))) ∧ H26 = H) ?_ ?_
  ·refine lm (v := I (v.VNum)) rfl rfl y5 ?_
   refine lq rfl (q_eql rfl rfl rfl) ?_
   refine lm (v := B (decide (v.VNum = 0))) rfl rfl rfl ?_
   by_cases hg32 : v.VNum = 0
   ·have hb33 := Eq.trans rfl (congrArg B (decide_eq_true hg32))
    refine wpL_gs rfl rfl rfl hb33 rfl ?_
    refine wpL_gs rfl rfl rfl hb33 rfl ?_
    refine lq rfl (q_pickT (v := B (true)) rfl hb33 rfl) ?_
    refine la (v := B (true)) rfl rfl rfl ?_
    exact ⟨(Eq.trans rfl (congrArg B ((decide_eq_true (Or.inl hg32)).symm))), rfl⟩
   ·have hb34 := Eq.trans rfl (congrArg B (decide_eq_false hg32))
    refine gq rfl rfl rfl hb34 (q_move (v := I (v.VNum)) rfl y5) ?_
    refine gq rfl rfl rfl hb34 (q_eql rfl rfl rfl) ?_
    refine lq rfl (q_pickF (v := B (decide (v.VNum = 1))) rfl hb34 rfl) ?_
    refine la (v := B (decide (v.VNum = 1))) rfl rfl rfl ?_
    exact ⟨(Eq.trans rfl (congrArg B (decide_congr_of ((Iff.rfl).trans (((or_iff_right hg32).trans Iff.rfl)).symm)))), rfl⟩
  clear y0 y39 y5
  rintro f35 _ ⟨y4, rfl⟩
  refine wpF_ret ?_
  refine ⟨_, resT y4 resN, hS26.frame, ?_⟩
  show (B (decide ((v.VNum = 0) ∨ (v.VNum = 1)))) = B (isV s v)
  exact congrArg B (by rw [isV, if_neg h7, if_neg h35n, if_pos h39])
 refine fcr (fun f H => f 0 = I (s) ∧ f 5 = I (v.VNum) ∧ f 48 = B (decide (s = 4)) ∧ H26 = H) ?_ ?_
 ·refine lm (v := I (s)) rfl rfl y0 ?_
  refine lq rfl (q_eql rfl rfl rfl) ?_
  refine la (v := B (decide (s = 4))) rfl rfl rfl ?_
  exact ⟨y0, y5, rfl, rfl⟩
 clear y0 y39 y5
 rintro f36 _ ⟨y0, y5, y48, rfl⟩
 refine wpF_condP y48 (fun h48 => ?t53) (fun h48 => ?e53)
 case t53 =>
  refine fcr (fun f H => f 4 = B (decide (thingS v.VNum)) ∧ St H0 NoB NoB [bE g1 #[I (v.VNum), I (v.VDen), vc, I (v.Rest)] 69, rdE vc v.Cells] H) ?_ ?_
  ·refine lm (v := I (v.VNum)) rfl rfl y5 ?_
   refine lo rfl ?_
   refine e_call rfl Try.call45 (arr1 (v0 := I (v.VNum)) rfl) (thing_M v.VNum) ?_
   rintro _ H38 ⟨hxx, rfl⟩
   have hS39 := hS26.ext hxx
   refine la (v := B (decide (thingS v.VNum))) rfl rfl rfl ?_
   exact ⟨rfl, hS39⟩
  clear y0 y48 y5
  rintro f41 H41 ⟨y4, hS41⟩
  refine wpF_ret ?_
  refine ⟨_, resT y4 resN, hS41.frame, ?_⟩
  show (B (decide (thingS v.VNum))) = B (isV s v)
  exact congrArg B (by rw [isV, if_neg h7, if_neg h35n, if_neg h39, if_pos h48])
 refine fcr (fun f H => f 0 = I (s) ∧ f 5 = I (v.VNum) ∧ f 53 = B (decide (wordS s)) ∧ St H0 NoB NoB [bE g1 #[I (v.VNum), I (v.VDen), vc, I (v.Rest)] 69, rdE vc v.Cells] H) ?_ ?_
 ·refine lm (v := I (s)) rfl rfl y0 ?_
  refine lo rfl ?_
  refine e_call rfl Try.call51 (arr1 (v0 := I (s)) rfl) (Word_L s) ?_
  rintro _ H42 ⟨hxx, rfl⟩
  have hS43 := hS26.ext hxx
  refine la (v := B (decide (wordS s))) rfl rfl rfl ?_
  exact ⟨y0, y5, rfl, hS43⟩
 clear y0 y48 y5
 rintro f45 H45 ⟨y0, y5, y53, hS45⟩
 refine wpF_condP y53 (fun h53 => ?t52) (fun h53 => ?e52)
 case e52 =>
  refine wpF_skip ?_
  refine fcr (fun f H => f 4 = B (true) ∧ H45 = H) ?_ ?_
  ·refine la (v := B (true)) rfl rfl rfl ?_
   exact ⟨rfl, rfl⟩
  clear y0 y5 y53
  rintro f51 _ ⟨y4, rfl⟩
  refine wpF_ret ?_
  refine ⟨_, resT y4 resN, hS45.frame, ?_⟩
  show (B (true)) = B (isV s v)
  exact congrArg B (by rw [isV, if_neg h7, if_neg h35n, if_neg h39, if_neg h48, if_neg h53])
 refine fcr (fun f H => f 4 = B (decide ((0 ≤ v.VNum) ∧ (v.VNum < ((2 ^ ((s - 10).toNat) : Nat) : Int)))) ∧ H45 = H) ?_ ?_
 ·refine lm (v := I (v.VNum)) rfl rfl y5 ?_
  refine lq rfl (q_geq rfl rfl rfl) ?_
  refine lm (v := B (decide (0 ≤ v.VNum))) rfl rfl rfl ?_
  by_cases hg47 : 0 ≤ v.VNum
  ·have hb48 := Eq.trans rfl (congrArg B (decide_eq_true hg47))
   refine gq rfl rfl rfl hb48 (q_move (v := I (v.VNum)) rfl y5) ?_
   refine gq rfl rfl rfl hb48 (q_move (v := I (s)) rfl y0) ?_
   refine gq rfl rfl rfl hb48 (q_sub rfl rfl rfl (by unfold wordS at h53; constructor <;> omega)) ?_
   refine gq rfl rfl rfl hb48 (q_shl1 rfl rfl rfl (by unfold wordS at h53; omega) (by unfold wordS at h53; omega)) ?_
   refine gq rfl rfl rfl hb48 (q_lss rfl rfl rfl) ?_
   refine lq rfl (q_pickT (v := B (decide (v.VNum < ((2 ^ ((s - 10).toNat) : Nat) : Int)))) rfl hb48 rfl) ?_
   refine la (v := B (decide (v.VNum < ((2 ^ ((s - 10).toNat) : Nat) : Int)))) rfl rfl rfl ?_
   exact ⟨(Eq.trans rfl (congrArg B (decide_congr_of ((Iff.rfl).trans (((and_iff_right hg47).trans Iff.rfl)).symm)))), rfl⟩
  ·have hb49 := Eq.trans rfl (congrArg B (decide_eq_false hg47))
   refine wpL_gs rfl rfl rfl hb49 rfl ?_
   refine wpL_gs rfl rfl rfl hb49 rfl ?_
   refine wpL_gs rfl rfl rfl hb49 rfl ?_
   refine wpL_gs rfl rfl rfl hb49 rfl ?_
   refine wpL_gs rfl rfl rfl hb49 rfl ?_
   refine lq rfl (q_pickF (v := B (false)) rfl hb49 rfl) ?_
   refine la (v := B (false)) rfl rfl rfl ?_
   exact ⟨(Eq.trans rfl (congrArg B ((decide_eq_false (fun h => hg47 h.1)).symm))), rfl⟩
 clear y0 y5 y53
 rintro f50 _ ⟨y4, rfl⟩
 refine wpF_ret ?_
 refine ⟨_, resT y4 resN, hS45.frame, ?_⟩
 show (B (decide ((0 ≤ v.VNum) ∧ (v.VNum < ((2 ^ ((s - 10).toNat) : Nat) : Int))))) = B (isV s v)
 exact congrArg B (by rw [isV, if_neg h7, if_neg h35n, if_neg h39, if_neg h48, if_pos h53])
set_option maxRecDepth 100000 in
theorem IndexFuncE {H0 : Heap} (vs vf : Value) (l : List Entry) (gp : Entry → Bool) (rs : Rd NoB H0 vs l) (hf : ∀ u x, x ∈ l → ∀ H, Ext NoB H0 H → Rd NoB H u x → FnH Try.prog vf #[u] H (fun rv H' => Ext NoB H H' ∧ rv = B (gp x))) : CallsH Try.prog 63 #[vs, vf] H0 (fun rv_ H' => Ext NoB H0 H' ∧ rv_ = I (idxOf gp l)) := by
 have hsm : l.length * 72 ≤ 140737488355328 := (Rd.list.1 rs).bound
 have hS0 : St H0 NoB NoB [rdE vs l] H0 := St.arg (St.start (fun _ h => h.elim)) (Bl0.nil) rs (fun _ h => h)
 refine callsH_of_wpF (args := [vs, vf]) (rs := [.tmp 4]) Try.func63 rfl Try.ntmps63 Try.results63 (by kernel_rfl) (Nat.le_of_ble_eq_true rfl) ?_
 have y0 : argF [vs, vf] 0 = vs := rfl
 have y1 : argF [vs, vf] 1 = vf := rfl
 generalize argF [vs, vf] = f0 at *
 refine fcr (fun f H => f 0 = vs ∧ f 1 = vf ∧ H0 = H) ?_ ?_
 ·refine la (v := I (0)) rfl rfl rfl ?_
  exact ⟨y0, y1, rfl⟩
 clear y0 y1
 rintro f1 _ ⟨y0, y1, rfl⟩
 refine wpF_seq ?_
 refine fcr (fun f H => f 0 = vs ∧ f 1 = vf ∧ f 7 = I ((l.length : Int)) ∧ f 8 = I (0) ∧ H0 = H) ?_ ?_
 ·refine lm (v := vs) rfl rfl y0 ?_
  refine lq rfl (q_lenRd rfl Try.underlying64 rfl (hS0.rdl 0 rfl)) ?_
  refine lm (v := I (0)) rfl rfl rfl ?_
  exact ⟨y0, y1, rfl, rfl, rfl⟩
 clear y0 y1
 rintro f2 _ ⟨y0, y1, y7, y8, rfl⟩
 refine wpF_block ?_
 refine wpF_loop (fun mz f H => ∃ (k : Nat), mz = l.length - k ∧ (k ≤ l.length) ∧ (∀ j, j < k → gp (nth l j) = false) ∧ f 0 = vs ∧ f 1 = vf ∧ f 7 = I ((l.length : Int)) ∧ f 8 = I ((k : Int)) ∧ St H0 NoB NoB [rdE vs l] H) (l.length - 0) ?_ ?_
 ·exact ⟨0, rfl, Nat.zero_le _, (fun j hj => absurd hj (Nat.not_lt_zero j)), y0, y1, y7, (Eq.trans y8 (congrArg I (by omega))), hS0⟩
 intro m3 f3 H3 hI3
 clear y0 y1 y7 y8
 obtain ⟨k, hm3, hk, hno, y0, y1, y7, y8, hS3⟩ := hI3
 refine fcr (fun f H => f 0 = vs ∧ f 1 = vf ∧ f 7 = I ((l.length : Int)) ∧ f 8 = I ((k : Int)) ∧ f 9 = B (decide ((k : Int) < (l.length : Int))) ∧ H3 = H) ?_ ?_
 ·refine lq rfl (q_lss rfl y8 y7) ?_
  exact ⟨y0, y1, y7, y8, rfl, rfl⟩
 clear y0 y1 y7 y8
 rintro f4 _ ⟨y0, y1, y7, y8, y9, rfl⟩
 refine wpF_seq ?_
 refine wpF_condP y9 (fun hlt => ?t19) (fun hlt => ?e19)
 case e19 =>
  refine wpF_exit ?_
  refine atX_here ?_
  refine fcr (fun f H => f 4 = I (-1) ∧ H3 = H) ?_ ?_
  ·refine la (v := I (-1)) rfl rfl rfl ?_
   exact ⟨rfl, rfl⟩
  clear y0 y1 y7 y8 y9
  rintro f18 _ ⟨y4, rfl⟩
  refine wpF_ret ?_
  refine ⟨_, resT y4 resN, hS3.frame, ?_⟩
  show (I (-1)) = I (idxOf gp l)
  exact congrArg I (idxOf_no fun j hj => hno j (by omega)).symm
 refine wpF_skip ?_
 refine wpF_seq ?_
 refine wpF_block ?_
 refine fcr (fun f H => f 0 = vs ∧ f 1 = vf ∧ f 5 = I ((k : Int)) ∧ f 7 = I ((l.length : Int)) ∧ f 8 = I ((k : Int)) ∧ H3 = H) ?_ ?_
 ·refine lm (v := I ((k : Int))) rfl rfl y8 ?_
  refine la (v := I ((k : Int))) rfl rfl rfl ?_
  exact ⟨y0, y1, rfl, y7, y8, rfl⟩
 clear y0 y1 y7 y8 y9
 rintro f6 _ ⟨y0, y1, y5, y7, y8, rfl⟩
 refine fcr (fun f H => (In64 (nth l k).ENum) ∧ (In64 (nth l k).EDen) ∧ (In64 (nth l k).ERest) ∧ f 0 = vs ∧ f 1 = vf ∧ f 5 = I ((k : Int)) ∧ f 7 = I ((l.length : Int)) ∧ f 8 = I ((k : Int)) ∧ f 16 = B (gp (nth l k)) ∧ St H0 NoB NoB [rdE vs l] H) ?_ ?_
 ·refine lm (v := vf) rfl rfl y1 ?_
  refine lm (v := vs) rfl rfl y0 ?_
  refine lm (v := I ((k : Int))) rfl rfl y5 ?_
  refine lq rfl (q_indexRd (k := k) rfl Try.underlying64 el_Entry_74_MeanC2 rfl rfl (hS3.rdl 0 rfl) (by omega) (by omega)) ?_
  obtain ⟨u7, huu7, hlu7⟩ := (Rd.list.1 (hS3.rdS 0 rfl)).elem k (by omega)
  obtain ⟨u7n0, u7n3, rfl, hu70, hu71, hu72, hu73, hu74⟩ := Rd.entry.1 huu7
  have hS8 := hS3.rd hu70
  have hS9 : St H0 NoB NoB [rdE u7n3 ((nth l k).ECells), rdE u7n0 ((nth l k).Args), rdE vs l] H3 := hS8.rd (hu73.sub fun _ hb => SL_rd hb)
  refine lq rfl (q_loadE rfl rfl (hlu7 Try.prog 74 _ el_Entry_74_MeanC2 (fun _ h => False.elim h))) ?_
  refine lo rfl ?_
  refine e_callF rfl rfl (arr1 (v0 := Vg #[u7n0, I ((nth l k).ENum), I ((nth l k).EDen), u7n3, I ((nth l k).ERest)]) rfl) (hf _ _ (nth_mem (by omega)) _ hS9.frame (Rd.entry.2 ⟨_, _, rfl, (hS9.rdN 1 rfl), (by assumption), (by assumption), (hS9.rdN 0 rfl), (by assumption)⟩)) ?_
  rintro _ H10 ⟨hxx, rfl⟩
  have hS11 := hS9.ext hxx
  exact ⟨hu71, hu72, hu74, y0, y1, y5, y7, y8, rfl, (hS11.drop (sn (sn (sk (List.Sublist.slnil)))))⟩
 clear y0 y1 y5 y7 y8
 rintro f13 H13 ⟨hu71, hu72, hu74, y0, y1, y5, y7, y8, y16, hS13⟩
 refine wpF_cond y16 (fun hg => ?t17) (fun hg => ?e17)
 case e17 =>
  refine wpF_skip ?_
  refine wpF_cut (fun f H => f 0 = vs ∧ f 1 = vf ∧ f 7 = I ((l.length : Int)) ∧ f 8 = I ((k : Int) + 1) ∧ H13 = H) ?_ ?_
  ·refine wpF_region ?_
   refine lq rfl (q_add rfl y8 rfl (by constructor <;> omega)) ?_
   refine lm (v := I ((k : Int) + 1)) rfl rfl rfl ?_
   exact ⟨y0, y1, y7, rfl, rfl⟩
  clear y0 y1 y16 y5 y7 y8
  rintro f16 _ ⟨y0, y1, y7, y8, rfl⟩
  refine ⟨_, ?_, k + 1, rfl, (by omega), (all_succ hno (by simpa using hg)), y0, y1, y7, (Eq.trans y8 (congrArg I (by omega))), hS13⟩
  omega
 refine fcr (fun f H => f 4 = I ((k : Int)) ∧ H13 = H) ?_ ?_
 ·refine lm (v := I ((k : Int))) rfl rfl y5 ?_
  refine la (v := I ((k : Int))) rfl rfl rfl ?_
  exact ⟨rfl, rfl⟩
 clear y0 y1 y16 y5 y7 y8
 rintro f15 _ ⟨y4, rfl⟩
 refine wpF_ret ?_
 refine ⟨_, resT y4 resN, hS13.frame, ?_⟩
 show (I ((k : Int))) = I (idxOf gp l)
 exact congrArg I (idxOf_at (by omega) hno (by simpa using hg)).symm
set_option maxRecDepth 100000 in
theorem ContainsFuncE {H0 : Heap} (vs vf : Value) (l : List Entry) (gp : Entry → Bool) (rs : Rd NoB H0 vs l) (hf : ∀ u x, x ∈ l → ∀ H, Ext NoB H0 H → Rd NoB H u x → FnH Try.prog vf #[u] H (fun rv H' => Ext NoB H H' ∧ rv = B (gp x))) : CallsH Try.prog 41 #[vs, vf] H0 (fun rv_ H' => Ext NoB H0 H' ∧ rv_ = B (l.any gp)) := by
 have hS0 : St H0 NoB NoB [rdE vs l] H0 := St.arg (St.start (fun _ h => h.elim)) (Bl0.nil) rs (fun _ h => h)
 refine callsH_of_wpF (args := [vs, vf]) (rs := [.tmp 4]) Try.func41 rfl Try.ntmps41 Try.results41 (by kernel_rfl) (Nat.le_of_ble_eq_true rfl) ?_
 have y0 : argF [vs, vf] 0 = vs := rfl
 have y1 : argF [vs, vf] 1 = vf := rfl
 generalize argF [vs, vf] = f0 at *
 refine fcr (fun f H => f 0 = vs ∧ f 1 = vf ∧ H0 = H) ?_ ?_
 ·refine la (v := B (false)) rfl rfl rfl ?_
  exact ⟨y0, y1, rfl⟩
 clear y0 y1
 rintro f1 _ ⟨y0, y1, rfl⟩
 refine fcr (fun f H => f 4 = B (decide (0 ≤ (idxOf gp l))) ∧ St H0 NoB NoB [] H) ?_ ?_
 ·refine lm (v := vs) rfl rfl y0 ?_
  refine lm (v := vf) rfl rfl y1 ?_
  refine lo rfl ?_
  refine e_call rfl Try.call63 (arr2 (v0 := vs) (v1 := vf) rfl rfl) (IndexFuncE vs vf l gp (hS0.rdN 0 rfl) (fun u x hx H hE hr => hf u x hx H (hS0.frame.trans hE) hr)) ?_
  rintro _ H2 ⟨hxx, rfl⟩
  have hS3 := hS0.ext hxx
  refine lq rfl (q_geq rfl rfl rfl) ?_
  refine la (v := B (decide (0 ≤ (idxOf gp l)))) rfl rfl rfl ?_
  exact ⟨rfl, (hS3.drop (sn (List.Sublist.slnil)))⟩
 clear y0 y1
 rintro f5 H5 ⟨y4, hS5⟩
 refine wpF_ret ?_
 refine ⟨_, resT y4 resN, hS5.frame, ?_⟩
 show (B (decide (0 ≤ (idxOf gp l)))) = B (l.any gp)
 exact congrArg B (bool_congr_of idxOf_any.symm).symm
set_option maxRecDepth 100000 in
theorem chkM_1 {H0 : Heap} (va vc : Value) (gx : Nat) (vA : Value) (e : Entry) (d : Decl) (rva : Rd NoB H0 va e.Args) (h6eENum : In64 e.ENum) (h6eEDen : In64 e.EDen) (rvc : Rd NoB H0 vc e.ECells) (h6eERest : In64 e.ERest) (hb : H0[gx]? = some (.cells #[SB d.Name, vA, I d.Srt] 43)) (rA : Rd NoB H0 vA d.Args) : CallsH Try.prog 42 #[Vg #[va, I (e.ENum), I (e.EDen), vc, I (e.ERest)], PT gx 0] H0 (fun rv_ H' => Ext NoB H0 H' ∧ rv_ = B (decide ((e.Args.length : Int) ≠ (d.Args.length : Int)))) := by
 have hS0 : St H0 NoB NoB [fixE gx (.cells #[SB (d.Name), vA, I (d.Srt)] 43), rdE va e.Args, rdE vc e.ECells, rdE vA d.Args] H0 := St.argFix (St.arg (St.arg (St.arg (St.start (fun _ h => h.elim)) (Bl0.nil) rA (fun _ h => h)) (Bl0.cons (Bl0.nil)) rvc (fun _ h => h)) (Bl0.cons (Bl0.cons (Bl0.nil))) rva (fun _ h => h)) (Bl0.cons (Bl0.cons (Bl0.cons (Bl0.nil)))) hb (fun h => h)
 refine callsH_of_wpF (args := [Vg #[va, I (e.ENum), I (e.EDen), vc, I (e.ERest)], PT gx 0]) (rs := [.tmp 3]) Try.func42 rfl Try.ntmps42 Try.results42 (by kernel_rfl) (Nat.le_of_ble_eq_true rfl) ?_
 have y0 : argF [Vg #[va, I (e.ENum), I (e.EDen), vc, I (e.ERest)], PT gx 0] 0 = Vg #[va, I (e.ENum), I (e.EDen), vc, I (e.ERest)] := rfl
 have y1 : argF [Vg #[va, I (e.ENum), I (e.EDen), vc, I (e.ERest)], PT gx 0] 1 = PT gx 0 := rfl
 generalize argF [Vg #[va, I (e.ENum), I (e.EDen), vc, I (e.ERest)], PT gx 0] = f0 at *
 refine fcr (fun f H => ∃ (g1 : Nat), f 1 = PT gx 0 ∧ f 2 = PT g1 0 ∧ St H0 NoB NoB [bE g1 #[va, I (e.ENum), I (e.EDen), vc, I (e.ERest)] 74, fixE gx (.cells #[SB (d.Name), vA, I (d.Srt)] 43), rdE va e.Args, rdE vc e.ECells, rdE vA d.Args] H) ?_ ?_
 ·refine lo rfl ?_
  refine e_box (v := Vg #[va, I (e.ENum), I (e.EDen), vc, I (e.ERest)]) rfl y0 hS0 (fun g1 H2 hS3 hxx => ?_)
  refine la (v := B (false)) rfl rfl rfl ?_
  exact ⟨g1, y1, rfl, hS3⟩
 clear y0 y1
 rintro f4 H4 ⟨g1, y1, y2, hS4⟩
 refine fcr (fun f H => f 3 = B (decide ((e.Args.length : Int) ≠ (d.Args.length : Int))) ∧ H4 = H) ?_ ?_
 ·refine lq rfl (q_fieldAddr rfl Try.underlying74 rfl Try.sizeOf24 y2) ?_
  refine lq rfl (q_loadBlk rfl rfl Try.isAgg24 (hS4.blk 0 rfl) rfl (fun h => h)) ?_
  refine lq rfl (q_lenRd rfl Try.underlying24 rfl (hS4.rdl 2 rfl)) ?_
  refine lq rfl (q_fieldAddr rfl Try.underlying43 rfl Try.sizeOf24 y1) ?_
  refine lq rfl (q_loadBlk rfl rfl Try.isAgg24 (hS4.fixd 1 rfl) rfl (fun h => h)) ?_
  refine lq rfl (q_lenRd rfl Try.underlying24 rfl (hS4.rdl 4 rfl)) ?_
  refine lq rfl (q_neq rfl rfl rfl) ?_
  refine la (v := B (decide ((e.Args.length : Int) ≠ (d.Args.length : Int)))) rfl rfl rfl ?_
  exact ⟨rfl, rfl⟩
 clear y1 y2
 rintro f5 _ ⟨y3, rfl⟩
 refine wpF_ret ?_
 refine ⟨_, resT y3 resN, hS4.frame, ?_⟩
 show (B (decide ((e.Args.length : Int) ≠ (d.Args.length : Int)))) = B (decide ((e.Args.length : Int) ≠ (d.Args.length : Int)))
 rfl
set_option maxRecDepth 100000 in
theorem chkM_21 {H0 : Heap} (n : Int)  : CallsH Try.prog 44 #[I (n)] H0 (fun rv_ H' => Ext NoB H0 H' ∧ rv_ = B (decide (¬ thingS n))) := by
 have hS0 : St H0 NoB NoB [] H0 := St.start (fun _ h => h.elim)
 refine callsH_of_wpF (args := [I (n)]) (rs := [.tmp 2]) Try.func44 rfl Try.ntmps44 Try.results44 (by kernel_rfl) (Nat.le_of_ble_eq_true rfl) ?_
 have y0 : argF [I (n)] 0 = I (n) := rfl
 generalize argF [I (n)] = f0 at *
 refine fcr (fun f H => f 0 = I (n) ∧ H0 = H) ?_ ?_
 ·refine la (v := B (false)) rfl rfl rfl ?_
  exact ⟨y0, rfl⟩
 clear y0
 rintro f1 _ ⟨y0, rfl⟩
 refine fcr (fun f H => f 2 = B (decide (¬ (thingS n))) ∧ St H0 NoB NoB [] H) ?_ ?_
 ·refine lm (v := I (n)) rfl rfl y0 ?_
  refine lo rfl ?_
  refine e_call rfl Try.call45 (arr1 (v0 := I (n)) rfl) (thing_M n) ?_
  rintro _ H2 ⟨hxx, rfl⟩
  have hS3 := hS0.ext hxx
  refine lq rfl (q_notP rfl rfl) ?_
  refine la (v := B (decide (¬ (thingS n)))) rfl rfl rfl ?_
  exact ⟨rfl, hS3⟩
 clear y0
 rintro f5 H5 ⟨y2, hS5⟩
 refine wpF_ret ?_
 refine ⟨_, resT y2 resN, hS5.frame, ?_⟩
 show (B (decide (¬ (thingS n)))) = B (decide (¬ thingS n))
 rfl
set_option maxRecDepth 100000 in
theorem chkM_2 {H0 : Heap} (va vc : Value) (e : Entry) (rva : Rd NoB H0 va e.Args) (h6eENum : In64 e.ENum) (h6eEDen : In64 e.EDen) (rvc : Rd NoB H0 vc e.ECells) (h6eERest : In64 e.ERest) : CallsH Try.prog 43 #[Vg #[va, I (e.ENum), I (e.EDen), vc, I (e.ERest)]] H0 (fun rv_ H' => Ext NoB H0 H' ∧ rv_ = B (e.Args.any fun n => decide (¬ thingS n))) := by
 have hS0 : St H0 NoB NoB [rdE va e.Args, rdE vc e.ECells] H0 := St.arg (St.arg (St.start (fun _ h => h.elim)) (Bl0.nil) rvc (fun _ h => h)) (Bl0.cons (Bl0.nil)) rva (fun _ h => h)
 refine callsH_of_wpF (args := [Vg #[va, I (e.ENum), I (e.EDen), vc, I (e.ERest)]]) (rs := [.tmp 2]) Try.func43 rfl Try.ntmps43 Try.results43 (by kernel_rfl) (Nat.le_of_ble_eq_true rfl) ?_
 have y0 : argF [Vg #[va, I (e.ENum), I (e.EDen), vc, I (e.ERest)]] 0 = Vg #[va, I (e.ENum), I (e.EDen), vc, I (e.ERest)] := rfl
 generalize argF [Vg #[va, I (e.ENum), I (e.EDen), vc, I (e.ERest)]] = f0 at *
 refine fcr (fun f H => ∃ (g1 : Nat), f 1 = PT g1 0 ∧ St H0 NoB NoB [bE g1 #[va, I (e.ENum), I (e.EDen), vc, I (e.ERest)] 74, rdE va e.Args, rdE vc e.ECells] H) ?_ ?_
 ·refine lo rfl ?_
  refine e_box (v := Vg #[va, I (e.ENum), I (e.EDen), vc, I (e.ERest)]) rfl y0 hS0 (fun g1 H2 hS3 hxx => ?_)
  refine la (v := B (false)) rfl rfl rfl ?_
  exact ⟨g1, rfl, hS3⟩
 clear y0
 rintro f4 H4 ⟨g1, y1, hS4⟩
 refine fcr (fun f H => f 2 = B (e.Args.any (fun n => decide (¬ thingS n))) ∧ St H0 NoB NoB [bE g1 #[va, I (e.ENum), I (e.EDen), vc, I (e.ERest)] 74, rdE va e.Args, rdE vc e.ECells] H) ?_ ?_
 ·refine lq rfl (q_fieldAddr rfl Try.underlying74 rfl Try.sizeOf24 y1) ?_
  refine lq rfl (q_loadBlk rfl rfl Try.isAgg24 (hS4.blk 0 rfl) rfl (fun h => h)) ?_
  refine lo rfl ?_
  refine e_call rfl Try.call28 (arr2 (v0 := va) (v1 := Value.func (.func 44) #[] #[]) rfl rfl) (ContainsFunc va (Value.func (.func 44) #[] #[]) e.Args (fun n => decide (¬ thingS n)) (hS4.rdN 1 rfl) (fun x hx H hE => ⟨_, _, rfl, Try.call44, chkM_21 x⟩)) ?_
  rintro _ H5 ⟨hxx, rfl⟩
  have hS6 := hS4.ext hxx
  refine la (v := B (e.Args.any (fun n => decide (¬ thingS n)))) rfl rfl rfl ?_
  exact ⟨rfl, hS6⟩
 clear y1
 rintro f8 H8 ⟨y2, hS8⟩
 refine wpF_ret ?_
 refine ⟨_, resT y2 resN, hS8.frame, ?_⟩
 show (B (e.Args.any (fun n => decide (¬ thingS n)))) = B (e.Args.any fun n => decide (¬ thingS n))
 rfl
set_option maxRecDepth 100000 in
theorem chkM_3 {H0 : Heap} (va vc : Value) (gx : Nat) (v0 c1 c2 c3 c4 : Value) (x : Entry) (l : List Int) (rva : Rd NoB H0 va x.Args) (h6xENum : In64 x.ENum) (h6xEDen : In64 x.EDen) (rvc : Rd NoB H0 vc x.ECells) (h6xERest : In64 x.ERest) (hb : H0[gx]? = some (.cells #[v0, c1, c2, c3, c4] 74)) (r0 : Rd NoB H0 v0 l) : CallsH Try.prog 46 #[Vg #[va, I (x.ENum), I (x.EDen), vc, I (x.ERest)], PT gx 0] H0 (fun rv_ H' => Ext NoB H0 H' ∧ rv_ = B (decide (x.Args = l))) := by
 have hS0 : St H0 NoB NoB [fixE gx (.cells #[v0, c1, c2, c3, c4] 74), rdE va x.Args, rdE vc x.ECells, rdE v0 l] H0 := St.argFix (St.arg (St.arg (St.arg (St.start (fun _ h => h.elim)) (Bl0.nil) r0 (fun _ h => h)) (Bl0.cons (Bl0.nil)) rvc (fun _ h => h)) (Bl0.cons (Bl0.cons (Bl0.nil))) rva (fun _ h => h)) (Bl0.cons (Bl0.cons (Bl0.cons (Bl0.nil)))) hb (fun h => h)
 refine callsH_of_wpF (args := [Vg #[va, I (x.ENum), I (x.EDen), vc, I (x.ERest)], PT gx 0]) (rs := [.tmp 3]) Try.func46 rfl Try.ntmps46 Try.results46 (by kernel_rfl) (Nat.le_of_ble_eq_true rfl) ?_
 have y0 : argF [Vg #[va, I (x.ENum), I (x.EDen), vc, I (x.ERest)], PT gx 0] 0 = Vg #[va, I (x.ENum), I (x.EDen), vc, I (x.ERest)] := rfl
 have y1 : argF [Vg #[va, I (x.ENum), I (x.EDen), vc, I (x.ERest)], PT gx 0] 1 = PT gx 0 := rfl
 generalize argF [Vg #[va, I (x.ENum), I (x.EDen), vc, I (x.ERest)], PT gx 0] = f0 at *
 refine fcr (fun f H => ∃ (g1 : Nat), f 1 = PT gx 0 ∧ f 2 = PT g1 0 ∧ St H0 NoB NoB [bE g1 #[va, I (x.ENum), I (x.EDen), vc, I (x.ERest)] 74, fixE gx (.cells #[v0, c1, c2, c3, c4] 74), rdE va x.Args, rdE vc x.ECells, rdE v0 l] H) ?_ ?_
 ·refine lo rfl ?_
  refine e_box (v := Vg #[va, I (x.ENum), I (x.EDen), vc, I (x.ERest)]) rfl y0 hS0 (fun g1 H2 hS3 hxx => ?_)
  refine la (v := B (false)) rfl rfl rfl ?_
  exact ⟨g1, y1, rfl, hS3⟩
 clear y0 y1
 rintro f4 H4 ⟨g1, y1, y2, hS4⟩
 refine fcr (fun f H => f 3 = B (decide (x.Args = l)) ∧ St H0 NoB NoB [bE g1 #[va, I (x.ENum), I (x.EDen), vc, I (x.ERest)] 74, fixE gx (.cells #[v0, c1, c2, c3, c4] 74), rdE va x.Args, rdE vc x.ECells, rdE v0 l] H) ?_ ?_
 ·refine lq rfl (q_fieldAddr rfl Try.underlying74 rfl Try.sizeOf24 y2) ?_
  refine lq rfl (q_loadBlk rfl rfl Try.isAgg24 (hS4.blk 0 rfl) rfl (fun h => h)) ?_
  refine lq rfl (q_fieldAddr rfl Try.underlying74 rfl Try.sizeOf24 y1) ?_
  refine lq rfl (q_loadBlk rfl rfl Try.isAgg24 (hS4.fixd 1 rfl) rfl (fun h => h)) ?_
  refine lo rfl ?_
  refine e_call rfl Try.call47 (arr2 (v0 := va) (v1 := v0) rfl rfl) (Equal va v0 _ _ (hS4.rdN 2 rfl) (hS4.rdN 4 rfl)) ?_
  rintro _ H5 ⟨hxx, rfl⟩
  have hS6 := hS4.ext hxx
  refine la (v := B (decide (x.Args = l))) rfl rfl rfl ?_
  exact ⟨rfl, hS6⟩
 clear y1 y2
 rintro f8 H8 ⟨y3, hS8⟩
 refine wpF_ret ?_
 refine ⟨_, resT y3 resN, hS8.frame, ?_⟩
 show (B (decide (x.Args = l))) = B (decide (x.Args = l))
 rfl
set_option maxRecDepth 100000 in
theorem chkM_4 {H0 : Heap} (va vc : Value) (gx : Nat) (vA : Value) (e : Entry) (d : Decl) (rva : Rd NoB H0 va e.Args) (h6eENum : In64 e.ENum) (h6eEDen : In64 e.EDen) (rvc : Rd NoB H0 vc e.ECells) (h6eERest : In64 e.ERest) (hb : H0[gx]? = some (.cells #[SB d.Name, vA, I d.Srt] 43)) (rA : Rd NoB H0 vA d.Args) : CallsH Try.prog 49 #[Vg #[va, I (e.ENum), I (e.EDen), vc, I (e.ERest)], PT gx 0] H0 (fun rv_ H' => Ext NoB H0 H' ∧ rv_ = B (!isV d.Srt e.to)) := by
 have hS0 : St H0 NoB NoB [fixE gx (.cells #[SB (d.Name), vA, I (d.Srt)] 43), rdE va e.Args, rdE vc e.ECells, rdE vA d.Args] H0 := St.argFix (St.arg (St.arg (St.arg (St.start (fun _ h => h.elim)) (Bl0.nil) rA (fun _ h => h)) (Bl0.cons (Bl0.nil)) rvc (fun _ h => h)) (Bl0.cons (Bl0.cons (Bl0.nil))) rva (fun _ h => h)) (Bl0.cons (Bl0.cons (Bl0.cons (Bl0.nil)))) hb (fun h => h)
 refine callsH_of_wpF (args := [Vg #[va, I (e.ENum), I (e.EDen), vc, I (e.ERest)], PT gx 0]) (rs := [.tmp 3]) Try.func49 rfl Try.ntmps49 Try.results49 (by kernel_rfl) (Nat.le_of_ble_eq_true rfl) ?_
 have y0 : argF [Vg #[va, I (e.ENum), I (e.EDen), vc, I (e.ERest)], PT gx 0] 0 = Vg #[va, I (e.ENum), I (e.EDen), vc, I (e.ERest)] := rfl
 have y1 : argF [Vg #[va, I (e.ENum), I (e.EDen), vc, I (e.ERest)], PT gx 0] 1 = PT gx 0 := rfl
 generalize argF [Vg #[va, I (e.ENum), I (e.EDen), vc, I (e.ERest)], PT gx 0] = f0 at *
 refine fcr (fun f H => ∃ (g1 : Nat), f 1 = PT gx 0 ∧ f 2 = PT g1 0 ∧ St H0 NoB NoB [bE g1 #[va, I (e.ENum), I (e.EDen), vc, I (e.ERest)] 74, fixE gx (.cells #[SB (d.Name), vA, I (d.Srt)] 43), rdE va e.Args, rdE vc e.ECells, rdE vA d.Args] H) ?_ ?_
 ·refine lo rfl ?_
  refine e_box (v := Vg #[va, I (e.ENum), I (e.EDen), vc, I (e.ERest)]) rfl y0 hS0 (fun g1 H2 hS3 hxx => ?_)
  refine la (v := B (false)) rfl rfl rfl ?_
  exact ⟨g1, y1, rfl, hS3⟩
 clear y0 y1
 rintro f4 H4 ⟨g1, y1, y2, hS4⟩
 refine fcr (fun f H => f 3 = B (!(isV d.Srt e.to)) ∧ St H0 NoB NoB [bE g1 #[va, I (e.ENum), I (e.EDen), vc, I (e.ERest)] 74, fixE gx (.cells #[SB (d.Name), vA, I (d.Srt)] 43), rdE va e.Args, rdE vc e.ECells, rdE vA d.Args] H) ?_ ?_
 ·refine lq rfl (q_fieldAddr rfl Try.underlying43 rfl Try.sizeOf3 y1) ?_
  refine lq rfl (q_loadBlk rfl rfl Try.isAgg3 (hS4.fixd 1 rfl) rfl (fun h => h)) ?_
  refine lq rfl (q_fieldAddr rfl Try.underlying74 rfl Try.sizeOf69 y2) ?_
  refine lq rfl (q_loadBlkP (ds := [I (e.ENum), I (e.EDen), vc, I (e.ERest)]) rfl rfl Try.isAgg69 Try.sizeOf69 rfl rfl (hS4.blk 0 rfl) (fun h => h)) ?_
  refine lo rfl ?_
  refine e_call rfl Try.call48 (arr2 (v0 := I (d.Srt)) (v1 := Vg #[I (e.ENum), I (e.EDen), vc, I (e.ERest)]) rfl rfl) (Is_M vc d.Srt e.to (by first | assumption | (constructor <;> omega)) (by first | assumption | (constructor <;> omega)) (hS4.rdN 3 rfl) (by first | assumption | (constructor <;> omega)) ) ?_
  rintro _ H5 ⟨hxx, rfl⟩
  have hS6 := hS4.ext hxx
  refine lq rfl (q_not rfl rfl) ?_
  refine la (v := B (!(isV d.Srt e.to))) rfl rfl rfl ?_
  exact ⟨rfl, hS6⟩
 clear y1 y2
 rintro f8 H8 ⟨y3, hS8⟩
 refine wpF_ret ?_
 refine ⟨_, resT y3 resN, hS8.frame, ?_⟩
 show (B (!(isV d.Srt e.to))) = B (!isV d.Srt e.to)
 rfl
set_option maxHeartbeats 1000000 in
set_option maxRecDepth 100000 in
theorem checkMeaning_M {H0 : Heap} (vA vr vc : Value) (d : Decl) (m : Meaning) (h6dName : d.Name.size ≤ maxLen) (rvA : Rd NoB H0 vA d.Args) (h6dSrt : In64 d.Srt) (rvr : Rd NoB H0 vr m.Rows) (h6mMNum : In64 m.MNum) (h6mMDen : In64 m.MDen) (rvc : Rd NoB H0 vc m.MCells) (h6mMRest : In64 m.MRest) : CallsH Try.prog 26 #[Vg #[SB (d.Name), vA, I (d.Srt)], Vg #[vr, I (m.MNum), I (m.MDen), vc, I (m.MRest)]] H0 (fun rv_ H' => Ext NoB H0 H' ∧ rv_ = I (codeM d m)) := by
 have hsr : m.Rows.length * 72 ≤ 140737488355328 := (Rd.list.1 rvr).bound
 have hS0 : St H0 NoB NoB [rdE vA d.Args, rdE vr m.Rows, rdE vc m.MCells] H0 := St.arg (St.arg (St.arg (St.start (fun _ h => h.elim)) (Bl0.nil) rvc (fun _ h => h)) (Bl0.cons (Bl0.nil)) rvr (fun _ h => h)) (Bl0.cons (Bl0.cons (Bl0.nil))) rvA (fun _ h => h)
 refine callsH_of_wpF (args := [Vg #[SB (d.Name), vA, I (d.Srt)], Vg #[vr, I (m.MNum), I (m.MDen), vc, I (m.MRest)]]) (rs := [.tmp 4]) Try.func26 rfl Try.ntmps26 Try.results26 (by kernel_rfl) (Nat.le_of_ble_eq_true rfl) ?_
 have y0 : argF [Vg #[SB (d.Name), vA, I (d.Srt)], Vg #[vr, I (m.MNum), I (m.MDen), vc, I (m.MRest)]] 0 = Vg #[SB (d.Name), vA, I (d.Srt)] := rfl
 have y1 : argF [Vg #[SB (d.Name), vA, I (d.Srt)], Vg #[vr, I (m.MNum), I (m.MDen), vc, I (m.MRest)]] 1 = Vg #[vr, I (m.MNum), I (m.MDen), vc, I (m.MRest)] := rfl
 generalize argF [Vg #[SB (d.Name), vA, I (d.Srt)], Vg #[vr, I (m.MNum), I (m.MDen), vc, I (m.MRest)]] = f0 at *
 refine fcr (fun f H => ∃ (g1 : Nat), ∃ (g4 : Nat), f 2 = PT g1 0 ∧ f 3 = PT g4 0 ∧ St H0 NoB NoB [bE g4 #[vr, I (m.MNum), I (m.MDen), vc, I (m.MRest)] 71, bE g1 #[SB (d.Name), vA, I (d.Srt)] 43, rdE vA d.Args, rdE vr m.Rows, rdE vc m.MCells] H) ?_ ?_
 ·refine lo rfl ?_
  refine e_box (v := Vg #[SB (d.Name), vA, I (d.Srt)]) rfl y0 hS0 (fun g1 H2 hS3 hxx => ?_)
  refine lo rfl ?_
  refine e_box (v := Vg #[vr, I (m.MNum), I (m.MDen), vc, I (m.MRest)]) rfl y1 hS3 (fun g4 H5 hS6 hxx => ?_)
  refine la (v := I (0)) rfl rfl rfl ?_
  exact ⟨g1, g4, rfl, rfl, hS6⟩
 clear y0 y1
 rintro f7 H7 ⟨g1, g4, y2, y3, hS7⟩
 refine wpF_seq ?_
 refine fcr (fun f H => f 2 = PT g1 0 ∧ f 3 = PT g4 0 ∧ f 16 = B (decide ((1000 < (m.Rows.length : Int)) ∨ ((m.Rows.any (fun e => decide ((e.Args.length : Int) ≠ (d.Args.length : Int)))) = true))) ∧ St H0 NoB NoB [bE g4 #[vr, I (m.MNum), I (m.MDen), vc, I (m.MRest)] 71, bE g1 #[SB (d.Name), vA, I (d.Srt)] 43, rdE vA d.Args, rdE vr m.Rows, rdE vc m.MCells] H) ?_ ?_
 ·refine lq rfl (q_fieldAddr rfl Try.underlying71 rfl Try.sizeOf64 y3) ?_
  refine lq rfl (q_loadBlk rfl rfl Try.isAgg64 (hS7.blk 0 rfl) rfl (fun h => h)) ?_
  refine lq rfl (q_lenRd rfl Try.underlying64 rfl (hS7.rdl 3 rfl)) ?_
  refine lq rfl (q_gtr rfl rfl rfl) ?_
  refine lm (v := B (decide (1000 < (m.Rows.length : Int)))) rfl rfl rfl ?_
  by_cases hg8 : 1000 < (m.Rows.length : Int)
  ·have hb9 := Eq.trans rfl (congrArg B (decide_eq_true hg8))
   refine wpL_gs rfl rfl rfl hb9 rfl ?_
   refine wpL_gs rfl rfl rfl hb9 rfl ?_
   refine wpL_gs rfl rfl rfl hb9 rfl ?_
   refine wpL_gs rfl rfl rfl hb9 rfl ?_
   refine lq rfl (q_pickT (v := B (true)) rfl hb9 rfl) ?_
   exact ⟨y2, y3, (Eq.trans rfl (congrArg B ((decide_eq_true (Or.inl hg8)).symm))), hS7⟩
  ·have hb10 := Eq.trans rfl (congrArg B (decide_eq_false hg8))
   refine gq rfl rfl rfl hb10 (q_fieldAddr rfl Try.underlying71 rfl Try.sizeOf64 y3) ?_
   refine gq rfl rfl rfl hb10 (q_loadBlk rfl rfl Try.isAgg64 (hS7.blk 0 rfl) rfl (fun h => h)) ?_
   refine gq rfl rfl rfl hb10 (q_makeFunc (fi' := #[]) rfl (by simp) (arr1 (v0 := PT g1 0) y2)) ?_
   refine wpL_go rfl rfl rfl hb10 ?_
   refine e_call rfl Try.call41 (arr2 (v0 := vr) (v1 := Value.func (.func 42) #[] #[PT g1 0]) rfl rfl) (ContainsFuncE vr (Value.func (.func 42) #[] #[PT g1 0]) m.Rows (fun e => decide ((e.Args.length : Int) ≠ (d.Args.length : Int))) (hS7.rdN 3 rfl) (fun u x hx H hE hr => by obtain ⟨_, _, rfl, he1, he2, he3, he4, he5⟩ := Rd.entry.1 hr; exact ⟨_, _, rfl, Try.call42, chkM_1 _ _ g1 vA x d he1 he2 he3 he4 he5 (hE.blk (hS7.blk 1 rfl)) ((hS7.rdN 2 rfl).extN hE)⟩)) ?_
   rintro _ H11 ⟨hxx, rfl⟩
   have hS12 := hS7.ext hxx
   refine lq rfl (q_pickF (v := B (m.Rows.any (fun e => decide ((e.Args.length : Int) ≠ (d.Args.length : Int))))) rfl hb10 rfl) ?_
   exact ⟨y2, y3, (Eq.trans rfl (congrArg B (bool_congr_of ((Iff.rfl).trans (((or_iff_right hg8).trans Iff.rfl)).symm)))), hS12⟩
 clear y2 y3
 rintro f14 H14 ⟨y2, y3, y16, hS14⟩
 refine wpF_condP y16 (fun h16 => ?t61) (fun h16 => ?e61)
 case t61 =>
  refine fcr (fun f H => f 4 = I (9) ∧ H14 = H) ?_ ?_
  ·refine la (v := I (9)) rfl rfl rfl ?_
   exact ⟨rfl, rfl⟩
  clear y16 y2 y3
  rintro f16 _ ⟨y4, rfl⟩
  refine wpF_ret ?_
  refine ⟨_, resT y4 resN, hS14.frame, ?_⟩
  show (I (9)) = I (codeM d m)
  exact congrArg I (codeM_size h16).symm
 refine wpF_skip ?_
 refine wpF_seq ?_
 refine fcr (fun f H => f 2 = PT g1 0 ∧ f 3 = PT g4 0 ∧ f 19 = B (m.Rows.any (fun e => e.Args.any fun n => decide (¬ thingS n))) ∧ St H0 NoB NoB [bE g4 #[vr, I (m.MNum), I (m.MDen), vc, I (m.MRest)] 71, bE g1 #[SB (d.Name), vA, I (d.Srt)] 43, rdE vA d.Args, rdE vr m.Rows, rdE vc m.MCells] H) ?_ ?_
 ·refine lq rfl (q_fieldAddr rfl Try.underlying71 rfl Try.sizeOf64 y3) ?_
  refine lq rfl (q_loadBlk rfl rfl Try.isAgg64 (hS14.blk 0 rfl) rfl (fun h => h)) ?_
  refine lo rfl ?_
  refine e_call rfl Try.call41 (arr2 (v0 := vr) (v1 := Value.func (.func 43) #[] #[]) rfl rfl) (ContainsFuncE vr (Value.func (.func 43) #[] #[]) m.Rows (fun e => e.Args.any fun n => decide (¬ thingS n)) (hS14.rdN 3 rfl) (fun u x hx H hE hr => by obtain ⟨_, _, rfl, he1, he2, he3, he4, he5⟩ := Rd.entry.1 hr; exact ⟨_, _, rfl, Try.call43, chkM_2 _ _ x he1 he2 he3 he4 he5⟩)) ?_
  rintro _ H17 ⟨hxx, rfl⟩
  have hS18 := hS14.ext hxx
  exact ⟨y2, y3, rfl, hS18⟩
 clear y16 y2 y3
 rintro f20 H20 ⟨y2, y3, y19, hS20⟩
 refine wpF_cond y19 (fun h19 => ?t60) (fun h19 => ?e60)
 case t60 =>
  refine fcr (fun f H => f 4 = I (3) ∧ H20 = H) ?_ ?_
  ·refine la (v := I (3)) rfl rfl rfl ?_
   exact ⟨rfl, rfl⟩
  clear y19 y2 y3
  rintro f22 _ ⟨y4, rfl⟩
  refine wpF_ret ?_
  refine ⟨_, resT y4 resN, hS20.frame, ?_⟩
  show (I (3)) = I (codeM d m)
  exact congrArg I (codeM_range h16 h19).symm
 refine wpF_skip ?_
 refine wpF_seq ?_
 refine fcr (fun f H => f 2 = PT g1 0 ∧ f 3 = PT g4 0 ∧ f 21 = vr ∧ f 22 = I ((m.Rows.length : Int)) ∧ f 23 = I (0) ∧ H20 = H) ?_ ?_
 ·refine lq rfl (q_fieldAddr rfl Try.underlying71 rfl Try.sizeOf64 y3) ?_
  refine lq rfl (q_loadBlk rfl rfl Try.isAgg64 (hS20.blk 0 rfl) rfl (fun h => h)) ?_
  refine lq rfl (q_lenRd rfl Try.underlying64 rfl (hS20.rdl 3 rfl)) ?_
  refine lm (v := I (0)) rfl rfl rfl ?_
  exact ⟨y2, y3, rfl, rfl, rfl, rfl⟩
 clear y19 y2 y3
 rintro f23 _ ⟨y2, y3, y21, y22, y23, rfl⟩
 refine wpF_block ?_
 refine wpF_loop (fun mz f H => ∃ (k : Nat), mz = m.Rows.length - k ∧ (k ≤ m.Rows.length) ∧ (∀ i, i < k → ((m.Rows.take i).any fun x => decide (x.Args = (nth m.Rows i).Args)) = false) ∧ f 2 = PT g1 0 ∧ f 3 = PT g4 0 ∧ f 21 = vr ∧ f 22 = I ((m.Rows.length : Int)) ∧ f 23 = I ((k : Int)) ∧ St H0 NoB NoB [bE g4 #[vr, I (m.MNum), I (m.MDen), vc, I (m.MRest)] 71, bE g1 #[SB (d.Name), vA, I (d.Srt)] 43, rdE vA d.Args, rdE vr m.Rows, rdE vc m.MCells] H) (m.Rows.length - 0) ?_ ?_
 ·exact ⟨0, rfl, Nat.zero_le _, (fun j hj => absurd hj (Nat.not_lt_zero j)), y2, y3, y21, y22, (Eq.trans y23 (congrArg I (by omega))), hS20⟩
 intro m24 f24 H24 hI24
 clear y2 y21 y22 y23 y3
 obtain ⟨k, hm24, hk, hp, y2, y3, y21, y22, y23, hS24⟩ := hI24
 refine fcr (fun f H => f 2 = PT g1 0 ∧ f 3 = PT g4 0 ∧ f 21 = vr ∧ f 22 = I ((m.Rows.length : Int)) ∧ f 23 = I ((k : Int)) ∧ f 24 = B (decide ((k : Int) < (m.Rows.length : Int))) ∧ H24 = H) ?_ ?_
 ·refine lq rfl (q_lss rfl y23 y22) ?_
  exact ⟨y2, y3, y21, y22, y23, rfl, rfl⟩
 clear y2 y21 y22 y23 y3
 rintro f25 _ ⟨y2, y3, y21, y22, y23, y24, rfl⟩
 refine wpF_seq ?_
 refine wpF_condP y24 (fun hlt => ?t59) (fun hlt => ?e59)
 case e59 =>
  refine wpF_exit ?_
  refine atX_here ?_
  refine wpF_seq ?_
  refine fcr (fun f H => f 46 = B (decide (((!(isV d.Srt m.rest)) = true) ∨ ((m.Rows.any (fun e => !isV d.Srt e.to)) = true))) ∧ St H0 NoB NoB [bE g4 #[vr, I (m.MNum), I (m.MDen), vc, I (m.MRest)] 71, bE g1 #[SB (d.Name), vA, I (d.Srt)] 43, rdE vA d.Args, rdE vr m.Rows, rdE vc m.MCells] H) ?_ ?_
  ·refine lq rfl (q_fieldAddr rfl Try.underlying43 rfl Try.sizeOf3 y2) ?_
   refine lq rfl (q_loadBlk rfl rfl Try.isAgg3 (hS24.blk 1 rfl) rfl (fun h => h)) ?_
   refine lq rfl (q_fieldAddr rfl Try.underlying71 rfl Try.sizeOf69 y3) ?_
   refine lq rfl (q_loadBlkP (ds := [I (m.MNum), I (m.MDen), vc, I (m.MRest)]) rfl rfl Try.isAgg69 Try.sizeOf69 rfl rfl (hS24.blk 0 rfl) (fun h => h)) ?_
   refine lo rfl ?_
   refine e_call rfl Try.call48 (arr2 (v0 := I (d.Srt)) (v1 := Vg #[I (m.MNum), I (m.MDen), vc, I (m.MRest)]) rfl rfl) (Is_M vc d.Srt m.rest (by first | assumption | (constructor <;> omega)) (by first | assumption | (constructor <;> omega)) (hS24.rdN 4 rfl) (by first | assumption | (constructor <;> omega)) ) ?_
   rintro _ H45 ⟨hxx, rfl⟩
   have hS46 := hS24.ext hxx
   refine lq rfl (q_not rfl rfl) ?_
   refine lm (v := B (!(isV d.Srt m.rest))) rfl rfl rfl ?_
   by_cases hg48 : (!(isV d.Srt m.rest)) = true
   ·have hb49 := Eq.trans rfl (congrArg B hg48)
    refine wpL_gs rfl rfl rfl hb49 rfl ?_
    refine wpL_gs rfl rfl rfl hb49 rfl ?_
    refine wpL_gs rfl rfl rfl hb49 rfl ?_
    refine wpL_gs rfl rfl rfl hb49 rfl ?_
    refine lq rfl (q_pickT (v := B (true)) rfl hb49 rfl) ?_
    exact ⟨(Eq.trans rfl (congrArg B ((decide_eq_true (Or.inl hg48)).symm))), hS46⟩
   ·have hb50 := Eq.trans rfl (congrArg B (Bool.eq_false_iff.2 hg48))
    refine gq rfl rfl rfl hb50 (q_fieldAddr rfl Try.underlying71 rfl Try.sizeOf64 y3) ?_
    refine gq rfl rfl rfl hb50 (q_loadBlk rfl rfl Try.isAgg64 (hS46.blk 0 rfl) rfl (fun h => h)) ?_
    refine gq rfl rfl rfl hb50 (q_makeFunc (fi' := #[]) rfl (by simp) (arr1 (v0 := PT g1 0) y2)) ?_
    refine wpL_go rfl rfl rfl hb50 ?_
    refine e_call rfl Try.call41 (arr2 (v0 := vr) (v1 := Value.func (.func 49) #[] #[PT g1 0]) rfl rfl) (ContainsFuncE vr (Value.func (.func 49) #[] #[PT g1 0]) m.Rows (fun e => !isV d.Srt e.to) (hS46.rdN 3 rfl) (fun u x hx H hE hr => by obtain ⟨_, _, rfl, he1, he2, he3, he4, he5⟩ := Rd.entry.1 hr; exact ⟨_, _, rfl, Try.call49, chkM_4 _ _ g1 vA x d he1 he2 he3 he4 he5 (hE.blk (hS46.blk 1 rfl)) ((hS46.rdN 2 rfl).extN hE)⟩)) ?_
    rintro _ H51 ⟨hxx, rfl⟩
    have hS52 := hS46.ext hxx
    refine lq rfl (q_pickF (v := B (m.Rows.any (fun e => !isV d.Srt e.to))) rfl hb50 rfl) ?_
    exact ⟨(Eq.trans rfl (congrArg B (bool_congr_of ((Iff.rfl).trans (((or_iff_right hg48).trans Iff.rfl)).symm)))), hS52⟩
  clear y2 y21 y22 y23 y24 y3
  rintro f54 H54 ⟨y46, hS54⟩
  refine wpF_condP y46 (fun h46 => ?t58) (fun h46 => ?e58)
  case t58 =>
   refine fcr (fun f H => f 4 = I (8) ∧ H54 = H) ?_ ?_
   ·refine la (v := I (8)) rfl rfl rfl ?_
    exact ⟨rfl, rfl⟩
   clear y46
   rintro f56 _ ⟨y4, rfl⟩
   refine wpF_ret ?_
   refine ⟨_, resT y4 resN, hS54.frame, ?_⟩
   show (I (8)) = I (codeM d m)
   exact congrArg I (codeM_sort h16 h19 (fun i hi => hp i (by omega)) (by simpa using h46)).symm
  refine wpF_skip ?_
  refine fcr (fun f H => f 4 = I (0) ∧ H54 = H) ?_ ?_
  ·refine la (v := I (0)) rfl rfl rfl ?_
   exact ⟨rfl, rfl⟩
  clear y46
  rintro f57 _ ⟨y4, rfl⟩
  refine wpF_ret ?_
  refine ⟨_, resT y4 resN, hS54.frame, ?_⟩
  show (I (0)) = I (codeM d m)
  exact congrArg I (codeM_ok h16 h19 (fun i hi => hp i (by omega)) (by simpa using h46)).symm
 refine wpF_skip ?_
 refine wpF_seq ?_
 refine wpF_block ?_
 refine fcr (fun f H => ∃ (u27n0 : Value), ∃ (u27n3 : Value), ∃ (g30 : Nat), (In64 (nth m.Rows k).ENum) ∧ (In64 (nth m.Rows k).EDen) ∧ (In64 (nth m.Rows k).ERest) ∧ f 2 = PT g1 0 ∧ f 3 = PT g4 0 ∧ f 5 = I ((k : Int)) ∧ f 6 = PT g30 0 ∧ f 21 = vr ∧ f 22 = I ((m.Rows.length : Int)) ∧ f 23 = I ((k : Int)) ∧ St H0 NoB NoB [bE g30 #[u27n0, I ((nth m.Rows k).ENum), I ((nth m.Rows k).EDen), u27n3, I ((nth m.Rows k).ERest)] 74, rdE u27n3 ((nth m.Rows k).ECells), rdE u27n0 ((nth m.Rows k).Args), bE g4 #[vr, I (m.MNum), I (m.MDen), vc, I (m.MRest)] 71, bE g1 #[SB (d.Name), vA, I (d.Srt)] 43, rdE vA d.Args, rdE vr m.Rows, rdE vc m.MCells] H) ?_ ?_
 ·refine lm (v := I ((k : Int))) rfl rfl y23 ?_
  refine lq rfl (q_indexRd (k := k) rfl Try.underlying64 el_Entry_74_MeanC2 y21 y23 (hS24.rdl 3 rfl) (by omega) (by omega)) ?_
  obtain ⟨u27, huu27, hlu27⟩ := (Rd.list.1 (hS24.rdS 3 rfl)).elem k (by omega)
  obtain ⟨u27n0, u27n3, rfl, hu270, hu271, hu272, hu273, hu274⟩ := Rd.entry.1 huu27
  have hS28 := hS24.rd hu270
  have hS29 : St H0 NoB NoB [rdE u27n3 ((nth m.Rows k).ECells), rdE u27n0 ((nth m.Rows k).Args), bE g4 #[vr, I (m.MNum), I (m.MDen), vc, I (m.MRest)] 71, bE g1 #[SB (d.Name), vA, I (d.Srt)] 43, rdE vA d.Args, rdE vr m.Rows, rdE vc m.MCells] H24 := hS28.rd (hu273.sub fun _ hb => SL_rd hb)
  refine lq rfl (q_loadE rfl rfl (hlu27 Try.prog 74 _ el_Entry_74_MeanC2 (fun _ h => False.elim h))) ?_
  refine lo rfl ?_
  refine e_alloc rfl Try.zeroValue74 hS29 (fun g30 H31 hS32 hxx => ?_)
  refine la (v := I ((k : Int))) rfl rfl rfl ?_
  refine lo rfl ?_
  refine e_storeBlkA (cs' := #[u27n0, I ((nth m.Rows k).ENum), I ((nth m.Rows k).EDen), u27n3, I ((nth m.Rows k).ERest)]) rfl rfl rfl Try.sizeOf74 rfl rfl (fa ((oneCell_rdL (hS32.rdl 2 rfl))) (fa rfl (fa rfl (fa ((oneCell_rdL (hS32.rdl 1 rfl))) (fa rfl fe))))) hS32 (fun H33 hS34 hxx => ?_)
  exact ⟨u27n0, u27n3, g30, hu271, hu272, hu274, y2, y3, rfl, rfl, y21, y22, y23, hS34⟩
 clear y2 y21 y22 y23 y24 y3
 rintro f35 H35 ⟨u27n0, u27n3, g30, hu271, hu272, hu274, y2, y3, y5, y6, y21, y22, y23, hS35⟩
 refine fcr (fun f H => f 2 = PT g1 0 ∧ f 3 = PT g4 0 ∧ f 21 = vr ∧ f 22 = I ((m.Rows.length : Int)) ∧ f 23 = I ((k : Int)) ∧ f 33 = B ((m.Rows.take k).any (fun x => decide (x.Args = ((nth m.Rows k).Args)))) ∧ St H0 NoB NoB [bE g30 #[u27n0, I ((nth m.Rows k).ENum), I ((nth m.Rows k).EDen), u27n3, I ((nth m.Rows k).ERest)] 74, rdE u27n3 ((nth m.Rows k).ECells), rdE u27n0 ((nth m.Rows k).Args), bE g4 #[vr, I (m.MNum), I (m.MDen), vc, I (m.MRest)] 71, bE g1 #[SB (d.Name), vA, I (d.Srt)] 43, rdE vA d.Args, rdE vr m.Rows, rdE vc m.MCells] H) ?_ ?_
 ·refine lq rfl (q_fieldAddr rfl Try.underlying71 rfl Try.sizeOf64 y3) ?_
  refine lq rfl (q_loadBlk rfl rfl Try.isAgg64 (hS35.blk 3 rfl) rfl (fun h => h)) ?_
  refine lm (v := I ((k : Int))) rfl rfl y5 ?_
  have hS36 : St H0 NoB NoB [rdE (sliceV 5 vr 0 k) (m.Rows.take k : List Entry), bE g30 #[u27n0, I ((nth m.Rows k).ENum), I ((nth m.Rows k).EDen), u27n3, I ((nth m.Rows k).ERest)] 74, rdE u27n3 ((nth m.Rows k).ECells), rdE u27n0 ((nth m.Rows k).Args), bE g4 #[vr, I (m.MNum), I (m.MDen), vc, I (m.MRest)] 71, bE g1 #[SB (d.Name), vA, I (d.Srt)] 43, rdE vA d.Args, rdE vr m.Rows, rdE vc m.MCells] H35 := hS35.rd (Rd.list.2 (sliceV_hi (m := k) (Rd.list.1 (hS35.rdS 6 rfl)) (by omega)))
  refine lq rfl (q_sliceRd (k := 0) (m := k) rfl Try.underlying64 el_Entry_74_MeanC2 rfl (hS35.rdl 6 rfl) lo0 (lo1 rfl (by omega)) (by omega) (by omega)) ?_
  refine lq rfl (q_makeFunc (fi' := #[]) rfl (by simp) (arr1 (v0 := PT g30 0) y6)) ?_
  refine lo rfl ?_
  refine e_call rfl Try.call41 (arr2 (v0 := (sliceV 5 vr 0 k)) (v1 := Value.func (.func 46) #[] #[PT g30 0]) rfl rfl) (ContainsFuncE ((sliceV 5 vr 0 k)) (Value.func (.func 46) #[] #[PT g30 0]) (m.Rows.take k) (fun x => decide (x.Args = ((nth m.Rows k).Args))) (hS36.rdN 0 rfl) (fun u x hx H hE hr => by obtain ⟨_, _, rfl, he1, he2, he3, he4, he5⟩ := Rd.entry.1 hr; exact ⟨_, _, rfl, Try.call46, chkM_3 _ _ g30 u27n0 (I ((nth m.Rows k).ENum)) (I ((nth m.Rows k).EDen)) u27n3 (I ((nth m.Rows k).ERest)) x ((nth m.Rows k).Args) he1 he2 he3 he4 he5 (hE.blk (hS36.blk 1 rfl)) ((hS36.rdN 3 rfl).extN hE)⟩)) ?_
  rintro _ H37 ⟨hxx, rfl⟩
  have hS38 := hS36.ext hxx
  exact ⟨y2, y3, y21, y22, y23, rfl, (hS38.drop (sn (sk (sk (sk (sk (sk (sk (sk (sk (List.Sublist.slnil)))))))))))⟩
 clear y2 y21 y22 y23 y3 y5 y6
 rintro f40 H40 ⟨y2, y3, y21, y22, y23, y33, hS40⟩
 refine wpF_cond y33 (fun h33 => ?t44) (fun h33 => ?e44)
 case e44 =>
  refine wpF_skip ?_
  refine wpF_cut (fun f H => f 2 = PT g1 0 ∧ f 3 = PT g4 0 ∧ f 21 = vr ∧ f 22 = I ((m.Rows.length : Int)) ∧ f 23 = I ((k : Int) + 1) ∧ H40 = H) ?_ ?_
  ·refine wpF_region ?_
   refine lq rfl (q_add rfl y23 rfl (by constructor <;> omega)) ?_
   refine lm (v := I ((k : Int) + 1)) rfl rfl rfl ?_
   exact ⟨y2, y3, y21, y22, rfl, rfl⟩
  clear y2 y21 y22 y23 y3 y33
  rintro f43 _ ⟨y2, y3, y21, y22, y23, rfl⟩
  refine ⟨_, ?_, k + 1, rfl, (by omega), (all_succ hp h33), y2, y3, y21, y22, (Eq.trans y23 (congrArg I (by omega))), (hS40.drop (sn (sn (sn (sk (sk (sk (sk (sk (List.Sublist.slnil))))))))))⟩
  omega
 refine fcr (fun f H => f 4 = I (7) ∧ H40 = H) ?_ ?_
 ·refine la (v := I (7)) rfl rfl rfl ?_
  exact ⟨rfl, rfl⟩
 clear y2 y21 y22 y23 y3 y33
 rintro f42 _ ⟨y4, rfl⟩
 refine wpF_ret ?_
 refine ⟨_, resT y4 resN, hS40.frame, ?_⟩
 show (I (7)) = I (codeM d m)
 exact congrArg I (codeM_twice h16 h19 (by omega) h33).symm
set_option maxRecDepth 100000 in
theorem Check_A {H0 : Heap} (vD vN vH : Value) (a : Ask) (rvD : Rd NoB H0 vD a.Decls) (rvN : Rd NoB H0 vN a.Nodes) (rvH : Rd NoB H0 vH a.Hold) : CallsH Try.prog 25 #[Vg #[vD, vN, vH]] H0 (fun rv_ H' => Ext NoB H0 H' ∧ rv_ = Vg #[I ((sortsF a)).1, I ((sortsF a)).2]) := by
 have hS0 : St H0 NoB NoB [rdE vD a.Decls, rdE vN a.Nodes, rdE vH a.Hold] H0 := St.arg (St.arg (St.arg (St.start (fun _ h => h.elim)) (Bl0.nil) rvH (fun _ h => h)) (Bl0.cons (Bl0.nil)) rvN (fun _ h => h)) (Bl0.cons (Bl0.cons (Bl0.nil))) rvD (fun _ h => h)
 refine callsH_of_wpF (args := [Vg #[vD, vN, vH]]) (rs := [.cell 2 28]) Try.func25 rfl Try.ntmps25 Try.results25 (by kernel_rfl) (Nat.le_of_ble_eq_true rfl) ?_
 have y0 : argF [Vg #[vD, vN, vH]] 0 = Vg #[vD, vN, vH] := rfl
 generalize argF [Vg #[vD, vN, vH]] = f0 at *
 refine fcr (fun f H => ∃ (g1 : Nat), ∃ (g4 : Nat), f 1 = PT g1 0 ∧ f 2 = PT g4 0 ∧ St H0 NoB NoB [bE g4 #[I (0), I (0)] 28, bE g1 #[vD, vN, vH] 26, rdE vD a.Decls, rdE vN a.Nodes, rdE vH a.Hold] H) ?_ ?_
 ·refine lo rfl ?_
  refine e_box (v := Vg #[vD, vN, vH]) rfl y0 hS0 (fun g1 H2 hS3 hxx => ?_)
  refine lo rfl ?_
  refine e_alloc rfl Try.zeroValue28 hS3 (fun g4 H5 hS6 hxx => ?_)
  exact ⟨g1, g4, rfl, rfl, hS6⟩
 clear y0
 rintro f7 H7 ⟨g1, g4, y1, y2, hS7⟩
 refine fcr (fun f H => ∃ (g12 : Nat), f 2 = PT g4 0 ∧ f 4 = PT g12 0 ∧ St H0 NoB NoB [bE g12 #[I (((sortsF a)).1), I (((sortsF a)).2)] 28, bE g4 #[I (0), I (0)] 28, bE g1 #[vD, vN, vH] 26, rdE vD a.Decls, rdE vN a.Nodes, rdE vH a.Hold] H) ?_ ?_
 ·refine lq rfl (q_loadBlkA rfl y1 Try.isAgg26 Try.sizeOf26 rfl (hS7.blk 1 rfl) (fun h => h)) ?_
  refine lo rfl ?_
  refine e_call rfl Try.call7 (arr1 (v0 := Vg #[vD, vN, vH]) rfl) (Sorts_L vD vN vH a (hS7.rdS 2 rfl) (hS7.rdS 3 rfl) (hS7.rdS 4 rfl) ) ?_
  rintro _ H9 ⟨hxx, r8, rfl, hrr8⟩
  have hS10 := hS7.res hxx hrr8
  refine lm (v := Value.tuple #[r8, Vg #[I (((sortsF a)).1), I (((sortsF a)).2)]]) rfl rfl rfl ?_
  refine lq rfl (q_extract (vs := #[r8, Vg #[I (((sortsF a)).1), I (((sortsF a)).2)]]) (v := r8) rfl rfl rfl) ?_
  refine lq rfl (q_extract (vs := #[r8, Vg #[I (((sortsF a)).1), I (((sortsF a)).2)]]) (v := Vg #[I (((sortsF a)).1), I (((sortsF a)).2)]) rfl rfl rfl) ?_
  refine lo rfl ?_
  refine e_alloc rfl Try.zeroValue28 hS10 (fun g12 H13 hS14 hxx => ?_)
  refine la (v := r8) rfl rfl rfl ?_
  refine lo rfl ?_
  refine e_storeBlkA (cs' := #[I (((sortsF a)).1), I (((sortsF a)).2)]) rfl rfl rfl Try.sizeOf28 rfl rfl (fa rfl (fa rfl fe)) hS14 (fun H15 hS16 hxx => ?_)
  exact ⟨g12, y2, rfl, (hS16.drop (sk (sn (sk (sk (sk (sk (sk (List.Sublist.slnil)))))))))⟩
 clear y1 y2
 rintro f17 H17 ⟨g12, y2, y4, hS17⟩
 refine fcr (fun f H => f 2 = PT g4 0 ∧ St H0 NoB NoB [bE g4 #[I (((sortsF a)).1), I (((sortsF a)).2)] 28, bE g12 #[I (((sortsF a)).1), I (((sortsF a)).2)] 28, bE g1 #[vD, vN, vH] 26, rdE vD a.Decls, rdE vN a.Nodes, rdE vH a.Hold] H) ?_ ?_
 ·refine lq rfl (q_loadBlkA rfl y4 Try.isAgg28 Try.sizeOf28 rfl (hS17.blk 0 rfl) (fun h => h)) ?_
  refine lo rfl ?_
  refine e_storeBlkA (cs' := #[I (((sortsF a)).1), I (((sortsF a)).2)]) rfl y2 rfl Try.sizeOf28 rfl rfl (fa rfl (fa rfl fe)) (hS17.front 1 rfl) (fun H18 hS19 hxx => ?_)
  exact ⟨y2, hS19⟩
 clear y2 y4
 rintro f20 H20 ⟨y2, hS20⟩
 refine wpF_ret ?_
 refine ⟨_, resC y2 (loadV_blkA Try.isAgg28 Try.sizeOf28 rfl (hS20.blk 0 rfl)) (resN), hS20.frame, ?_⟩
 show (Vg #[I (((sortsF a)).1), I (((sortsF a)).2)]) = Vg #[I ((sortsF a)).1, I ((sortsF a)).2]
 rfl
set_option maxHeartbeats 1000000 in
set_option maxRecDepth 100000 in
theorem Check_M {H0 : Heap} (vD vN vH vM : Value) (a : Ask) (w : Wld) (rvD : Rd NoB H0 vD a.Decls) (rvN : Rd NoB H0 vN a.Nodes) (rvH : Rd NoB H0 vH a.Hold) (rvM : Rd NoB H0 vM w.Means) : CallsH Try.prog 15 #[Vg #[vD, vN, vH], Vg #[vM]] H0 (fun rv_ H' => Ext NoB H0 H' ∧ rv_ = Vg #[I ((meanF a w)).1, I ((meanF a w)).2]) := by
 have hsD : a.Decls.length * 48 ≤ 140737488355328 := (Rd.list.1 rvD).bound
 have hsN : a.Nodes.length * 64 ≤ 140737488355328 := (Rd.list.1 rvN).bound
 have hsM : w.Means.length * 72 ≤ 140737488355328 := (Rd.list.1 rvM).bound
 have hS0 : St H0 NoB NoB [rdE vD a.Decls, rdE vN a.Nodes, rdE vH a.Hold, rdE vM w.Means] H0 := St.arg (St.arg (St.arg (St.arg (St.start (fun _ h => h.elim)) (Bl0.nil) rvM (fun _ h => h)) (Bl0.cons (Bl0.nil)) rvH (fun _ h => h)) (Bl0.cons (Bl0.cons (Bl0.nil))) rvN (fun _ h => h)) (Bl0.cons (Bl0.cons (Bl0.cons (Bl0.nil)))) rvD (fun _ h => h)
 refine callsH_of_wpF (args := [Vg #[vD, vN, vH], Vg #[vM]]) (rs := [.cell 4 28]) Try.func15 rfl Try.ntmps15 Try.results15 (by kernel_rfl) (Nat.le_of_ble_eq_true rfl) ?_
 have y0 : argF [Vg #[vD, vN, vH], Vg #[vM]] 0 = Vg #[vD, vN, vH] := rfl
 have y1 : argF [Vg #[vD, vN, vH], Vg #[vM]] 1 = Vg #[vM] := rfl
 generalize argF [Vg #[vD, vN, vH], Vg #[vM]] = f0 at *
 refine fcr (fun f H => ∃ (g1 : Nat), ∃ (g4 : Nat), ∃ (g7 : Nat), f 2 = PT g1 0 ∧ f 3 = PT g4 0 ∧ f 4 = PT g7 0 ∧ St H0 NoB NoB [bE g7 #[I (0), I (0)] 28, bE g4 #[vM] 47, bE g1 #[vD, vN, vH] 26, rdE vD a.Decls, rdE vN a.Nodes, rdE vH a.Hold, rdE vM w.Means] H) ?_ ?_
 ·refine lo rfl ?_
  refine e_box (v := Vg #[vD, vN, vH]) rfl y0 hS0 (fun g1 H2 hS3 hxx => ?_)
  refine lo rfl ?_
  refine e_box (v := Vg #[vM]) rfl y1 hS3 (fun g4 H5 hS6 hxx => ?_)
  refine lo rfl ?_
  refine e_alloc rfl Try.zeroValue28 hS6 (fun g7 H8 hS9 hxx => ?_)
  exact ⟨g1, g4, g7, rfl, rfl, rfl, hS9⟩
 clear y0 y1
 rintro f10 H10 ⟨g1, g4, g7, y2, y3, y4, hS10⟩
 refine wpF_seq ?_
 refine fcr (fun f H => ∃ (g14 : Nat), f 2 = PT g1 0 ∧ f 3 = PT g4 0 ∧ f 4 = PT g7 0 ∧ f 5 = PT g14 0 ∧ St H0 NoB NoB [bE g14 #[I (((sortsF a)).1), I (((sortsF a)).2)] 28, bE g7 #[I (0), I (0)] 28, bE g4 #[vM] 47, bE g1 #[vD, vN, vH] 26, rdE vD a.Decls, rdE vN a.Nodes, rdE vH a.Hold, rdE vM w.Means] H) ?_ ?_
 ·refine lq rfl (q_loadBlkA rfl y2 Try.isAgg26 Try.sizeOf26 rfl (hS10.blk 2 rfl) (fun h => h)) ?_
  refine lo rfl ?_
  refine e_call rfl Try.call25 (arr1 (v0 := Vg #[vD, vN, vH]) rfl) (Check_A vD vN vH a (hS10.rdN 3 rfl) (hS10.rdN 4 rfl) (hS10.rdN 5 rfl) ) ?_
  rintro _ H11 ⟨hxx, rfl⟩
  have hS12 := hS10.ext hxx
  refine lo rfl ?_
  refine e_alloc rfl Try.zeroValue28 hS12 (fun g14 H15 hS16 hxx => ?_)
  refine lo rfl ?_
  refine e_storeBlkA (cs' := #[I (((sortsF a)).1), I (((sortsF a)).2)]) rfl rfl rfl Try.sizeOf28 rfl rfl (fa rfl (fa rfl fe)) hS16 (fun H17 hS18 hxx => ?_)
  exact ⟨g14, y2, y3, y4, rfl, hS18⟩
 clear y2 y3 y4
 rintro f19 H19 ⟨g14, y2, y3, y4, y5, hS19⟩
 refine fcr (fun f H => f 2 = PT g1 0 ∧ f 3 = PT g4 0 ∧ f 4 = PT g7 0 ∧ f 5 = PT g14 0 ∧ f 13 = B (decide ((((sortsF a)).1) ≠ 0)) ∧ H19 = H) ?_ ?_
 ·refine lq rfl (q_fieldAddr rfl Try.underlying28 rfl Try.sizeOf3 y5) ?_
  refine lq rfl (q_loadBlk rfl rfl Try.isAgg3 (hS19.blk 0 rfl) rfl (fun h => h)) ?_
  refine lq rfl (q_neq rfl rfl rfl) ?_
  exact ⟨y2, y3, y4, y5, rfl, rfl⟩
 clear y2 y3 y4 y5
 rintro f20 _ ⟨y2, y3, y4, y5, y13, rfl⟩
 refine wpF_condP y13 (fun h13 => ?t56) (fun h13 => ?e56)
 case t56 =>
  refine fcr (fun f H => f 4 = PT g7 0 ∧ St H0 NoB NoB [bE g7 #[I (((sortsF a)).1), I (((sortsF a)).2)] 28, bE g14 #[I (((sortsF a)).1), I (((sortsF a)).2)] 28, bE g4 #[vM] 47, bE g1 #[vD, vN, vH] 26, rdE vD a.Decls, rdE vN a.Nodes, rdE vH a.Hold, rdE vM w.Means] H) ?_ ?_
  ·refine lq rfl (q_loadBlkA rfl y5 Try.isAgg28 Try.sizeOf28 rfl (hS19.blk 0 rfl) (fun h => h)) ?_
   refine lo rfl ?_
   refine e_storeBlkA (cs' := #[I (((sortsF a)).1), I (((sortsF a)).2)]) rfl y4 rfl Try.sizeOf28 rfl rfl (fa rfl (fa rfl fe)) (hS19.front 1 rfl) (fun H22 hS23 hxx => ?_)
   exact ⟨y4, hS23⟩
  clear y13 y2 y3 y4 y5
  rintro f24 H24 ⟨y4, hS24⟩
  refine wpF_ret ?_
  refine ⟨_, resC y4 (loadV_blkA Try.isAgg28 Try.sizeOf28 rfl (hS24.blk 0 rfl)) (resN), hS24.frame, ?_⟩
  show (Vg #[I (((sortsF a)).1), I (((sortsF a)).2)]) = Vg #[I ((meanF a w)).1, I ((meanF a w)).2]
  have hq := meanF_sort (w := w) h13
  rw [hq]
 refine wpF_skip ?_
 refine wpF_seq ?_
 refine fcr (fun f H => f 2 = PT g1 0 ∧ f 3 = PT g4 0 ∧ f 4 = PT g7 0 ∧ f 21 = B (decide ((w.Means.length : Int) ≠ (a.Decls.length : Int))) ∧ H19 = H) ?_ ?_
 ·refine lq rfl (q_fieldAddr rfl Try.underlying47 rfl Try.sizeOf45 y3) ?_
  refine lq rfl (q_loadBlk rfl rfl Try.isAgg45 (hS19.blk 2 rfl) rfl (fun h => h)) ?_
  refine lq rfl (q_lenRd rfl Try.underlying45 rfl (hS19.rdl 7 rfl)) ?_
  refine lq rfl (q_fieldAddr rfl Try.underlying26 rfl Try.sizeOf22 y2) ?_
  refine lq rfl (q_loadBlk rfl rfl Try.isAgg22 (hS19.blk 3 rfl) rfl (fun h => h)) ?_
  refine lq rfl (q_lenRd rfl Try.underlying22 rfl (hS19.rdl 4 rfl)) ?_
  refine lq rfl (q_neq rfl rfl rfl) ?_
  exact ⟨y2, y3, y4, rfl, rfl⟩
 clear y13 y2 y3 y4 y5
 rintro f25 _ ⟨y2, y3, y4, y21, rfl⟩
 refine wpF_condP y21 (fun h21 => ?t55) (fun h21 => ?e55)
 case t55 =>
  refine fcr (fun f H => f 4 = PT g7 0 ∧ St H0 NoB NoB [bE g7 #[I (9), I (0)] 28, bE g14 #[I (((sortsF a)).1), I (((sortsF a)).2)] 28, bE g4 #[vM] 47, bE g1 #[vD, vN, vH] 26, rdE vD a.Decls, rdE vN a.Nodes, rdE vH a.Hold, rdE vM w.Means] H) ?_ ?_
  ·refine lq rfl (q_build (v := Vg #[I (9), I (0)]) rfl (par1 (v0 := I (9)) rfl) (fun w__ => by kernel_rfl)) ?_
   refine lo rfl ?_
   refine e_storeBlkA (cs' := #[I (9), I (0)]) rfl y4 rfl Try.sizeOf28 rfl rfl (fa rfl (fa rfl fe)) (hS19.front 1 rfl) (fun H27 hS28 hxx => ?_)
   exact ⟨y4, hS28⟩
  clear y2 y21 y3 y4
  rintro f29 H29 ⟨y4, hS29⟩
  refine wpF_ret ?_
  refine ⟨_, resC y4 (loadV_blkA Try.isAgg28 Try.sizeOf28 rfl (hS29.blk 0 rfl)) (resN), hS29.frame, ?_⟩
  show (Vg #[I (9), I (0)]) = Vg #[I ((meanF a w)).1, I ((meanF a w)).2]
  have hq := meanF_size h13 h21
  rw [hq]
 refine wpF_skip ?_
 refine wpF_seq ?_
 refine fcr (fun f H => f 3 = PT g4 0 ∧ f 4 = PT g7 0 ∧ f 24 = vD ∧ f 25 = I ((a.Decls.length : Int)) ∧ f 26 = I (0) ∧ H19 = H) ?_ ?_
 ·refine lq rfl (q_fieldAddr rfl Try.underlying26 rfl Try.sizeOf22 y2) ?_
  refine lq rfl (q_loadBlk rfl rfl Try.isAgg22 (hS19.blk 3 rfl) rfl (fun h => h)) ?_
  refine lq rfl (q_lenRd rfl Try.underlying22 rfl (hS19.rdl 4 rfl)) ?_
  refine lm (v := I (0)) rfl rfl rfl ?_
  exact ⟨y3, y4, rfl, rfl, rfl, rfl⟩
 clear y2 y21 y3 y4
 rintro f30 _ ⟨y3, y4, y24, y25, y26, rfl⟩
 refine wpF_block ?_
 refine wpF_loop (fun mz f H => ∃ (k : Nat), mz = a.Decls.length - k ∧ (k ≤ a.Decls.length) ∧ (∀ j, j < k → codeM (nth a.Decls j) (nth w.Means j) = 0) ∧ f 3 = PT g4 0 ∧ f 4 = PT g7 0 ∧ f 24 = vD ∧ f 25 = I ((a.Decls.length : Int)) ∧ f 26 = I ((k : Int)) ∧ St H0 NoB NoB [bE g14 #[I (((sortsF a)).1), I (((sortsF a)).2)] 28, bE g7 #[I (0), I (0)] 28, bE g4 #[vM] 47, bE g1 #[vD, vN, vH] 26, rdE vD a.Decls, rdE vN a.Nodes, rdE vH a.Hold, rdE vM w.Means] H) (a.Decls.length - 0) ?_ ?_
 ·exact ⟨0, rfl, Nat.zero_le _, (fun j hj => absurd hj (Nat.not_lt_zero j)), y3, y4, y24, y25, (Eq.trans y26 (congrArg I (by omega))), hS19⟩
 intro m31 f31 H31 hI31
 clear y24 y25 y26 y3 y4
 obtain ⟨k, hm31, hk, hp, y3, y4, y24, y25, y26, hS31⟩ := hI31
 refine fcr (fun f H => f 3 = PT g4 0 ∧ f 4 = PT g7 0 ∧ f 24 = vD ∧ f 25 = I ((a.Decls.length : Int)) ∧ f 26 = I ((k : Int)) ∧ f 27 = B (decide ((k : Int) < (a.Decls.length : Int))) ∧ H31 = H) ?_ ?_
 ·refine lq rfl (q_lss rfl y26 y25) ?_
  exact ⟨y3, y4, y24, y25, y26, rfl, rfl⟩
 clear y24 y25 y26 y3 y4
 rintro f32 _ ⟨y3, y4, y24, y25, y26, y27, rfl⟩
 refine wpF_seq ?_
 refine wpF_condP y27 (fun hlt => ?t54) (fun hlt => ?e54)
 case e54 =>
  refine wpF_exit ?_
  refine atX_here ?_
  refine fcr (fun f H => f 4 = PT g7 0 ∧ St H0 NoB NoB [bE g7 #[I (0), I (0)] 28, bE g14 #[I (((sortsF a)).1), I (((sortsF a)).2)] 28, bE g4 #[vM] 47, bE g1 #[vD, vN, vH] 26, rdE vD a.Decls, rdE vN a.Nodes, rdE vH a.Hold, rdE vM w.Means] H) ?_ ?_
  ·refine lq rfl (q_build (v := Vg #[I (0), I (0)]) rfl par0 (fun w__ => by kernel_rfl)) ?_
   refine lo rfl ?_
   refine e_storeBlkA (cs' := #[I (0), I (0)]) rfl y4 rfl Try.sizeOf28 rfl rfl (fa rfl (fa rfl fe)) (hS31.front 1 rfl) (fun H51 hS52 hxx => ?_)
   exact ⟨y4, hS52⟩
  clear y24 y25 y26 y27 y3 y4
  rintro f53 H53 ⟨y4, hS53⟩
  refine wpF_ret ?_
  refine ⟨_, resC y4 (loadV_blkA Try.isAgg28 Try.sizeOf28 rfl (hS53.blk 0 rfl)) (resN), hS53.frame, ?_⟩
  show (Vg #[I (0), I (0)]) = Vg #[I ((meanF a w)).1, I ((meanF a w)).2]
  have hq := meanF_ok h13 h21 fun j hj => hp j (by omega)
  rw [hq]
 refine wpF_skip ?_
 refine wpF_seq ?_
 refine wpF_block ?_
 refine fcr (fun f H => ∃ (u34n1 : Value), ∃ (g36 : Nat), ((nth a.Decls k).Name.size ≤ maxLen) ∧ (In64 (nth a.Decls k).Srt) ∧ f 3 = PT g4 0 ∧ f 4 = PT g7 0 ∧ f 6 = I ((k : Int)) ∧ f 7 = PT g36 0 ∧ f 24 = vD ∧ f 25 = I ((a.Decls.length : Int)) ∧ f 26 = I ((k : Int)) ∧ St H0 NoB NoB [bE g36 #[SB ((nth a.Decls k).Name), u34n1, I ((nth a.Decls k).Srt)] 43, rdE u34n1 ((nth a.Decls k).Args), bE g14 #[I (((sortsF a)).1), I (((sortsF a)).2)] 28, bE g7 #[I (0), I (0)] 28, bE g4 #[vM] 47, bE g1 #[vD, vN, vH] 26, rdE vD a.Decls, rdE vN a.Nodes, rdE vH a.Hold, rdE vM w.Means] H) ?_ ?_
 ·refine lm (v := I ((k : Int))) rfl rfl y26 ?_
  refine lq rfl (q_indexRd (k := k) rfl Try.underlying22 el_Decl_43_MeanC2 y24 y26 (hS31.rdl 4 rfl) (by omega) (by omega)) ?_
  obtain ⟨u34, huu34, hlu34⟩ := (Rd.list.1 (hS31.rdS 4 rfl)).elem k (by omega)
  obtain ⟨u34n1, rfl, hu340, hu341, hu342⟩ := Rd.decl.1 huu34
  have hS35 := hS31.rd hu341
  refine lq rfl (q_loadE rfl rfl (hlu34 Try.prog 43 _ el_Decl_43_MeanC2 (fun _ h => False.elim h))) ?_
  refine lo rfl ?_
  refine e_alloc rfl Try.zeroValue43 hS35 (fun g36 H37 hS38 hxx => ?_)
  refine la (v := I ((k : Int))) rfl rfl rfl ?_
  refine lo rfl ?_
  refine e_storeBlkA (cs' := #[SB ((nth a.Decls k).Name), u34n1, I ((nth a.Decls k).Srt)]) rfl rfl rfl Try.sizeOf43 rfl rfl (fa rfl (fa ((oneCell_rdL (hS38.rdl 1 rfl))) (fa rfl fe))) hS38 (fun H39 hS40 hxx => ?_)
  exact ⟨u34n1, g36, hu340, hu342, y3, y4, rfl, rfl, y24, y25, y26, hS40⟩
 clear y24 y25 y26 y27 y3 y4
 rintro f41 H41 ⟨u34n1, g36, hu340, hu342, y3, y4, y6, y7, y24, y25, y26, hS41⟩
 refine sc (fun f H => (In64 (nth w.Means k).MNum) ∧ (In64 (nth w.Means k).MDen) ∧ (In64 (nth w.Means k).MRest) ∧ f 3 = PT g4 0 ∧ f 4 = PT g7 0 ∧ f 6 = I ((k : Int)) ∧ f 8 = I (((codeM (nth a.Decls k) (nth w.Means k)))) ∧ f 24 = vD ∧ f 25 = I ((a.Decls.length : Int)) ∧ f 26 = I ((k : Int)) ∧ St H0 NoB NoB [bE g36 #[SB ((nth a.Decls k).Name), u34n1, I ((nth a.Decls k).Srt)] 43, rdE u34n1 ((nth a.Decls k).Args), bE g14 #[I (((sortsF a)).1), I (((sortsF a)).2)] 28, bE g7 #[I (0), I (0)] 28, bE g4 #[vM] 47, bE g1 #[vD, vN, vH] 26, rdE vD a.Decls, rdE vN a.Nodes, rdE vH a.Hold, rdE vM w.Means] H) ?_ ?_
 ·refine wpF_drawn [] [] (fun _ _ => False) (by kernel_rfl) (by kernel_rfl) ?_
  refine rq 0 (by kernel_rfl) rfl rfl (q_loadBlkA rfl y7 Try.isAgg43 Try.sizeOf43 rfl (hS41.blk 0 rfl) (labU_not [] rfl (fe))) ?_
  refine rq 1 (by kernel_rfl) rfl rfl (q_fieldAddr rfl Try.underlying47 rfl Try.sizeOf45 y3) ?_
  refine rq 2 (by kernel_rfl) rfl rfl (q_loadBlk rfl rfl Try.isAgg45 (hS41.blk 4 rfl) rfl (labU_not [] rfl (fe))) ?_
  refine rq 3 (by kernel_rfl) rfl rfl (q_move (v := I ((k : Int))) rfl y6) ?_
  refine rq 4 (by kernel_rfl) rfl rfl (q_indexRd (k := k) rfl Try.underlying45 el_Meaning_71_MeanC2 rfl rfl (hS41.rdl 9 rfl) (by omega) (by omega)) ?_
  obtain ⟨u42o5, huu42o5, hlu42o5⟩ := (Rd.list.1 (hS41.rdS 9 rfl)).elem k (by omega)
  obtain ⟨u42o5n0, u42o5n3, rfl, hu42o50, hu42o51, hu42o52, hu42o53, hu42o54⟩ := Rd.meaning.1 huu42o5
  have hS42o5 := hS41.rd hu42o50
  have hS42o5x2 : St H0 NoB NoB [rdE u42o5n3 ((nth w.Means k).MCells), rdE u42o5n0 ((nth w.Means k).Rows), bE g36 #[SB ((nth a.Decls k).Name), u34n1, I ((nth a.Decls k).Srt)] 43, rdE u34n1 ((nth a.Decls k).Args), bE g14 #[I (((sortsF a)).1), I (((sortsF a)).2)] 28, bE g7 #[I (0), I (0)] 28, bE g4 #[vM] 47, bE g1 #[vD, vN, vH] 26, rdE vD a.Decls, rdE vN a.Nodes, rdE vH a.Hold, rdE vM w.Means] H41 := hS42o5.rd (hu42o53.sub fun _ hb => SL_rd hb)
  refine rq 5 (by kernel_rfl) rfl rfl (q_loadE rfl rfl (hlu42o5 Try.prog 71 _ el_Meaning_71_MeanC2 (labU_sub [] rfl (fe)))) ?_
  refine wpR_n [6] (by kernel_rfl) ?_
  refine fa ?_ fe
  refine exE rfl rfl ?_
  refine e_call rfl Try.call26 (arr2 (v0 := Vg #[SB ((nth a.Decls k).Name), u34n1, I ((nth a.Decls k).Srt)]) (v1 := Vg #[u42o5n0, I ((nth w.Means k).MNum), I ((nth w.Means k).MDen), u42o5n3, I ((nth w.Means k).MRest)]) rfl rfl) (checkMeaning_M u34n1 u42o5n0 u42o5n3 (nth a.Decls k) (nth w.Means k) (by first | assumption | exact Nat.zero_le _) (hS42o5x2.rdN 3 rfl) (by first | assumption | (constructor <;> omega)) (hS42o5x2.rdN 1 rfl) (by first | assumption | (constructor <;> omega)) (by first | assumption | (constructor <;> omega)) (hS42o5x2.rdN 0 rfl) (by first | assumption | (constructor <;> omega)) ) ?_
  rintro _ H42o6 ⟨hxx, rfl⟩
  have hS42o6 := hS42o5x2.ext hxx
  refine ⟨Ext.mono hxx (fun _ h => h.elim), ?_⟩
  refine rq 7 (by kernel_rfl) rfl rfl (q_assign (v := I (((codeM (nth a.Decls k) (nth w.Means k))))) rfl rfl) ?_
  refine wpR_end (by kernel_rfl) ?_
  exact ⟨hu42o51, hu42o52, hu42o54, y3, y4, y6, rfl, y24, y25, y26, (hS42o6.drop (sn (sn (sk (sk (sk (sk (sk (sk (sk (sk (sk (sk (List.Sublist.slnil))))))))))))))⟩
 clear y24 y25 y26 y3 y4 y6 y7
 rintro f43 H43 ⟨hu42o51, hu42o52, hu42o54, y3, y4, y6, y8, y24, y25, y26, hS43⟩
 refine fcr (fun f H => f 3 = PT g4 0 ∧ f 4 = PT g7 0 ∧ f 6 = I ((k : Int)) ∧ f 8 = I (((codeM (nth a.Decls k) (nth w.Means k)))) ∧ f 24 = vD ∧ f 25 = I ((a.Decls.length : Int)) ∧ f 26 = I ((k : Int)) ∧ f 39 = B (decide (((codeM (nth a.Decls k) (nth w.Means k))) ≠ 0)) ∧ H43 = H) ?_ ?_
 ·refine lm (v := I (((codeM (nth a.Decls k) (nth w.Means k))))) rfl rfl y8 ?_
  refine lq rfl (q_neq rfl rfl rfl) ?_
  exact ⟨y3, y4, y6, y8, y24, y25, y26, rfl, rfl⟩
 clear y24 y25 y26 y3 y4 y6 y8
 rintro f44 _ ⟨y3, y4, y6, y8, y24, y25, y26, y39, rfl⟩
 refine wpF_condP y39 (fun h39 => ?t50) (fun h39 => ?e50)
 case e50 =>
  refine wpF_skip ?_
  refine wpF_cut (fun f H => f 3 = PT g4 0 ∧ f 4 = PT g7 0 ∧ f 24 = vD ∧ f 25 = I ((a.Decls.length : Int)) ∧ f 26 = I ((k : Int) + 1) ∧ H43 = H) ?_ ?_
  ·refine wpF_region ?_
   refine lq rfl (q_add rfl y26 rfl (by constructor <;> omega)) ?_
   refine lm (v := I ((k : Int) + 1)) rfl rfl rfl ?_
   exact ⟨y3, y4, y24, y25, rfl, rfl⟩
  clear y24 y25 y26 y3 y39 y4 y6 y8
  rintro f49 _ ⟨y3, y4, y24, y25, y26, rfl⟩
  refine ⟨_, ?_, k + 1, rfl, (by omega), (all_succ hp (Decidable.of_not_not h39)), y3, y4, y24, y25, (Eq.trans y26 (congrArg I (by omega))), (hS43.drop (sn (sn (sk (sk (sk (sk (sk (sk (sk (sk (List.Sublist.slnil))))))))))))⟩
  omega
 refine fcr (fun f H => f 4 = PT g7 0 ∧ St H0 NoB NoB [bE g7 #[I (((codeM (nth a.Decls k) (nth w.Means k)))), I ((k : Int))] 28, bE g36 #[SB ((nth a.Decls k).Name), u34n1, I ((nth a.Decls k).Srt)] 43, rdE u34n1 ((nth a.Decls k).Args), bE g14 #[I (((sortsF a)).1), I (((sortsF a)).2)] 28, bE g4 #[vM] 47, bE g1 #[vD, vN, vH] 26, rdE vD a.Decls, rdE vN a.Nodes, rdE vH a.Hold, rdE vM w.Means] H) ?_ ?_
 ·refine lm (v := I (((codeM (nth a.Decls k) (nth w.Means k))))) rfl rfl y8 ?_
  refine lm (v := I ((k : Int))) rfl rfl y6 ?_
  refine lq rfl (q_build (v := Vg #[I (((codeM (nth a.Decls k) (nth w.Means k)))), I ((k : Int))]) rfl (par2 (v0 := I (((codeM (nth a.Decls k) (nth w.Means k))))) (v1 := I ((k : Int))) rfl rfl) (fun w__ => by kernel_rfl)) ?_
  refine lo rfl ?_
  refine e_storeBlkA (cs' := #[I (((codeM (nth a.Decls k) (nth w.Means k)))), I ((k : Int))]) rfl y4 rfl Try.sizeOf28 rfl rfl (fa rfl (fa rfl fe)) (hS43.front 3 rfl) (fun H46 hS47 hxx => ?_)
  exact ⟨y4, hS47⟩
 clear y24 y25 y26 y3 y39 y4 y6 y8
 rintro f48 H48 ⟨y4, hS48⟩
 refine wpF_ret ?_
 refine ⟨_, resC y4 (loadV_blkA Try.isAgg28 Try.sizeOf28 rfl (hS48.blk 0 rfl)) (resN), hS48.frame, ?_⟩
 show (Vg #[I (((codeM (nth a.Decls k) (nth w.Means k)))), I ((k : Int))]) = Vg #[I ((meanF a w)).1, I ((meanF a w)).2]
 have hq := meanF_at h13 h21 (by omega) hp h39
 rw [hq]
end Go.Um
