import Derived.Test.YtacphjgolmolmaaGreatProg
import Derived.Test.YtacphjgolmolmaaGreatMeanC1Z
import Derived.Test.YtacphjgolmolmaaGreatUmArrUpC
namespace Go.Um
open Go.Proofs
open GoT (sz ag rdc)
open KeyT (kv)
theorem el_Cell_67_MeanC2 : ElT Tryz.prog Cell 67 := ⟨Tryz.isAgg67, Tryz.sizeOf67⟩
theorem el_Decl_43_MeanC2 : ElT Tryz.prog Decl 43 := ⟨Tryz.isAgg43, Tryz.sizeOf43⟩
theorem el_Entry_65_MeanC2 : ElT Tryz.prog Entry 65 := ⟨Tryz.isAgg65, Tryz.sizeOf65⟩
theorem el_Meaning_62_MeanC2 : ElT Tryz.prog Meaning 62 := ⟨Tryz.isAgg62, Tryz.sizeOf62⟩
theorem fl57_MeanC2 (a b c d : Int) (w : World) : (Op.equalIn 10000 57 (.agg #[I a, I b]) (.agg #[I c, I d])).run Tryz.prog w = .ok (decide (a = c ∧ b = d)) w := eq2_run Tryz.underlying57 Tryz.underlying3 Tryz.underlying3 (by decide) (by decide) rfl rfl Tryz.isAgg3 Tryz.isAgg3 Tryz.stoodInHeld57 a b c d w
set_option maxRecDepth 100000 in
theorem thing_M {H0 : Heap} (n : Int)  : CallsH Tryz.prog 36 #[I (n)] H0 (fun rv_ H' => Ext NoB H0 H' ∧ rv_ = B (decide (thingS n))) := by
 have hS0 : St H0 NoB NoB [] H0 := St.start (fun _ h => h.elim)
 refine callsH_of_wpF (args := [I (n)]) (rs := [.tmp 2]) Tryz.func36 rfl Tryz.ntmps36 Tryz.results36 (by kernel_rfl) (Nat.le_of_ble_eq_true rfl) ?_
 have y0 : argF [I (n)] 0 = I (n) := rfl
 generalize argF [I (n)] = f0 at *
 refine wpF_seq ?_
 refine wpF_region ?_
 refine la (v := B (false)) rfl rfl rfl ?_
 refine wpL_nil ?_
 refine fcr (fun f H => f 2 = B (decide ((0 ≤ n) ∧ (n ≤ 1000))) ∧ H0 = H) ?_ ?_
 ·refine lm (v := I (n)) rfl rfl y0 ?_
  refine lq rfl (q_geq rfl rfl rfl) ?_
  refine lm (v := B (decide (0 ≤ n))) rfl rfl rfl ?_
  by_cases hg1 : 0 ≤ n
  ·have hb2 := Eq.trans rfl (congrArg B (decide_eq_true hg1))
   refine gq rfl rfl rfl hb2 (q_move (v := I (n)) rfl y0) ?_
   refine gq rfl rfl rfl hb2 (q_leq rfl rfl rfl) ?_
   refine lq rfl (q_pickT (v := B (decide (n ≤ 1000))) rfl hb2 rfl) ?_
   refine la (v := B (decide (n ≤ 1000))) rfl rfl rfl ?_
   exact ⟨(Eq.trans rfl (congrArg B (decide_congr_of ((Iff.rfl).trans (((and_iff_right hg1).trans Iff.rfl)).symm)))), rfl⟩
  ·have hb3 := Eq.trans rfl (congrArg B (decide_eq_false hg1))
   refine wpL_gs rfl rfl rfl hb3 rfl ?_
   refine wpL_gs rfl rfl rfl hb3 rfl ?_
   refine lq rfl (q_pickF (v := B (false)) rfl hb3 rfl) ?_
   refine la (v := B (false)) rfl rfl rfl ?_
   exact ⟨(Eq.trans rfl (congrArg B ((decide_eq_false (fun h => hg1 h.1)).symm))), rfl⟩
 clear y0
 rintro f4 _ ⟨y2, rfl⟩
 refine wpF_ret ?_
 refine ⟨_, resT y2 resN, hS0.frame, ?_⟩
 show (B (decide ((0 ≤ n) ∧ (n ≤ 1000)))) = B (decide (thingS n))
 rfl
set_option maxHeartbeats 1000000 in
set_option maxRecDepth 100000 in
theorem array_M {H0 : Heap} (vc : Value) (v : Val) (h6vVNum : In64 v.VNum) (h6vVDen : In64 v.VDen) (rvc : Rd NoB H0 vc v.Cells) (h6vRest : In64 v.Rest) : CallsH Tryz.prog 66 #[Vg #[I (v.VNum), I (v.VDen), vc, I (v.Rest)]] H0 (fun rv_ H' => Ext NoB H0 H' ∧ rv_ = B (arrB v)) := by
 have hsc : v.Cells.length * 16 ≤ 140737488355328 := (Rd.list.1 rvc).bound
 have hS0 : St H0 NoB NoB [rdE vc v.Cells] H0 := St.arg (St.start (fun _ h => h.elim)) (Bl0.nil) rvc (fun _ h => h)
 refine callsH_of_wpF (args := [Vg #[I (v.VNum), I (v.VDen), vc, I (v.Rest)]]) (rs := [.tmp 2]) Tryz.func66 rfl Tryz.ntmps66 Tryz.results66 (by kernel_rfl) (Nat.le_of_ble_eq_true rfl) ?_
 have y0 : argF [Vg #[I (v.VNum), I (v.VDen), vc, I (v.Rest)]] 0 = Vg #[I (v.VNum), I (v.VDen), vc, I (v.Rest)] := rfl
 generalize argF [Vg #[I (v.VNum), I (v.VDen), vc, I (v.Rest)]] = f0 at *
 refine wpF_seq ?_
 refine wpF_region ?_
 refine lo rfl ?_
 refine e_box (v := Vg #[I (v.VNum), I (v.VDen), vc, I (v.Rest)]) rfl y0 hS0 (fun g1 H2 hS3 hxx => ?_)
 refine la (v := B (false)) rfl rfl rfl ?_
 refine wpL_nil ?_
 refine wpF_seq ?_
 refine fcr (fun f H => f 1 = PT g1 0 ∧ f 14 = B (decide ((¬ (v.VNum = 0 ∧ v.VDen = 0)) ∨ (¬ (thingS v.Rest)))) ∧ St H0 NoB NoB [bE g1 #[I (v.VNum), I (v.VDen), vc, I (v.Rest)] 60, rdE vc v.Cells] H) ?_ ?_
 ·refine lq rfl (q_fieldAddr rfl Tryz.underlying60 rfl Tryz.sizeOf57 rfl) ?_
  refine lq rfl (q_loadBlkP (ds := [I (v.VNum), I (v.VDen)]) rfl rfl Tryz.isAgg57 Tryz.sizeOf57 rfl rfl (hS3.blk 0 rfl) (fun h => h)) ?_
  refine lq rfl (q_build (v := Vg #[I (0), I (0)]) rfl par0 (fun w__ => by kernel_rfl)) ?_
  refine lq rfl (q_neqF2 rfl Tryz.eqGuardType57 (fl57_MeanC2 _ _ _ _) rfl rfl) ?_
  refine lm (v := B (decide (¬ (v.VNum = 0 ∧ v.VDen = 0)))) rfl rfl rfl ?_
  by_cases hg4 : ¬ (v.VNum = 0 ∧ v.VDen = 0)
  ·have hb5 := Eq.trans rfl (congrArg B (decide_eq_true hg4))
   refine wpL_gs rfl rfl rfl hb5 rfl ?_
   refine wpL_gs rfl rfl rfl hb5 rfl ?_
   refine wpL_gs rfl rfl rfl hb5 rfl ?_
   refine wpL_gs rfl rfl rfl hb5 rfl ?_
   refine lq rfl (q_pickT (v := B (true)) rfl hb5 rfl) ?_
   exact ⟨rfl, (Eq.trans rfl (congrArg B ((decide_eq_true (Or.inl hg4)).symm))), hS3⟩
  ·have hb6 := Eq.trans rfl (congrArg B (decide_eq_false hg4))
   refine gq rfl rfl rfl hb6 (q_fieldAddr rfl Tryz.underlying60 rfl Tryz.sizeOf3 rfl) ?_
   refine gq rfl rfl rfl hb6 (q_loadBlk rfl rfl Tryz.isAgg3 (hS3.blk 0 rfl) rfl (fun h => h)) ?_
   refine wpL_go rfl rfl rfl hb6 ?_
   refine e_call rfl Tryz.call36 (arr1 (v0 := I (v.Rest)) rfl) (thing_M v.Rest) ?_
   rintro _ H7 ⟨hxx, rfl⟩
   have hS8 := hS3.ext hxx
   refine gq rfl rfl rfl hb6 (q_notP rfl rfl) ?_
   refine lq rfl (q_pickF (v := B (decide (¬ (thingS v.Rest)))) rfl hb6 rfl) ?_
   exact ⟨rfl, (Eq.trans rfl (congrArg B (decide_congr_of (((not_congr Iff.rfl)).trans (((or_iff_right hg4).trans (not_congr Iff.rfl))).symm)))), hS8⟩
 rintro f10 H10 ⟨y1, y14, hS10⟩
 refine wpF_condP y14 (fun h14 => ?t37) (fun h14 => ?e37)
 case t37 =>
  refine wpF_seq ?_
  refine wpF_region ?_
  refine la (v := B (false)) rfl rfl rfl ?_
  refine wpL_nil ?_
  refine wpF_ret ?_
  refine ⟨_, resT rfl resN, hS10.frame, ?_⟩
  show (B (false)) = B (arrB v)
  exact congrArg B (decide_eq_false (fun h => h.1 h14)).symm
 refine wpF_skip ?_
 refine wpF_seq ?_
 refine wpF_seq ?_
 refine wpF_region ?_
 refine lq rfl (q_fieldAddr rfl Tryz.underlying60 rfl Tryz.sizeOf58 y1) ?_
 refine lq rfl (q_loadBlk rfl rfl Tryz.isAgg58 (hS10.blk 0 rfl) rfl (fun h => h)) ?_
 refine lq rfl (q_lenRd rfl Tryz.underlying58 rfl (hS10.rdl 1 rfl)) ?_
 refine lm (v := I (0)) rfl rfl rfl ?_
 refine wpL_nil ?_
 refine wpF_block ?_
 refine wpF_loop (fun mz f H => ∃ (k : Nat), mz = v.Cells.length - k ∧ (k ≤ v.Cells.length) ∧ (∀ j, j < k → ¬ cellBad v j) ∧ f 1 = PT g1 0 ∧ f 16 = vc ∧ f 17 = I ((v.Cells.length : Int)) ∧ f 18 = I ((k : Int)) ∧ St H0 NoB NoB [bE g1 #[I (v.VNum), I (v.VDen), vc, I (v.Rest)] 60, rdE vc v.Cells] H) (v.Cells.length - 0) ?_ ?_
 ·exact ⟨0, rfl, Nat.zero_le _, (fun j hj => absurd hj (Nat.not_lt_zero j)), y1, rfl, rfl, (Eq.trans rfl (congrArg I (by omega))), hS10⟩
 intro m12 f12 H12 hI12
 clear y1
 obtain ⟨k, hm12, hk, hp, y1, y16, y17, y18, hS12⟩ := hI12
 refine wpF_seq ?_
 refine wpF_region ?_
 refine lq rfl (q_lss rfl y18 y17) ?_
 refine wpL_nil ?_
 refine wpF_seq ?_
 refine wpF_condP rfl (fun hlt => ?t36) (fun hlt => ?e36)
 case e36 =>
  refine wpF_exit ?_
  refine atX_here ?_
  refine wpF_seq ?_
  refine wpF_region ?_
  refine la (v := B (true)) rfl rfl rfl ?_
  refine wpL_nil ?_
  refine wpF_ret ?_
  refine ⟨_, resT rfl resN, hS12.frame, ?_⟩
  show (B (true)) = B (arrB v)
  exact congrArg B (decide_eq_true ⟨h14, fun j hj => hp j (by omega)⟩).symm
 refine wpF_skip ?_
 refine wpF_seq ?_
 refine wpF_block ?_
 refine wpF_seq ?_
 refine wpF_region ?_
 refine lm (v := I ((k : Int))) rfl rfl y18 ?_
 refine lq rfl (q_indexRd (k := k) rfl Tryz.underlying58 el_Cell_67_MeanC2 y16 y18 (hS12.rdl 1 rfl) (by omega) (by omega)) ?_
 obtain ⟨u14, huu14, hlu14⟩ := (Rd.list.1 (hS12.rdS 1 rfl)).elem k (by omega)
 obtain ⟨rfl, hu140, hu141⟩ := Rd.cell.1 huu14
 refine lq rfl (q_loadE rfl rfl (hlu14 Tryz.prog 67 _ el_Cell_67_MeanC2 (fun _ h => False.elim h))) ?_
 refine lo rfl ?_
 refine e_alloc rfl Tryz.zeroValue67 hS12 (fun g15 H16 hS17 hxx => ?_)
 refine la (v := I ((k : Int))) rfl rfl rfl ?_
 refine lo rfl ?_
 refine e_storeBlkA (cs' := #[I ((nth v.Cells k).At), I ((nth v.Cells k).It)]) rfl rfl rfl Tryz.sizeOf67 rfl rfl (fa rfl (fa rfl fe)) hS17 (fun H18 hS19 hxx => ?_)
 refine wpL_nil ?_
 refine sc (fun f H => f 1 = PT g1 0 ∧ f 16 = vc ∧ f 17 = I ((v.Cells.length : Int)) ∧ f 18 = I ((k : Int)) ∧ f 55 = B (decide ((((¬ (thingS ((nth v.Cells k).At))) ∨ (¬ (thingS ((nth v.Cells k).It)))) ∨ (((nth v.Cells k).It) = v.Rest)) ∨ ((0 < (k : Int)) ∧ (((nth v.Cells k).At) ≤ ((nth v.Cells (((k : Int) - 1).toNat)).At))))) ∧ St H0 NoB NoB [bE g15 #[I ((nth v.Cells k).At), I ((nth v.Cells k).It)] 67, bE g1 #[I (v.VNum), I (v.VDen), vc, I (v.Rest)] 60, rdE vc v.Cells] H) ?_ ?_
 ·refine wpF_drawn [] [] (fun _ _ => False) (by kernel_rfl) (by kernel_rfl) ?_
  refine rq 0 (by kernel_rfl) rfl rfl (q_fieldAddr rfl Tryz.underlying67 rfl Tryz.sizeOf3 rfl) ?_
  refine rq 1 (by kernel_rfl) rfl rfl (q_loadBlk rfl rfl Tryz.isAgg3 (hS19.blk 0 rfl) rfl (labU_not [] rfl (fe))) ?_
  refine wpR_n [2] (by kernel_rfl) ?_
  refine fa ?_ fe
  refine exE rfl rfl ?_
  refine e_call rfl Tryz.call36 (arr1 (v0 := I ((nth v.Cells k).At)) rfl) (thing_M ((nth v.Cells k).At)) ?_
  rintro _ H20o2 ⟨hxx, rfl⟩
  have hS20o2 := hS19.ext hxx
  refine ⟨Ext.mono hxx (fun _ h => h.elim), ?_⟩
  refine rq 3 (by kernel_rfl) rfl rfl (q_notP rfl rfl) ?_
  refine rq 4 (by kernel_rfl) rfl rfl (q_move (v := B (decide (¬ (thingS ((nth v.Cells k).At))))) rfl rfl) ?_
  by_cases hg21 : ¬ (thingS ((nth v.Cells k).At))
  ·have hb22 := Eq.trans rfl (congrArg B (decide_eq_true hg21))
   refine wpR_q 5 (by kernel_rfl) rfl (quietAt_s rfl rfl rfl rfl hb22 rfl) ?_
   refine wpR_q 6 (by kernel_rfl) rfl (quietAt_s rfl rfl rfl rfl hb22 rfl) ?_
   refine wpR_q 7 (by kernel_rfl) rfl (quietAt_s rfl rfl rfl rfl hb22 rfl) ?_
   refine wpR_q 8 (by kernel_rfl) rfl (quietAt_s rfl rfl rfl rfl hb22 rfl) ?_
   refine rq 9 (by kernel_rfl) rfl rfl (q_pickT (v := B (true)) rfl hb22 rfl) ?_
   refine rq 10 (by kernel_rfl) rfl rfl (q_move (v := B (true)) rfl rfl) ?_
   refine wpR_q 11 (by kernel_rfl) rfl (quietAt_s rfl rfl rfl rfl rfl rfl) ?_
   refine wpR_q 12 (by kernel_rfl) rfl (quietAt_s rfl rfl rfl rfl rfl rfl) ?_
   refine wpR_q 13 (by kernel_rfl) rfl (quietAt_s rfl rfl rfl rfl rfl rfl) ?_
   refine wpR_q 14 (by kernel_rfl) rfl (quietAt_s rfl rfl rfl rfl rfl rfl) ?_
   refine wpR_q 15 (by kernel_rfl) rfl (quietAt_s rfl rfl rfl rfl rfl rfl) ?_
   refine rq 16 (by kernel_rfl) rfl rfl (q_pickT (v := B (true)) rfl rfl rfl) ?_
   refine rq 17 (by kernel_rfl) rfl rfl (q_move (v := B (true)) rfl rfl) ?_
   refine wpR_q 18 (by kernel_rfl) rfl (quietAt_s rfl rfl rfl rfl rfl rfl) ?_
   refine wpR_q 19 (by kernel_rfl) rfl (quietAt_s rfl rfl rfl rfl rfl rfl) ?_
   refine wpR_q 20 (by kernel_rfl) rfl (quietAt_s rfl rfl rfl rfl rfl rfl) ?_
   refine wpR_q 21 (by kernel_rfl) rfl (quietAt_s' rfl rfl rfl rfl rfl) ?_
   refine wpR_q 22 (by kernel_rfl) rfl (quietAt_s' rfl rfl rfl rfl rfl) ?_
   refine wpR_q 23 (by kernel_rfl) rfl (quietAt_s' rfl rfl rfl rfl rfl) ?_
   refine wpR_q 24 (by kernel_rfl) rfl (quietAt_s' rfl rfl rfl rfl rfl) ?_
   refine wpR_q 25 (by kernel_rfl) rfl (quietAt_s' rfl rfl rfl rfl rfl) ?_
   refine wpR_q 26 (by kernel_rfl) rfl (quietAt_s' rfl rfl rfl rfl rfl) ?_
   refine wpR_q 27 (by kernel_rfl) rfl (quietAt_s' rfl rfl rfl rfl rfl) ?_
   refine wpR_q 28 (by kernel_rfl) rfl (quietAt_s' rfl rfl rfl rfl rfl) ?_
   refine wpR_q 29 (by kernel_rfl) rfl (quietAt_s' rfl rfl rfl rfl rfl) ?_
   refine wpR_q 30 (by kernel_rfl) rfl (quietAt_s' rfl rfl rfl rfl rfl) ?_
   refine wpR_q 31 (by kernel_rfl) rfl (quietAt_s rfl rfl rfl rfl rfl rfl) ?_
   refine rq 32 (by kernel_rfl) rfl rfl (q_pickT (v := B (true)) rfl rfl rfl) ?_
   refine wpR_end (by kernel_rfl) ?_
   exact ⟨y1, y16, y17, y18, (Eq.trans rfl (congrArg B ((decide_eq_true (Or.inl (Or.inl (Or.inl hg21)))).symm))), hS20o2⟩
  ·have hb23 := Eq.trans rfl (congrArg B (decide_eq_false hg21))
   refine wpR_q 5 (by kernel_rfl) rfl (quietAt_g rfl rfl rfl rfl hb23 (q_fieldAddr rfl Tryz.underlying67 rfl Tryz.sizeOf3 rfl)) ?_
   refine wpR_q 6 (by kernel_rfl) rfl (quietAt_g rfl rfl rfl rfl hb23 (q_loadBlk rfl rfl Tryz.isAgg3 (hS20o2.blk 0 rfl) rfl (labU_not [] rfl (fe)))) ?_
   refine wpR_n [7] (by kernel_rfl) ?_
   refine fa ?_ fe
   refine exE_g rfl rfl rfl rfl hb23 ?_
   refine e_call rfl Tryz.call36 (arr1 (v0 := I ((nth v.Cells k).It)) rfl) (thing_M ((nth v.Cells k).It)) ?_
   rintro _ H20o7 ⟨hxx, rfl⟩
   have hS20o7 := hS20o2.ext hxx
   refine ⟨Ext.mono hxx (fun _ h => h.elim), ?_⟩
   refine wpR_q 8 (by kernel_rfl) rfl (quietAt_g rfl rfl rfl rfl hb23 (q_notP rfl rfl)) ?_
   refine rq 9 (by kernel_rfl) rfl rfl (q_pickF (v := B (decide (¬ (thingS ((nth v.Cells k).It))))) rfl hb23 rfl) ?_
   refine rq 10 (by kernel_rfl) rfl rfl (q_move (v := B (decide (¬ (thingS ((nth v.Cells k).It))))) rfl rfl) ?_
   by_cases hg24 : ¬ (thingS ((nth v.Cells k).It))
   ·have hb25 := Eq.trans rfl (congrArg B (decide_eq_true hg24))
    refine wpR_q 11 (by kernel_rfl) rfl (quietAt_s rfl rfl rfl rfl hb25 rfl) ?_
    refine wpR_q 12 (by kernel_rfl) rfl (quietAt_s rfl rfl rfl rfl hb25 rfl) ?_
    refine wpR_q 13 (by kernel_rfl) rfl (quietAt_s rfl rfl rfl rfl hb25 rfl) ?_
    refine wpR_q 14 (by kernel_rfl) rfl (quietAt_s rfl rfl rfl rfl hb25 rfl) ?_
    refine wpR_q 15 (by kernel_rfl) rfl (quietAt_s rfl rfl rfl rfl hb25 rfl) ?_
    refine rq 16 (by kernel_rfl) rfl rfl (q_pickT (v := B (true)) rfl hb25 rfl) ?_
    refine rq 17 (by kernel_rfl) rfl rfl (q_move (v := B (true)) rfl rfl) ?_
    refine wpR_q 18 (by kernel_rfl) rfl (quietAt_s rfl rfl rfl rfl rfl rfl) ?_
    refine wpR_q 19 (by kernel_rfl) rfl (quietAt_s rfl rfl rfl rfl rfl rfl) ?_
    refine wpR_q 20 (by kernel_rfl) rfl (quietAt_s rfl rfl rfl rfl rfl rfl) ?_
    refine wpR_q 21 (by kernel_rfl) rfl (quietAt_s' rfl rfl rfl rfl rfl) ?_
    refine wpR_q 22 (by kernel_rfl) rfl (quietAt_s' rfl rfl rfl rfl rfl) ?_
    refine wpR_q 23 (by kernel_rfl) rfl (quietAt_s' rfl rfl rfl rfl rfl) ?_
    refine wpR_q 24 (by kernel_rfl) rfl (quietAt_s' rfl rfl rfl rfl rfl) ?_
    refine wpR_q 25 (by kernel_rfl) rfl (quietAt_s' rfl rfl rfl rfl rfl) ?_
    refine wpR_q 26 (by kernel_rfl) rfl (quietAt_s' rfl rfl rfl rfl rfl) ?_
    refine wpR_q 27 (by kernel_rfl) rfl (quietAt_s' rfl rfl rfl rfl rfl) ?_
    refine wpR_q 28 (by kernel_rfl) rfl (quietAt_s' rfl rfl rfl rfl rfl) ?_
    refine wpR_q 29 (by kernel_rfl) rfl (quietAt_s' rfl rfl rfl rfl rfl) ?_
    refine wpR_q 30 (by kernel_rfl) rfl (quietAt_s' rfl rfl rfl rfl rfl) ?_
    refine wpR_q 31 (by kernel_rfl) rfl (quietAt_s rfl rfl rfl rfl rfl rfl) ?_
    refine rq 32 (by kernel_rfl) rfl rfl (q_pickT (v := B (true)) rfl rfl rfl) ?_
    refine wpR_end (by kernel_rfl) ?_
    exact ⟨y1, y16, y17, y18, (Eq.trans rfl (congrArg B ((decide_eq_true (Or.inl (Or.inl (Or.inr hg24)))).symm))), hS20o7⟩
   ·have hb26 := Eq.trans rfl (congrArg B (decide_eq_false hg24))
    refine wpR_q 11 (by kernel_rfl) rfl (quietAt_g rfl rfl rfl rfl hb26 (q_fieldAddr rfl Tryz.underlying67 rfl Tryz.sizeOf3 rfl)) ?_
    refine wpR_q 12 (by kernel_rfl) rfl (quietAt_g rfl rfl rfl rfl hb26 (q_loadBlk rfl rfl Tryz.isAgg3 (hS20o7.blk 0 rfl) rfl (labU_not [] rfl (fe)))) ?_
    refine wpR_q 13 (by kernel_rfl) rfl (quietAt_g rfl rfl rfl rfl hb26 (q_fieldAddr rfl Tryz.underlying60 rfl Tryz.sizeOf3 y1)) ?_
    refine wpR_q 14 (by kernel_rfl) rfl (quietAt_g rfl rfl rfl rfl hb26 (q_loadBlk rfl rfl Tryz.isAgg3 (hS20o7.blk 1 rfl) rfl (labU_not [] rfl (fe)))) ?_
    refine wpR_q 15 (by kernel_rfl) rfl (quietAt_g rfl rfl rfl rfl hb26 (q_eql rfl rfl rfl)) ?_
    refine rq 16 (by kernel_rfl) rfl rfl (q_pickF (v := B (decide (((nth v.Cells k).It) = v.Rest))) rfl hb26 rfl) ?_
    refine rq 17 (by kernel_rfl) rfl rfl (q_move (v := B (decide (((nth v.Cells k).It) = v.Rest))) rfl rfl) ?_
    by_cases hg27 : ((nth v.Cells k).It) = v.Rest
    ·have hb28 := Eq.trans rfl (congrArg B (decide_eq_true hg27))
     refine wpR_q 18 (by kernel_rfl) rfl (quietAt_s rfl rfl rfl rfl hb28 rfl) ?_
     refine wpR_q 19 (by kernel_rfl) rfl (quietAt_s rfl rfl rfl rfl hb28 rfl) ?_
     refine wpR_q 20 (by kernel_rfl) rfl (quietAt_s rfl rfl rfl rfl hb28 rfl) ?_
     refine wpR_q 21 (by kernel_rfl) rfl (quietAt_s' rfl rfl rfl rfl rfl) ?_
     refine wpR_q 22 (by kernel_rfl) rfl (quietAt_s' rfl rfl rfl rfl rfl) ?_
     refine wpR_q 23 (by kernel_rfl) rfl (quietAt_s' rfl rfl rfl rfl rfl) ?_
     refine wpR_q 24 (by kernel_rfl) rfl (quietAt_s' rfl rfl rfl rfl rfl) ?_
     refine wpR_q 25 (by kernel_rfl) rfl (quietAt_s' rfl rfl rfl rfl rfl) ?_
     refine wpR_q 26 (by kernel_rfl) rfl (quietAt_s' rfl rfl rfl rfl rfl) ?_
     refine wpR_q 27 (by kernel_rfl) rfl (quietAt_s' rfl rfl rfl rfl rfl) ?_
     refine wpR_q 28 (by kernel_rfl) rfl (quietAt_s' rfl rfl rfl rfl rfl) ?_
     refine wpR_q 29 (by kernel_rfl) rfl (quietAt_s' rfl rfl rfl rfl rfl) ?_
     refine wpR_q 30 (by kernel_rfl) rfl (quietAt_s' rfl rfl rfl rfl rfl) ?_
     refine wpR_q 31 (by kernel_rfl) rfl (quietAt_s rfl rfl rfl rfl hb28 rfl) ?_
     refine rq 32 (by kernel_rfl) rfl rfl (q_pickT (v := B (true)) rfl hb28 rfl) ?_
     refine wpR_end (by kernel_rfl) ?_
     exact ⟨y1, y16, y17, y18, (Eq.trans rfl (congrArg B ((decide_eq_true (Or.inl (Or.inr hg27))).symm))), hS20o7⟩
    ·have hb29 := Eq.trans rfl (congrArg B (decide_eq_false hg27))
     refine wpR_q 18 (by kernel_rfl) rfl (quietAt_g rfl rfl rfl rfl hb29 (q_move (v := I ((k : Int))) rfl rfl)) ?_
     refine wpR_q 19 (by kernel_rfl) rfl (quietAt_g rfl rfl rfl rfl hb29 (q_gtr rfl rfl rfl)) ?_
     refine wpR_q 20 (by kernel_rfl) rfl (quietAt_g rfl rfl rfl rfl hb29 (q_move (v := B (decide (0 < (k : Int)))) rfl rfl)) ?_
     by_cases hg30 : 0 < (k : Int)
     ·have hb31 := Eq.trans rfl (congrArg B (decide_eq_true hg30))
      refine wpR_q 21 (by kernel_rfl) rfl (quietAt_g rfl rfl rfl rfl hb31 (q_fieldAddr rfl Tryz.underlying67 rfl Tryz.sizeOf3 rfl)) ?_
      refine wpR_q 22 (by kernel_rfl) rfl (quietAt_g rfl rfl rfl rfl hb31 (q_loadBlk rfl rfl Tryz.isAgg3 (hS20o7.blk 0 rfl) rfl (labU_not [] rfl (fe)))) ?_
      refine wpR_q 23 (by kernel_rfl) rfl (quietAt_g rfl rfl rfl rfl hb31 (q_fieldAddr rfl Tryz.underlying60 rfl Tryz.sizeOf58 y1)) ?_
      refine wpR_q 24 (by kernel_rfl) rfl (quietAt_g rfl rfl rfl rfl hb31 (q_loadBlk rfl rfl Tryz.isAgg58 (hS20o7.blk 1 rfl) rfl (labU_not [] rfl (fe)))) ?_
      refine wpR_q 25 (by kernel_rfl) rfl (quietAt_g rfl rfl rfl rfl hb31 (q_move (v := I ((k : Int))) rfl rfl)) ?_
      refine wpR_q 26 (by kernel_rfl) rfl (quietAt_g rfl rfl rfl rfl hb31 (q_sub rfl rfl rfl (by constructor <;> omega))) ?_
      refine wpR_q 27 (by kernel_rfl) rfl (quietAt_g rfl rfl rfl rfl hb31 (q_indexRd (k := ((k : Int) - 1).toNat) rfl Tryz.underlying58 el_Cell_67_MeanC2 rfl rfl (hS20o7.rdl 2 rfl) (by omega) (by omega))) ?_
      refine wpR_q 28 (by kernel_rfl) rfl (quietAt_g rfl rfl rfl rfl hb31 (q_fieldE (k := ((k : Int) - 1).toNat) rfl Tryz.underlying67 rfl Tryz.sizeOf3 rfl rfl (hS20o7.rdl 2 rfl) (by omega))) ?_
      obtain ⟨_, hcu20o29, hFu20o29⟩ := (Rd.list.1 (hS20o7.rdS 2 rfl)).cellF (((k : Int) - 1).toNat) (by omega)
      obtain ⟨rfl, hu20o290, hu20o291⟩ := hcu20o29
      refine wpR_q 29 (by kernel_rfl) rfl (quietAt_g rfl rfl rfl rfl hb31 (q_loadF rfl rfl (hFu20o29 0 _ Tryz.prog 3 _ rfl Tryz.isAgg3 (labU_sub [] rfl (fe))))) ?_
      refine wpR_q 30 (by kernel_rfl) rfl (quietAt_g rfl rfl rfl rfl hb31 (q_leq rfl rfl rfl)) ?_
      refine wpR_q 31 (by kernel_rfl) rfl (quietAt_g rfl rfl rfl rfl hb29 (q_pickT (v := B (decide (((nth v.Cells k).At) ≤ ((nth v.Cells (((k : Int) - 1).toNat)).At)))) rfl hb31 rfl)) ?_
      refine rq 32 (by kernel_rfl) rfl rfl (q_pickF (v := B (decide (((nth v.Cells k).At) ≤ ((nth v.Cells (((k : Int) - 1).toNat)).At)))) rfl hb29 rfl) ?_
      refine wpR_end (by kernel_rfl) ?_
      exact ⟨y1, y16, y17, y18, (Eq.trans rfl (congrArg B (decide_congr_of ((Iff.rfl).trans (((or_iff_right (not_or.2 ⟨(not_or.2 ⟨hg21, hg24⟩), hg27⟩)).trans ((and_iff_right hg30).trans Iff.rfl))).symm)))), hS20o7⟩
     ·have hb32 := Eq.trans rfl (congrArg B (decide_eq_false hg30))
      refine wpR_q 21 (by kernel_rfl) rfl (quietAt_s rfl rfl rfl rfl hb32 rfl) ?_
      refine wpR_q 22 (by kernel_rfl) rfl (quietAt_s rfl rfl rfl rfl hb32 rfl) ?_
      refine wpR_q 23 (by kernel_rfl) rfl (quietAt_s rfl rfl rfl rfl hb32 rfl) ?_
      refine wpR_q 24 (by kernel_rfl) rfl (quietAt_s rfl rfl rfl rfl hb32 rfl) ?_
      refine wpR_q 25 (by kernel_rfl) rfl (quietAt_s rfl rfl rfl rfl hb32 rfl) ?_
      refine wpR_q 26 (by kernel_rfl) rfl (quietAt_s rfl rfl rfl rfl hb32 rfl) ?_
      refine wpR_q 27 (by kernel_rfl) rfl (quietAt_s rfl rfl rfl rfl hb32 rfl) ?_
      refine wpR_q 28 (by kernel_rfl) rfl (quietAt_s rfl rfl rfl rfl hb32 rfl) ?_
      refine wpR_q 29 (by kernel_rfl) rfl (quietAt_s rfl rfl rfl rfl hb32 rfl) ?_
      refine wpR_q 30 (by kernel_rfl) rfl (quietAt_s rfl rfl rfl rfl hb32 rfl) ?_
      refine wpR_q 31 (by kernel_rfl) rfl (quietAt_g rfl rfl rfl rfl hb29 (q_pickF (v := B (false)) rfl hb32 rfl)) ?_
      refine rq 32 (by kernel_rfl) rfl rfl (q_pickF (v := B (false)) rfl hb29 rfl) ?_
      refine wpR_end (by kernel_rfl) ?_
      exact ⟨y1, y16, y17, y18, (Eq.trans rfl (congrArg B ((decide_eq_false (not_or.2 ⟨(not_or.2 ⟨(not_or.2 ⟨hg21, hg24⟩), hg27⟩), (fun h => hg30 h.1)⟩)).symm))), hS20o7⟩
 clear y1 y16 y17 y18
 rintro f33 H33 ⟨y1, y16, y17, y18, y55, hS33⟩
 refine wpF_condP y55 (fun h55 => ?t35) (fun h55 => ?e35)
 case e35 =>
  refine wpF_skip ?_
  refine wpF_region ?_
  refine lq rfl (q_add rfl y18 rfl (by constructor <;> omega)) ?_
  refine lm (v := I ((k : Int) + 1)) rfl rfl rfl ?_
  refine wpL_nil ?_
  refine ⟨_, ?_, k + 1, rfl, (by omega), (all_succ hp h55), y1, y16, y17, (Eq.trans rfl (congrArg I (by omega))), (hS33.drop (sn (sk (sk (List.Sublist.slnil)))))⟩
  omega
 refine wpF_seq ?_
 refine wpF_region ?_
 refine la (v := B (false)) rfl rfl rfl ?_
 refine wpL_nil ?_
 refine wpF_ret ?_
 refine ⟨_, resT rfl resN, hS33.frame, ?_⟩
 show (B (false)) = B (arrB v)
 exact congrArg B (decide_eq_false (fun h => h.2 k (by omega) h55)).symm
set_option maxHeartbeats 1000000 in
set_option maxRecDepth 100000 in
theorem Is_M {H0 : Heap} (vc : Value) (s : Int) (v : Val) (h6vVNum : In64 v.VNum) (h6vVDen : In64 v.VDen) (rvc : Rd NoB H0 vc v.Cells) (h6vRest : In64 v.Rest) : CallsH Tryz.prog 39 #[I (s), Vg #[I (v.VNum), I (v.VDen), vc, I (v.Rest)]] H0 (fun rv_ H' => Ext NoB H0 H' ∧ rv_ = B (isV s v)) := by
 have hsc : v.Cells.length * 16 ≤ 140737488355328 := (Rd.list.1 rvc).bound
 have hS0 : St H0 NoB NoB [rdE vc v.Cells] H0 := St.arg (St.start (fun _ h => h.elim)) (Bl0.nil) rvc (fun _ h => h)
 refine callsH_of_wpF (args := [I (s), Vg #[I (v.VNum), I (v.VDen), vc, I (v.Rest)]]) (rs := [.tmp 4]) Tryz.func39 rfl Tryz.ntmps39 Tryz.results39 (by kernel_rfl) (Nat.le_of_ble_eq_true rfl) ?_
 have y0 : argF [I (s), Vg #[I (v.VNum), I (v.VDen), vc, I (v.Rest)]] 0 = I (s) := rfl
 have y1 : argF [I (s), Vg #[I (v.VNum), I (v.VDen), vc, I (v.Rest)]] 1 = Vg #[I (v.VNum), I (v.VDen), vc, I (v.Rest)] := rfl
 generalize argF [I (s), Vg #[I (v.VNum), I (v.VDen), vc, I (v.Rest)]] = f0 at *
 refine wpF_seq ?_
 refine wpF_region ?_
 refine lo rfl ?_
 refine e_box (v := Vg #[I (v.VNum), I (v.VDen), vc, I (v.Rest)]) rfl y1 hS0 (fun g1 H2 hS3 hxx => ?_)
 refine la (v := B (false)) rfl rfl rfl ?_
 refine wpL_nil ?_
 refine wpF_seq ?_
 refine wpF_seq ?_
 refine wpF_region ?_
 refine lm (v := I (s)) rfl rfl y0 ?_
 refine lq rfl (q_eql rfl rfl rfl) ?_
 refine wpL_nil ?_
 refine wpF_condP rfl (fun h7 => ?t46) (fun h7 => ?e46)
 case t46 =>
  refine wpF_seq ?_
  refine wpF_region ?_
  refine lq rfl (q_loadBlkA rfl rfl Tryz.isAgg60 Tryz.sizeOf60 rfl (hS3.blk 0 rfl) (fun h => h)) ?_
  refine lo rfl ?_
  refine e_call rfl Tryz.call66 (arr1 (v0 := Vg #[I (v.VNum), I (v.VDen), vc, I (v.Rest)]) rfl) (array_M vc v (by first | assumption | (constructor <;> omega)) (by first | assumption | (constructor <;> omega)) (hS3.rdN 1 rfl) (by first | assumption | (constructor <;> omega)) ) ?_
  rintro _ H5 ⟨hxx, rfl⟩
  have hS6 := hS3.ext hxx
  refine la (v := B (arrB v)) rfl rfl rfl ?_
  refine wpL_nil ?_
  refine wpF_ret ?_
  refine ⟨_, resT rfl resN, hS6.frame, ?_⟩
  show (B (arrB v)) = B (isV s v)
  exact congrArg B (by rw [isV, if_pos h7])
 refine wpF_skip ?_
 refine wpF_seq ?_
 refine fcr (fun f H => f 0 = I (s) ∧ f 3 = PT g1 0 ∧ f 35 = B (decide ((((0 < (v.Cells.length : Int)) ∨ (v.Rest ≠ 0)) ∨ ((((checkFr v.fr)).1) ≠ 0)) ∨ ((s ≠ 3) ∧ (v.VDen ≠ 1)))) ∧ St H0 NoB NoB [bE g1 #[I (v.VNum), I (v.VDen), vc, I (v.Rest)] 60, rdE vc v.Cells] H) ?_ ?_
 ·refine lq rfl (q_fieldAddr rfl Tryz.underlying60 rfl Tryz.sizeOf58 rfl) ?_
  refine lq rfl (q_loadBlk rfl rfl Tryz.isAgg58 (hS3.blk 0 rfl) rfl (fun h => h)) ?_
  refine lq rfl (q_lenRd rfl Tryz.underlying58 rfl (hS3.rdl 1 rfl)) ?_
  refine lq rfl (q_gtr rfl rfl rfl) ?_
  refine lm (v := B (decide (0 < (v.Cells.length : Int)))) rfl rfl rfl ?_
  by_cases hg8 : 0 < (v.Cells.length : Int)
  ·have hb9 := Eq.trans rfl (congrArg B (decide_eq_true hg8))
   refine wpL_gs rfl rfl rfl hb9 rfl ?_
   refine wpL_gs rfl rfl rfl hb9 rfl ?_
   refine wpL_gs rfl rfl rfl hb9 rfl ?_
   refine lq rfl (q_pickT (v := B (true)) rfl hb9 rfl) ?_
   refine lm (v := B (true)) rfl rfl rfl ?_
   refine wpL_gs rfl rfl rfl rfl rfl ?_
   refine wpL_gs rfl rfl rfl rfl rfl ?_
   refine wpL_gs rfl rfl rfl rfl rfl ?_
   refine wpL_gs rfl rfl rfl rfl rfl ?_
   refine wpL_gs rfl rfl rfl rfl rfl ?_
   refine lq rfl (q_pickT (v := B (true)) rfl rfl rfl) ?_
   refine lm (v := B (true)) rfl rfl rfl ?_
   refine wpL_gs rfl rfl rfl rfl rfl ?_
   refine wpL_gs rfl rfl rfl rfl rfl ?_
   refine wpL_gs rfl rfl rfl rfl rfl ?_
   refine wpL_gs' rfl rfl rfl rfl ?_
   refine wpL_gs' rfl rfl rfl rfl ?_
   refine wpL_gs' rfl rfl rfl rfl ?_
   refine wpL_gs' rfl rfl rfl rfl ?_
   refine wpL_gs rfl rfl rfl rfl rfl ?_
   refine lq rfl (q_pickT (v := B (true)) rfl rfl rfl) ?_
   exact ⟨y0, rfl, (Eq.trans rfl (congrArg B ((decide_eq_true (Or.inl (Or.inl (Or.inl hg8)))).symm))), hS3⟩
  ·have hb10 := Eq.trans rfl (congrArg B (decide_eq_false hg8))
   refine gq rfl rfl rfl hb10 (q_fieldAddr rfl Tryz.underlying60 rfl Tryz.sizeOf3 rfl) ?_
   refine gq rfl rfl rfl hb10 (q_loadBlk rfl rfl Tryz.isAgg3 (hS3.blk 0 rfl) rfl (fun h => h)) ?_
   refine gq rfl rfl rfl hb10 (q_neq rfl rfl rfl) ?_
   refine lq rfl (q_pickF (v := B (decide (v.Rest ≠ 0))) rfl hb10 rfl) ?_
   refine lm (v := B (decide (v.Rest ≠ 0))) rfl rfl rfl ?_
   by_cases hg11 : v.Rest ≠ 0
   ·have hb12 := Eq.trans rfl (congrArg B (decide_eq_true hg11))
    refine wpL_gs rfl rfl rfl hb12 rfl ?_
    refine wpL_gs rfl rfl rfl hb12 rfl ?_
    refine wpL_gs rfl rfl rfl hb12 rfl ?_
    refine wpL_gs rfl rfl rfl hb12 rfl ?_
    refine wpL_gs rfl rfl rfl hb12 rfl ?_
    refine lq rfl (q_pickT (v := B (true)) rfl hb12 rfl) ?_
    refine lm (v := B (true)) rfl rfl rfl ?_
    refine wpL_gs rfl rfl rfl rfl rfl ?_
    refine wpL_gs rfl rfl rfl rfl rfl ?_
    refine wpL_gs rfl rfl rfl rfl rfl ?_
    refine wpL_gs' rfl rfl rfl rfl ?_
    refine wpL_gs' rfl rfl rfl rfl ?_
    refine wpL_gs' rfl rfl rfl rfl ?_
    refine wpL_gs' rfl rfl rfl rfl ?_
    refine wpL_gs rfl rfl rfl rfl rfl ?_
    refine lq rfl (q_pickT (v := B (true)) rfl rfl rfl) ?_
    exact ⟨y0, rfl, (Eq.trans rfl (congrArg B ((decide_eq_true (Or.inl (Or.inl (Or.inr hg11)))).symm))), hS3⟩
   ·have hb13 := Eq.trans rfl (congrArg B (decide_eq_false hg11))
    refine gq rfl rfl rfl hb13 (q_fieldAddr rfl Tryz.underlying60 rfl Tryz.sizeOf57 rfl) ?_
    refine gq rfl rfl rfl hb13 (q_loadBlkP (ds := [I (v.VNum), I (v.VDen)]) rfl rfl Tryz.isAgg57 Tryz.sizeOf57 rfl rfl (hS3.blk 0 rfl) (fun h => h)) ?_
    refine wpL_go rfl rfl rfl hb13 ?_
    refine e_call rfl Tryz.call67 (arr1 (v0 := Vg #[I (v.VNum), I (v.VDen)]) rfl) (Check_F  v.fr (by first | assumption | (constructor <;> omega)) (by first | assumption | (constructor <;> omega)) ) ?_
    rintro _ H14 ⟨hxx, rfl⟩
    have hS15 := hS3.ext hxx
    refine gq rfl rfl rfl hb13 (q_field (cs := #[I (((checkFr v.fr)).1), I (((checkFr v.fr)).2)]) (v := I (((checkFr v.fr)).1)) rfl Tryz.underlying32 rfl Tryz.isAgg3 rfl rfl) ?_
    refine gq rfl rfl rfl hb13 (q_neq rfl rfl rfl) ?_
    refine lq rfl (q_pickF (v := B (decide ((((checkFr v.fr)).1) ≠ 0))) rfl hb13 rfl) ?_
    refine lm (v := B (decide ((((checkFr v.fr)).1) ≠ 0))) rfl rfl rfl ?_
    by_cases hg17 : (((checkFr v.fr)).1) ≠ 0
    ·have hb18 := Eq.trans rfl (congrArg B (decide_eq_true hg17))
     refine wpL_gs rfl rfl rfl hb18 rfl ?_
     refine wpL_gs rfl rfl rfl hb18 rfl ?_
     refine wpL_gs rfl rfl rfl hb18 rfl ?_
     refine wpL_gs' rfl rfl rfl rfl ?_
     refine wpL_gs' rfl rfl rfl rfl ?_
     refine wpL_gs' rfl rfl rfl rfl ?_
     refine wpL_gs' rfl rfl rfl rfl ?_
     refine wpL_gs rfl rfl rfl hb18 rfl ?_
     refine lq rfl (q_pickT (v := B (true)) rfl hb18 rfl) ?_
     exact ⟨y0, rfl, (Eq.trans rfl (congrArg B ((decide_eq_true (Or.inl (Or.inr hg17))).symm))), hS15⟩
    ·have hb19 := Eq.trans rfl (congrArg B (decide_eq_false hg17))
     refine gq rfl rfl rfl hb19 (q_move (v := I (s)) rfl y0) ?_
     refine gq rfl rfl rfl hb19 (q_neq rfl rfl rfl) ?_
     refine gq rfl rfl rfl hb19 (q_move (v := B (decide (s ≠ 3))) rfl rfl) ?_
     by_cases hg20 : s ≠ 3
     ·have hb21 := Eq.trans rfl (congrArg B (decide_eq_true hg20))
      refine gq rfl rfl rfl hb21 (q_fieldAddr rfl Tryz.underlying60 rfl Tryz.sizeOf57 rfl) ?_
      refine gq rfl rfl rfl hb21 (q_fieldAddr rfl Tryz.underlying57 rfl Tryz.sizeOf3 rfl) ?_
      refine gq rfl rfl rfl hb21 (q_loadBlk rfl rfl Tryz.isAgg3 (hS15.blk 0 rfl) rfl (fun h => h)) ?_
      refine gq rfl rfl rfl hb21 (q_neq rfl rfl rfl) ?_
      refine gq rfl rfl rfl hb19 (q_pickT (v := B (decide (v.VDen ≠ 1))) rfl hb21 rfl) ?_
      refine lq rfl (q_pickF (v := B (decide (v.VDen ≠ 1))) rfl hb19 rfl) ?_
      exact ⟨y0, rfl, (Eq.trans rfl (congrArg B (decide_congr_of ((Iff.rfl).trans (((or_iff_right (not_or.2 ⟨(not_or.2 ⟨hg8, hg11⟩), hg17⟩)).trans ((and_iff_right hg20).trans Iff.rfl))).symm)))), hS15⟩
     ·have hb22 := Eq.trans rfl (congrArg B (decide_eq_false hg20))
      refine wpL_gs rfl rfl rfl hb22 rfl ?_
      refine wpL_gs rfl rfl rfl hb22 rfl ?_
      refine wpL_gs rfl rfl rfl hb22 rfl ?_
      refine wpL_gs rfl rfl rfl hb22 rfl ?_
      refine gq rfl rfl rfl hb19 (q_pickF (v := B (false)) rfl hb22 rfl) ?_
      refine lq rfl (q_pickF (v := B (false)) rfl hb19 rfl) ?_
      exact ⟨y0, rfl, (Eq.trans rfl (congrArg B ((decide_eq_false (not_or.2 ⟨(not_or.2 ⟨(not_or.2 ⟨hg8, hg11⟩), hg17⟩), (fun h => hg20 h.1)⟩)).symm))), hS15⟩
 clear y0
 rintro f23 H23 ⟨y0, y3, y35, hS23⟩
 refine wpF_condP y35 (fun h35 => ?t45) (fun h35 => ?e45)
 case t45 =>
  have h35n : numBad s v := h35
  refine wpF_seq ?_
  refine wpF_region ?_
  refine la (v := B (false)) rfl rfl rfl ?_
  refine wpL_nil ?_
  refine wpF_ret ?_
  refine ⟨_, resT rfl resN, hS23.frame, ?_⟩
  show (B (false)) = B (isV s v)
  exact congrArg B (by rw [isV, if_neg h7, if_pos h35n])
 have h35n : ¬ numBad s v := h35
 refine wpF_skip ?_
 refine wpF_seq ?_
 refine wpF_seq ?_
 refine wpF_region ?_
 refine lq rfl (q_fieldAddr rfl Tryz.underlying60 rfl Tryz.sizeOf57 y3) ?_
 refine lq rfl (q_fieldAddr rfl Tryz.underlying57 rfl Tryz.sizeOf3 rfl) ?_
 refine lq rfl (q_loadBlk rfl rfl Tryz.isAgg3 (hS23.blk 0 rfl) rfl (fun h => h)) ?_
 refine la (v := I (v.VNum)) rfl rfl rfl ?_
 refine wpL_nil ?_
 refine wpF_block ?_
 refine wpF_seq ?_
 refine wpF_region ?_
 refine lm (v := I (s)) rfl rfl y0 ?_
 refine lq rfl (q_eql rfl rfl rfl) ?_
 refine la (v := B (decide (s = 1))) rfl rfl rfl ?_
 refine wpL_nil ?_
 refine wpF_condP rfl (fun h39 => ?t44) (fun h39 => ?e44)
 case t44 =>
  refine fcr (fun f H => f 4 = B (decide ((v.VNum = 0) ∨ (v.VNum = 1))) ∧ H23 = H) ?_ ?_
  ·refine lm (v := I (v.VNum)) rfl rfl rfl ?_
   refine lq rfl (q_eql rfl rfl rfl) ?_
   refine lm (v := B (decide (v.VNum = 0))) rfl rfl rfl ?_
   by_cases hg26 : v.VNum = 0
   ·have hb27 := Eq.trans rfl (congrArg B (decide_eq_true hg26))
    refine wpL_gs rfl rfl rfl hb27 rfl ?_
    refine wpL_gs rfl rfl rfl hb27 rfl ?_
    refine lq rfl (q_pickT (v := B (true)) rfl hb27 rfl) ?_
    refine la (v := B (true)) rfl rfl rfl ?_
    exact ⟨(Eq.trans rfl (congrArg B ((decide_eq_true (Or.inl hg26)).symm))), rfl⟩
   ·have hb28 := Eq.trans rfl (congrArg B (decide_eq_false hg26))
    refine gq rfl rfl rfl hb28 (q_move (v := I (v.VNum)) rfl rfl) ?_
    refine gq rfl rfl rfl hb28 (q_eql rfl rfl rfl) ?_
    refine lq rfl (q_pickF (v := B (decide (v.VNum = 1))) rfl hb28 rfl) ?_
    refine la (v := B (decide (v.VNum = 1))) rfl rfl rfl ?_
    exact ⟨(Eq.trans rfl (congrArg B (decide_congr_of ((Iff.rfl).trans (((or_iff_right hg26).trans Iff.rfl)).symm)))), rfl⟩
  clear y0
  rintro f29 _ ⟨y4, rfl⟩
  refine wpF_ret ?_
  refine ⟨_, resT y4 resN, hS23.frame, ?_⟩
  show (B (decide ((v.VNum = 0) ∨ (v.VNum = 1)))) = B (isV s v)
  exact congrArg B (by rw [isV, if_neg h7, if_neg h35n, if_pos h39])
 refine wpF_seq ?_
 refine wpF_region ?_
 refine lm (v := I (s)) rfl rfl y0 ?_
 refine lq rfl (q_eql rfl rfl rfl) ?_
 refine la (v := B (decide (s = 4))) rfl rfl rfl ?_
 refine wpL_nil ?_
 refine wpF_condP rfl (fun h48 => ?t43) (fun h48 => ?e43)
 case t43 =>
  refine wpF_seq ?_
  refine wpF_region ?_
  refine lm (v := I (v.VNum)) rfl rfl rfl ?_
  refine lo rfl ?_
  refine e_call rfl Tryz.call36 (arr1 (v0 := I (v.VNum)) rfl) (thing_M v.VNum) ?_
  rintro _ H31 ⟨hxx, rfl⟩
  have hS32 := hS23.ext hxx
  refine la (v := B (decide (thingS v.VNum))) rfl rfl rfl ?_
  refine wpL_nil ?_
  refine wpF_ret ?_
  refine ⟨_, resT rfl resN, hS32.frame, ?_⟩
  show (B (decide (thingS v.VNum))) = B (isV s v)
  exact congrArg B (by rw [isV, if_neg h7, if_neg h35n, if_neg h39, if_pos h48])
 refine wpF_seq ?_
 refine wpF_region ?_
 refine lm (v := I (s)) rfl rfl y0 ?_
 refine lo rfl ?_
 refine e_call rfl Tryz.call42 (arr1 (v0 := I (s)) rfl) (Word_L s) ?_
 rintro _ H34 ⟨hxx, rfl⟩
 have hS35 := hS23.ext hxx
 refine la (v := B (decide (wordS s))) rfl rfl rfl ?_
 refine wpL_nil ?_
 refine wpF_condP rfl (fun h53 => ?t42) (fun h53 => ?e42)
 case e42 =>
  refine wpF_skip ?_
  refine wpF_seq ?_
  refine wpF_region ?_
  refine la (v := B (true)) rfl rfl rfl ?_
  refine wpL_nil ?_
  refine wpF_ret ?_
  refine ⟨_, resT rfl resN, hS35.frame, ?_⟩
  show (B (true)) = B (isV s v)
  exact congrArg B (by rw [isV, if_neg h7, if_neg h35n, if_neg h39, if_neg h48, if_neg h53])
 refine fcr (fun f H => f 4 = B (decide ((0 ≤ v.VNum) ∧ (v.VNum < ((2 ^ ((s - 10).toNat) : Nat) : Int)))) ∧ H34 = H) ?_ ?_
 ·refine lm (v := I (v.VNum)) rfl rfl rfl ?_
  refine lq rfl (q_geq rfl rfl rfl) ?_
  refine lm (v := B (decide (0 ≤ v.VNum))) rfl rfl rfl ?_
  by_cases hg38 : 0 ≤ v.VNum
  ·have hb39 := Eq.trans rfl (congrArg B (decide_eq_true hg38))
   refine gq rfl rfl rfl hb39 (q_move (v := I (v.VNum)) rfl rfl) ?_
   refine gq rfl rfl rfl hb39 (q_move (v := I (s)) rfl y0) ?_
   refine gq rfl rfl rfl hb39 (q_sub rfl rfl rfl (by unfold wordS at h53; constructor <;> omega)) ?_
   refine gq rfl rfl rfl hb39 (q_shl1 rfl rfl rfl (by unfold wordS at h53; omega) (by unfold wordS at h53; omega)) ?_
   refine gq rfl rfl rfl hb39 (q_lss rfl rfl rfl) ?_
   refine lq rfl (q_pickT (v := B (decide (v.VNum < ((2 ^ ((s - 10).toNat) : Nat) : Int)))) rfl hb39 rfl) ?_
   refine la (v := B (decide (v.VNum < ((2 ^ ((s - 10).toNat) : Nat) : Int)))) rfl rfl rfl ?_
   exact ⟨(Eq.trans rfl (congrArg B (decide_congr_of ((Iff.rfl).trans (((and_iff_right hg38).trans Iff.rfl)).symm)))), rfl⟩
  ·have hb40 := Eq.trans rfl (congrArg B (decide_eq_false hg38))
   refine wpL_gs rfl rfl rfl hb40 rfl ?_
   refine wpL_gs rfl rfl rfl hb40 rfl ?_
   refine wpL_gs rfl rfl rfl hb40 rfl ?_
   refine wpL_gs rfl rfl rfl hb40 rfl ?_
   refine wpL_gs rfl rfl rfl hb40 rfl ?_
   refine lq rfl (q_pickF (v := B (false)) rfl hb40 rfl) ?_
   refine la (v := B (false)) rfl rfl rfl ?_
   exact ⟨(Eq.trans rfl (congrArg B ((decide_eq_false (fun h => hg38 h.1)).symm))), rfl⟩
 clear y0
 rintro f41 _ ⟨y4, rfl⟩
 refine wpF_ret ?_
 refine ⟨_, resT y4 resN, hS35.frame, ?_⟩
 show (B (decide ((0 ≤ v.VNum) ∧ (v.VNum < ((2 ^ ((s - 10).toNat) : Nat) : Int))))) = B (isV s v)
 exact congrArg B (by rw [isV, if_neg h7, if_neg h35n, if_neg h39, if_neg h48, if_pos h53])
set_option maxRecDepth 100000 in
theorem IndexFuncE {H0 : Heap} (vs vf : Value) (l : List Entry) (gp : Entry → Bool) (rs : Rd NoB H0 vs l) (hf : ∀ u x, x ∈ l → ∀ H, Ext NoB H0 H → Rd NoB H u x → FnH Tryz.prog vf #[u] H (fun rv H' => Ext NoB H H' ∧ rv = B (gp x))) : CallsH Tryz.prog 65 #[vs, vf] H0 (fun rv_ H' => Ext NoB H0 H' ∧ rv_ = I (idxOf gp l)) := by
 have hsm : l.length * 72 ≤ 140737488355328 := (Rd.list.1 rs).bound
 have hS0 : St H0 NoB NoB [rdE vs l] H0 := St.arg (St.start (fun _ h => h.elim)) (Bl0.nil) rs (fun _ h => h)
 refine callsH_of_wpF (args := [vs, vf]) (rs := [.tmp 4]) Tryz.func65 rfl Tryz.ntmps65 Tryz.results65 (by kernel_rfl) (Nat.le_of_ble_eq_true rfl) ?_
 have y0 : argF [vs, vf] 0 = vs := rfl
 have y1 : argF [vs, vf] 1 = vf := rfl
 generalize argF [vs, vf] = f0 at *
 refine wpF_seq ?_
 refine wpF_region ?_
 refine la (v := I (0)) rfl rfl rfl ?_
 refine wpL_nil ?_
 refine wpF_seq ?_
 refine wpF_seq ?_
 refine wpF_region ?_
 refine lm (v := vs) rfl rfl y0 ?_
 refine lq rfl (q_lenRd rfl Tryz.underlying55 rfl (hS0.rdl 0 rfl)) ?_
 refine lm (v := I (0)) rfl rfl rfl ?_
 refine wpL_nil ?_
 refine wpF_block ?_
 refine wpF_loop (fun mz f H => ∃ (k : Nat), mz = l.length - k ∧ (k ≤ l.length) ∧ (∀ j, j < k → gp (nth l j) = false) ∧ f 0 = vs ∧ f 1 = vf ∧ f 7 = I ((l.length : Int)) ∧ f 8 = I ((k : Int)) ∧ St H0 NoB NoB [rdE vs l] H) (l.length - 0) ?_ ?_
 ·exact ⟨0, rfl, Nat.zero_le _, (fun j hj => absurd hj (Nat.not_lt_zero j)), y0, y1, rfl, (Eq.trans rfl (congrArg I (by omega))), hS0⟩
 intro m1 f1 H1 hI1
 clear y0 y1
 obtain ⟨k, hm1, hk, hno, y0, y1, y7, y8, hS1⟩ := hI1
 refine wpF_seq ?_
 refine wpF_region ?_
 refine lq rfl (q_lss rfl y8 y7) ?_
 refine wpL_nil ?_
 refine wpF_seq ?_
 refine wpF_condP rfl (fun hlt => ?t11) (fun hlt => ?e11)
 case e11 =>
  refine wpF_exit ?_
  refine atX_here ?_
  refine wpF_seq ?_
  refine wpF_region ?_
  refine la (v := I (-1)) rfl rfl rfl ?_
  refine wpL_nil ?_
  refine wpF_ret ?_
  refine ⟨_, resT rfl resN, hS1.frame, ?_⟩
  show (I (-1)) = I (idxOf gp l)
  exact congrArg I (idxOf_no fun j hj => hno j (by omega)).symm
 refine wpF_skip ?_
 refine wpF_seq ?_
 refine wpF_block ?_
 refine wpF_seq ?_
 refine wpF_region ?_
 refine lm (v := I ((k : Int))) rfl rfl y8 ?_
 refine la (v := I ((k : Int))) rfl rfl rfl ?_
 refine wpL_nil ?_
 refine wpF_seq ?_
 refine wpF_region ?_
 refine lm (v := vf) rfl rfl y1 ?_
 refine lm (v := vs) rfl rfl y0 ?_
 refine lm (v := I ((k : Int))) rfl rfl rfl ?_
 refine lq rfl (q_indexRd (k := k) rfl Tryz.underlying55 el_Entry_65_MeanC2 rfl rfl (hS1.rdl 0 rfl) (by omega) (by omega)) ?_
 obtain ⟨u3, huu3, hlu3⟩ := (Rd.list.1 (hS1.rdS 0 rfl)).elem k (by omega)
 obtain ⟨u3n0, u3n3, rfl, hu30, hu31, hu32, hu33, hu34⟩ := Rd.entry.1 huu3
 have hS4 := hS1.rd hu30
 have hS5 : St H0 NoB NoB [rdE u3n3 ((nth l k).ECells), rdE u3n0 ((nth l k).Args), rdE vs l] H1 := hS4.rd (hu33.sub fun _ hb => SL_rd hb)
 refine lq rfl (q_loadE rfl rfl (hlu3 Tryz.prog 65 _ el_Entry_65_MeanC2 (fun _ h => False.elim h))) ?_
 refine lo rfl ?_
 refine e_callF rfl rfl (arr1 (v0 := Vg #[u3n0, I ((nth l k).ENum), I ((nth l k).EDen), u3n3, I ((nth l k).ERest)]) rfl) (hf _ _ (nth_mem (by omega)) _ hS5.frame (Rd.entry.2 ⟨_, _, rfl, (hS5.rdN 1 rfl), (by assumption), (by assumption), (hS5.rdN 0 rfl), (by assumption)⟩)) ?_
 rintro _ H6 ⟨hxx, rfl⟩
 have hS7 := hS5.ext hxx
 refine wpL_nil ?_
 refine wpF_cond rfl (fun hg => ?t10) (fun hg => ?e10)
 case e10 =>
  refine wpF_skip ?_
  refine wpF_region ?_
  refine lq rfl (q_add rfl y8 rfl (by constructor <;> omega)) ?_
  refine lm (v := I ((k : Int) + 1)) rfl rfl rfl ?_
  refine wpL_nil ?_
  refine ⟨_, ?_, k + 1, rfl, (by omega), (all_succ hno (by simpa using hg)), y0, y1, y7, (Eq.trans rfl (congrArg I (by omega))), (hS7.drop (sn (sn (sk (List.Sublist.slnil)))))⟩
  omega
 refine wpF_seq ?_
 refine wpF_region ?_
 refine lm (v := I ((k : Int))) rfl rfl rfl ?_
 refine la (v := I ((k : Int))) rfl rfl rfl ?_
 refine wpL_nil ?_
 refine wpF_ret ?_
 refine ⟨_, resT rfl resN, hS7.frame, ?_⟩
 show (I ((k : Int))) = I (idxOf gp l)
 exact congrArg I (idxOf_at (by omega) hno (by simpa using hg)).symm
set_option maxRecDepth 100000 in
theorem ContainsFuncE {H0 : Heap} (vs vf : Value) (l : List Entry) (gp : Entry → Bool) (rs : Rd NoB H0 vs l) (hf : ∀ u x, x ∈ l → ∀ H, Ext NoB H0 H → Rd NoB H u x → FnH Tryz.prog vf #[u] H (fun rv H' => Ext NoB H H' ∧ rv = B (gp x))) : CallsH Tryz.prog 32 #[vs, vf] H0 (fun rv_ H' => Ext NoB H0 H' ∧ rv_ = B (l.any gp)) := by
 have hS0 : St H0 NoB NoB [rdE vs l] H0 := St.arg (St.start (fun _ h => h.elim)) (Bl0.nil) rs (fun _ h => h)
 refine callsH_of_wpF (args := [vs, vf]) (rs := [.tmp 4]) Tryz.func32 rfl Tryz.ntmps32 Tryz.results32 (by kernel_rfl) (Nat.le_of_ble_eq_true rfl) ?_
 have y0 : argF [vs, vf] 0 = vs := rfl
 have y1 : argF [vs, vf] 1 = vf := rfl
 generalize argF [vs, vf] = f0 at *
 refine wpF_seq ?_
 refine wpF_region ?_
 refine la (v := B (false)) rfl rfl rfl ?_
 refine wpL_nil ?_
 refine wpF_seq ?_
 refine wpF_region ?_
 refine lm (v := vs) rfl rfl y0 ?_
 refine lm (v := vf) rfl rfl y1 ?_
 refine lo rfl ?_
 refine e_call rfl Tryz.call65 (arr2 (v0 := vs) (v1 := vf) rfl rfl) (IndexFuncE vs vf l gp (hS0.rdN 0 rfl) (fun u x hx H hE hr => hf u x hx H (hS0.frame.trans hE) hr)) ?_
 rintro _ H1 ⟨hxx, rfl⟩
 have hS2 := hS0.ext hxx
 refine lq rfl (q_geq rfl rfl rfl) ?_
 refine la (v := B (decide (0 ≤ (idxOf gp l)))) rfl rfl rfl ?_
 refine wpL_nil ?_
 refine wpF_ret ?_
 refine ⟨_, resT rfl resN, hS2.frame, ?_⟩
 show (B (decide (0 ≤ (idxOf gp l)))) = B (l.any gp)
 exact congrArg B (bool_congr_of idxOf_any.symm).symm
set_option maxRecDepth 100000 in
theorem chkM_1 {H0 : Heap} (va vc : Value) (gx : Nat) (vA : Value) (e : Entry) (d : Decl) (rva : Rd NoB H0 va e.Args) (h6eENum : In64 e.ENum) (h6eEDen : In64 e.EDen) (rvc : Rd NoB H0 vc e.ECells) (h6eERest : In64 e.ERest) (hb : H0[gx]? = some (.cells #[SB d.Name, vA, I d.Srt] 43)) (rA : Rd NoB H0 vA d.Args) : CallsH Tryz.prog 33 #[Vg #[va, I (e.ENum), I (e.EDen), vc, I (e.ERest)], PT gx 0] H0 (fun rv_ H' => Ext NoB H0 H' ∧ rv_ = B (decide ((e.Args.length : Int) ≠ (d.Args.length : Int)))) := by
 have hS0 : St H0 NoB NoB [fixE gx (.cells #[SB (d.Name), vA, I (d.Srt)] 43), rdE va e.Args, rdE vc e.ECells, rdE vA d.Args] H0 := St.argFix (St.arg (St.arg (St.arg (St.start (fun _ h => h.elim)) (Bl0.nil) rA (fun _ h => h)) (Bl0.cons (Bl0.nil)) rvc (fun _ h => h)) (Bl0.cons (Bl0.cons (Bl0.nil))) rva (fun _ h => h)) (Bl0.cons (Bl0.cons (Bl0.cons (Bl0.nil)))) hb (fun h => h)
 refine callsH_of_wpF (args := [Vg #[va, I (e.ENum), I (e.EDen), vc, I (e.ERest)], PT gx 0]) (rs := [.tmp 3]) Tryz.func33 rfl Tryz.ntmps33 Tryz.results33 (by kernel_rfl) (Nat.le_of_ble_eq_true rfl) ?_
 have y0 : argF [Vg #[va, I (e.ENum), I (e.EDen), vc, I (e.ERest)], PT gx 0] 0 = Vg #[va, I (e.ENum), I (e.EDen), vc, I (e.ERest)] := rfl
 have y1 : argF [Vg #[va, I (e.ENum), I (e.EDen), vc, I (e.ERest)], PT gx 0] 1 = PT gx 0 := rfl
 generalize argF [Vg #[va, I (e.ENum), I (e.EDen), vc, I (e.ERest)], PT gx 0] = f0 at *
 refine wpF_seq ?_
 refine wpF_region ?_
 refine lo rfl ?_
 refine e_box (v := Vg #[va, I (e.ENum), I (e.EDen), vc, I (e.ERest)]) rfl y0 hS0 (fun g1 H2 hS3 hxx => ?_)
 refine la (v := B (false)) rfl rfl rfl ?_
 refine wpL_nil ?_
 refine wpF_seq ?_
 refine wpF_region ?_
 refine lq rfl (q_fieldAddr rfl Tryz.underlying65 rfl Tryz.sizeOf24 rfl) ?_
 refine lq rfl (q_loadBlk rfl rfl Tryz.isAgg24 (hS3.blk 0 rfl) rfl (fun h => h)) ?_
 refine lq rfl (q_lenRd rfl Tryz.underlying24 rfl (hS3.rdl 2 rfl)) ?_
 refine lq rfl (q_fieldAddr rfl Tryz.underlying43 rfl Tryz.sizeOf24 y1) ?_
 refine lq rfl (q_loadBlk rfl rfl Tryz.isAgg24 (hS3.fixd 1 rfl) rfl (fun h => h)) ?_
 refine lq rfl (q_lenRd rfl Tryz.underlying24 rfl (hS3.rdl 4 rfl)) ?_
 refine lq rfl (q_neq rfl rfl rfl) ?_
 refine la (v := B (decide ((e.Args.length : Int) ≠ (d.Args.length : Int)))) rfl rfl rfl ?_
 refine wpL_nil ?_
 refine wpF_ret ?_
 refine ⟨_, resT rfl resN, hS3.frame, ?_⟩
 show (B (decide ((e.Args.length : Int) ≠ (d.Args.length : Int)))) = B (decide ((e.Args.length : Int) ≠ (d.Args.length : Int)))
 rfl
set_option maxRecDepth 100000 in
theorem chkM_21 {H0 : Heap} (n : Int)  : CallsH Tryz.prog 35 #[I (n)] H0 (fun rv_ H' => Ext NoB H0 H' ∧ rv_ = B (decide (¬ thingS n))) := by
 have hS0 : St H0 NoB NoB [] H0 := St.start (fun _ h => h.elim)
 refine callsH_of_wpF (args := [I (n)]) (rs := [.tmp 2]) Tryz.func35 rfl Tryz.ntmps35 Tryz.results35 (by kernel_rfl) (Nat.le_of_ble_eq_true rfl) ?_
 have y0 : argF [I (n)] 0 = I (n) := rfl
 generalize argF [I (n)] = f0 at *
 refine wpF_seq ?_
 refine wpF_region ?_
 refine la (v := B (false)) rfl rfl rfl ?_
 refine wpL_nil ?_
 refine wpF_seq ?_
 refine wpF_region ?_
 refine lm (v := I (n)) rfl rfl y0 ?_
 refine lo rfl ?_
 refine e_call rfl Tryz.call36 (arr1 (v0 := I (n)) rfl) (thing_M n) ?_
 rintro _ H1 ⟨hxx, rfl⟩
 have hS2 := hS0.ext hxx
 refine lq rfl (q_notP rfl rfl) ?_
 refine la (v := B (decide (¬ (thingS n)))) rfl rfl rfl ?_
 refine wpL_nil ?_
 refine wpF_ret ?_
 refine ⟨_, resT rfl resN, hS2.frame, ?_⟩
 show (B (decide (¬ (thingS n)))) = B (decide (¬ thingS n))
 rfl
set_option maxRecDepth 100000 in
theorem chkM_2 {H0 : Heap} (va vc : Value) (e : Entry) (rva : Rd NoB H0 va e.Args) (h6eENum : In64 e.ENum) (h6eEDen : In64 e.EDen) (rvc : Rd NoB H0 vc e.ECells) (h6eERest : In64 e.ERest) : CallsH Tryz.prog 34 #[Vg #[va, I (e.ENum), I (e.EDen), vc, I (e.ERest)]] H0 (fun rv_ H' => Ext NoB H0 H' ∧ rv_ = B (e.Args.any fun n => decide (¬ thingS n))) := by
 have hS0 : St H0 NoB NoB [rdE va e.Args, rdE vc e.ECells] H0 := St.arg (St.arg (St.start (fun _ h => h.elim)) (Bl0.nil) rvc (fun _ h => h)) (Bl0.cons (Bl0.nil)) rva (fun _ h => h)
 refine callsH_of_wpF (args := [Vg #[va, I (e.ENum), I (e.EDen), vc, I (e.ERest)]]) (rs := [.tmp 2]) Tryz.func34 rfl Tryz.ntmps34 Tryz.results34 (by kernel_rfl) (Nat.le_of_ble_eq_true rfl) ?_
 have y0 : argF [Vg #[va, I (e.ENum), I (e.EDen), vc, I (e.ERest)]] 0 = Vg #[va, I (e.ENum), I (e.EDen), vc, I (e.ERest)] := rfl
 generalize argF [Vg #[va, I (e.ENum), I (e.EDen), vc, I (e.ERest)]] = f0 at *
 refine wpF_seq ?_
 refine wpF_region ?_
 refine lo rfl ?_
 refine e_box (v := Vg #[va, I (e.ENum), I (e.EDen), vc, I (e.ERest)]) rfl y0 hS0 (fun g1 H2 hS3 hxx => ?_)
 refine la (v := B (false)) rfl rfl rfl ?_
 refine wpL_nil ?_
 refine wpF_seq ?_
 refine wpF_region ?_
 refine lq rfl (q_fieldAddr rfl Tryz.underlying65 rfl Tryz.sizeOf24 rfl) ?_
 refine lq rfl (q_loadBlk rfl rfl Tryz.isAgg24 (hS3.blk 0 rfl) rfl (fun h => h)) ?_
 refine lo rfl ?_
 refine e_call rfl Tryz.call23 (arr2 (v0 := va) (v1 := Value.func (.func 35) #[] #[]) rfl rfl) (ContainsFunc va (Value.func (.func 35) #[] #[]) e.Args (fun n => decide (¬ thingS n)) (hS3.rdN 1 rfl) (fun x hx H hE => ⟨_, _, rfl, Tryz.call35, chkM_21 x⟩)) ?_
 rintro _ H4 ⟨hxx, rfl⟩
 have hS5 := hS3.ext hxx
 refine la (v := B (e.Args.any (fun n => decide (¬ thingS n)))) rfl rfl rfl ?_
 refine wpL_nil ?_
 refine wpF_ret ?_
 refine ⟨_, resT rfl resN, hS5.frame, ?_⟩
 show (B (e.Args.any (fun n => decide (¬ thingS n)))) = B (e.Args.any fun n => decide (¬ thingS n))
 rfl
set_option maxRecDepth 100000 in
theorem chkM_3 {H0 : Heap} (va vc : Value) (gx : Nat) (v0 c1 c2 c3 c4 : Value) (x : Entry) (l : List Int) (rva : Rd NoB H0 va x.Args) (h6xENum : In64 x.ENum) (h6xEDen : In64 x.EDen) (rvc : Rd NoB H0 vc x.ECells) (h6xERest : In64 x.ERest) (hb : H0[gx]? = some (.cells #[v0, c1, c2, c3, c4] 65)) (r0 : Rd NoB H0 v0 l) : CallsH Tryz.prog 37 #[Vg #[va, I (x.ENum), I (x.EDen), vc, I (x.ERest)], PT gx 0] H0 (fun rv_ H' => Ext NoB H0 H' ∧ rv_ = B (decide (x.Args = l))) := by
 have hS0 : St H0 NoB NoB [fixE gx (.cells #[v0, c1, c2, c3, c4] 65), rdE va x.Args, rdE vc x.ECells, rdE v0 l] H0 := St.argFix (St.arg (St.arg (St.arg (St.start (fun _ h => h.elim)) (Bl0.nil) r0 (fun _ h => h)) (Bl0.cons (Bl0.nil)) rvc (fun _ h => h)) (Bl0.cons (Bl0.cons (Bl0.nil))) rva (fun _ h => h)) (Bl0.cons (Bl0.cons (Bl0.cons (Bl0.nil)))) hb (fun h => h)
 refine callsH_of_wpF (args := [Vg #[va, I (x.ENum), I (x.EDen), vc, I (x.ERest)], PT gx 0]) (rs := [.tmp 3]) Tryz.func37 rfl Tryz.ntmps37 Tryz.results37 (by kernel_rfl) (Nat.le_of_ble_eq_true rfl) ?_
 have y0 : argF [Vg #[va, I (x.ENum), I (x.EDen), vc, I (x.ERest)], PT gx 0] 0 = Vg #[va, I (x.ENum), I (x.EDen), vc, I (x.ERest)] := rfl
 have y1 : argF [Vg #[va, I (x.ENum), I (x.EDen), vc, I (x.ERest)], PT gx 0] 1 = PT gx 0 := rfl
 generalize argF [Vg #[va, I (x.ENum), I (x.EDen), vc, I (x.ERest)], PT gx 0] = f0 at *
 refine wpF_seq ?_
 refine wpF_region ?_
 refine lo rfl ?_
 refine e_box (v := Vg #[va, I (x.ENum), I (x.EDen), vc, I (x.ERest)]) rfl y0 hS0 (fun g1 H2 hS3 hxx => ?_)
 refine la (v := B (false)) rfl rfl rfl ?_
 refine wpL_nil ?_
 refine wpF_seq ?_
 refine wpF_region ?_
 refine lq rfl (q_fieldAddr rfl Tryz.underlying65 rfl Tryz.sizeOf24 rfl) ?_
 refine lq rfl (q_loadBlk rfl rfl Tryz.isAgg24 (hS3.blk 0 rfl) rfl (fun h => h)) ?_
 refine lq rfl (q_fieldAddr rfl Tryz.underlying65 rfl Tryz.sizeOf24 y1) ?_
 refine lq rfl (q_loadBlk rfl rfl Tryz.isAgg24 (hS3.fixd 1 rfl) rfl (fun h => h)) ?_
 refine lo rfl ?_
 refine e_call rfl Tryz.call38 (arr2 (v0 := va) (v1 := v0) rfl rfl) (Equal va v0 _ _ (hS3.rdN 2 rfl) (hS3.rdN 4 rfl)) ?_
 rintro _ H4 ⟨hxx, rfl⟩
 have hS5 := hS3.ext hxx
 refine la (v := B (decide (x.Args = l))) rfl rfl rfl ?_
 refine wpL_nil ?_
 refine wpF_ret ?_
 refine ⟨_, resT rfl resN, hS5.frame, ?_⟩
 show (B (decide (x.Args = l))) = B (decide (x.Args = l))
 rfl
set_option maxRecDepth 100000 in
theorem chkM_4 {H0 : Heap} (va vc : Value) (gx : Nat) (vA : Value) (e : Entry) (d : Decl) (rva : Rd NoB H0 va e.Args) (h6eENum : In64 e.ENum) (h6eEDen : In64 e.EDen) (rvc : Rd NoB H0 vc e.ECells) (h6eERest : In64 e.ERest) (hb : H0[gx]? = some (.cells #[SB d.Name, vA, I d.Srt] 43)) (rA : Rd NoB H0 vA d.Args) : CallsH Tryz.prog 40 #[Vg #[va, I (e.ENum), I (e.EDen), vc, I (e.ERest)], PT gx 0] H0 (fun rv_ H' => Ext NoB H0 H' ∧ rv_ = B (!isV d.Srt e.to)) := by
 have hS0 : St H0 NoB NoB [fixE gx (.cells #[SB (d.Name), vA, I (d.Srt)] 43), rdE va e.Args, rdE vc e.ECells, rdE vA d.Args] H0 := St.argFix (St.arg (St.arg (St.arg (St.start (fun _ h => h.elim)) (Bl0.nil) rA (fun _ h => h)) (Bl0.cons (Bl0.nil)) rvc (fun _ h => h)) (Bl0.cons (Bl0.cons (Bl0.nil))) rva (fun _ h => h)) (Bl0.cons (Bl0.cons (Bl0.cons (Bl0.nil)))) hb (fun h => h)
 refine callsH_of_wpF (args := [Vg #[va, I (e.ENum), I (e.EDen), vc, I (e.ERest)], PT gx 0]) (rs := [.tmp 3]) Tryz.func40 rfl Tryz.ntmps40 Tryz.results40 (by kernel_rfl) (Nat.le_of_ble_eq_true rfl) ?_
 have y0 : argF [Vg #[va, I (e.ENum), I (e.EDen), vc, I (e.ERest)], PT gx 0] 0 = Vg #[va, I (e.ENum), I (e.EDen), vc, I (e.ERest)] := rfl
 have y1 : argF [Vg #[va, I (e.ENum), I (e.EDen), vc, I (e.ERest)], PT gx 0] 1 = PT gx 0 := rfl
 generalize argF [Vg #[va, I (e.ENum), I (e.EDen), vc, I (e.ERest)], PT gx 0] = f0 at *
 refine wpF_seq ?_
 refine wpF_region ?_
 refine lo rfl ?_
 refine e_box (v := Vg #[va, I (e.ENum), I (e.EDen), vc, I (e.ERest)]) rfl y0 hS0 (fun g1 H2 hS3 hxx => ?_)
 refine la (v := B (false)) rfl rfl rfl ?_
 refine wpL_nil ?_
 refine wpF_seq ?_
 refine wpF_region ?_
 refine lq rfl (q_fieldAddr rfl Tryz.underlying43 rfl Tryz.sizeOf3 y1) ?_
 refine lq rfl (q_loadBlk rfl rfl Tryz.isAgg3 (hS3.fixd 1 rfl) rfl (fun h => h)) ?_
 refine lq rfl (q_fieldAddr rfl Tryz.underlying65 rfl Tryz.sizeOf60 rfl) ?_
 refine lq rfl (q_loadBlkP (ds := [I (e.ENum), I (e.EDen), vc, I (e.ERest)]) rfl rfl Tryz.isAgg60 Tryz.sizeOf60 rfl rfl (hS3.blk 0 rfl) (fun h => h)) ?_
 refine lo rfl ?_
 refine e_call rfl Tryz.call39 (arr2 (v0 := I (d.Srt)) (v1 := Vg #[I (e.ENum), I (e.EDen), vc, I (e.ERest)]) rfl rfl) (Is_M vc d.Srt e.to (by first | assumption | (constructor <;> omega)) (by first | assumption | (constructor <;> omega)) (hS3.rdN 3 rfl) (by first | assumption | (constructor <;> omega)) ) ?_
 rintro _ H4 ⟨hxx, rfl⟩
 have hS5 := hS3.ext hxx
 refine lq rfl (q_not rfl rfl) ?_
 refine la (v := B (!(isV d.Srt e.to))) rfl rfl rfl ?_
 refine wpL_nil ?_
 refine wpF_ret ?_
 refine ⟨_, resT rfl resN, hS5.frame, ?_⟩
 show (B (!(isV d.Srt e.to))) = B (!isV d.Srt e.to)
 rfl
set_option maxHeartbeats 1000000 in
set_option maxRecDepth 100000 in
theorem checkMeaning_M {H0 : Heap} (vA vr vc : Value) (d : Decl) (m : Meaning) (h6dName : d.Name.size ≤ maxLen) (rvA : Rd NoB H0 vA d.Args) (h6dSrt : In64 d.Srt) (rvr : Rd NoB H0 vr m.Rows) (h6mMNum : In64 m.MNum) (h6mMDen : In64 m.MDen) (rvc : Rd NoB H0 vc m.MCells) (h6mMRest : In64 m.MRest) : CallsH Tryz.prog 21 #[Vg #[SB (d.Name), vA, I (d.Srt)], Vg #[vr, I (m.MNum), I (m.MDen), vc, I (m.MRest)]] H0 (fun rv_ H' => Ext NoB H0 H' ∧ rv_ = I (codeM d m)) := by
 have hsr : m.Rows.length * 72 ≤ 140737488355328 := (Rd.list.1 rvr).bound
 have hS0 : St H0 NoB NoB [rdE vA d.Args, rdE vr m.Rows, rdE vc m.MCells] H0 := St.arg (St.arg (St.arg (St.start (fun _ h => h.elim)) (Bl0.nil) rvc (fun _ h => h)) (Bl0.cons (Bl0.nil)) rvr (fun _ h => h)) (Bl0.cons (Bl0.cons (Bl0.nil))) rvA (fun _ h => h)
 refine callsH_of_wpF (args := [Vg #[SB (d.Name), vA, I (d.Srt)], Vg #[vr, I (m.MNum), I (m.MDen), vc, I (m.MRest)]]) (rs := [.tmp 4]) Tryz.func21 rfl Tryz.ntmps21 Tryz.results21 (by kernel_rfl) (Nat.le_of_ble_eq_true rfl) ?_
 have y0 : argF [Vg #[SB (d.Name), vA, I (d.Srt)], Vg #[vr, I (m.MNum), I (m.MDen), vc, I (m.MRest)]] 0 = Vg #[SB (d.Name), vA, I (d.Srt)] := rfl
 have y1 : argF [Vg #[SB (d.Name), vA, I (d.Srt)], Vg #[vr, I (m.MNum), I (m.MDen), vc, I (m.MRest)]] 1 = Vg #[vr, I (m.MNum), I (m.MDen), vc, I (m.MRest)] := rfl
 generalize argF [Vg #[SB (d.Name), vA, I (d.Srt)], Vg #[vr, I (m.MNum), I (m.MDen), vc, I (m.MRest)]] = f0 at *
 refine wpF_seq ?_
 refine wpF_region ?_
 refine lo rfl ?_
 refine e_box (v := Vg #[SB (d.Name), vA, I (d.Srt)]) rfl y0 hS0 (fun g1 H2 hS3 hxx => ?_)
 refine lo rfl ?_
 refine e_box (v := Vg #[vr, I (m.MNum), I (m.MDen), vc, I (m.MRest)]) rfl y1 hS3 (fun g4 H5 hS6 hxx => ?_)
 refine la (v := I (0)) rfl rfl rfl ?_
 refine wpL_nil ?_
 refine wpF_seq ?_
 refine fcr (fun f H => f 2 = PT g1 0 ∧ f 3 = PT g4 0 ∧ f 16 = B (decide ((1000 < (m.Rows.length : Int)) ∨ ((m.Rows.any (fun e => decide ((e.Args.length : Int) ≠ (d.Args.length : Int)))) = true))) ∧ St H0 NoB NoB [bE g4 #[vr, I (m.MNum), I (m.MDen), vc, I (m.MRest)] 62, bE g1 #[SB (d.Name), vA, I (d.Srt)] 43, rdE vA d.Args, rdE vr m.Rows, rdE vc m.MCells] H) ?_ ?_
 ·refine lq rfl (q_fieldAddr rfl Tryz.underlying62 rfl Tryz.sizeOf55 rfl) ?_
  refine lq rfl (q_loadBlk rfl rfl Tryz.isAgg55 (hS6.blk 0 rfl) rfl (fun h => h)) ?_
  refine lq rfl (q_lenRd rfl Tryz.underlying55 rfl (hS6.rdl 3 rfl)) ?_
  refine lq rfl (q_gtr rfl rfl rfl) ?_
  refine lm (v := B (decide (1000 < (m.Rows.length : Int)))) rfl rfl rfl ?_
  by_cases hg7 : 1000 < (m.Rows.length : Int)
  ·have hb8 := Eq.trans rfl (congrArg B (decide_eq_true hg7))
   refine wpL_gs rfl rfl rfl hb8 rfl ?_
   refine wpL_gs rfl rfl rfl hb8 rfl ?_
   refine wpL_gs rfl rfl rfl hb8 rfl ?_
   refine wpL_gs rfl rfl rfl hb8 rfl ?_
   refine lq rfl (q_pickT (v := B (true)) rfl hb8 rfl) ?_
   exact ⟨rfl, rfl, (Eq.trans rfl (congrArg B ((decide_eq_true (Or.inl hg7)).symm))), hS6⟩
  ·have hb9 := Eq.trans rfl (congrArg B (decide_eq_false hg7))
   refine gq rfl rfl rfl hb9 (q_fieldAddr rfl Tryz.underlying62 rfl Tryz.sizeOf55 rfl) ?_
   refine gq rfl rfl rfl hb9 (q_loadBlk rfl rfl Tryz.isAgg55 (hS6.blk 0 rfl) rfl (fun h => h)) ?_
   refine gq rfl rfl rfl hb9 (q_makeFunc (fi' := #[]) rfl (by simp) (arr1 (v0 := PT g1 0) rfl)) ?_
   refine wpL_go rfl rfl rfl hb9 ?_
   refine e_call rfl Tryz.call32 (arr2 (v0 := vr) (v1 := Value.func (.func 33) #[] #[PT g1 0]) rfl rfl) (ContainsFuncE vr (Value.func (.func 33) #[] #[PT g1 0]) m.Rows (fun e => decide ((e.Args.length : Int) ≠ (d.Args.length : Int))) (hS6.rdN 3 rfl) (fun u x hx H hE hr => by obtain ⟨_, _, rfl, he1, he2, he3, he4, he5⟩ := Rd.entry.1 hr; exact ⟨_, _, rfl, Tryz.call33, chkM_1 _ _ g1 vA x d he1 he2 he3 he4 he5 (hE.blk (hS6.blk 1 rfl)) ((hS6.rdN 2 rfl).extN hE)⟩)) ?_
   rintro _ H10 ⟨hxx, rfl⟩
   have hS11 := hS6.ext hxx
   refine lq rfl (q_pickF (v := B (m.Rows.any (fun e => decide ((e.Args.length : Int) ≠ (d.Args.length : Int))))) rfl hb9 rfl) ?_
   exact ⟨rfl, rfl, (Eq.trans rfl (congrArg B (bool_congr_of ((Iff.rfl).trans (((or_iff_right hg7).trans Iff.rfl)).symm)))), hS11⟩
 rintro f13 H13 ⟨y2, y3, y16, hS13⟩
 refine wpF_condP y16 (fun h16 => ?t49) (fun h16 => ?e49)
 case t49 =>
  refine wpF_seq ?_
  refine wpF_region ?_
  refine la (v := I (9)) rfl rfl rfl ?_
  refine wpL_nil ?_
  refine wpF_ret ?_
  refine ⟨_, resT rfl resN, hS13.frame, ?_⟩
  show (I (9)) = I (codeM d m)
  exact congrArg I (codeM_size h16).symm
 refine wpF_skip ?_
 refine wpF_seq ?_
 refine wpF_seq ?_
 refine wpF_region ?_
 refine lq rfl (q_fieldAddr rfl Tryz.underlying62 rfl Tryz.sizeOf55 y3) ?_
 refine lq rfl (q_loadBlk rfl rfl Tryz.isAgg55 (hS13.blk 0 rfl) rfl (fun h => h)) ?_
 refine lo rfl ?_
 refine e_call rfl Tryz.call32 (arr2 (v0 := vr) (v1 := Value.func (.func 34) #[] #[]) rfl rfl) (ContainsFuncE vr (Value.func (.func 34) #[] #[]) m.Rows (fun e => e.Args.any fun n => decide (¬ thingS n)) (hS13.rdN 3 rfl) (fun u x hx H hE hr => by obtain ⟨_, _, rfl, he1, he2, he3, he4, he5⟩ := Rd.entry.1 hr; exact ⟨_, _, rfl, Tryz.call34, chkM_2 _ _ x he1 he2 he3 he4 he5⟩)) ?_
 rintro _ H15 ⟨hxx, rfl⟩
 have hS16 := hS13.ext hxx
 refine wpL_nil ?_
 refine wpF_cond rfl (fun h19 => ?t48) (fun h19 => ?e48)
 case t48 =>
  refine wpF_seq ?_
  refine wpF_region ?_
  refine la (v := I (3)) rfl rfl rfl ?_
  refine wpL_nil ?_
  refine wpF_ret ?_
  refine ⟨_, resT rfl resN, hS16.frame, ?_⟩
  show (I (3)) = I (codeM d m)
  exact congrArg I (codeM_range h16 h19).symm
 refine wpF_skip ?_
 refine wpF_seq ?_
 refine wpF_seq ?_
 refine wpF_region ?_
 refine lq rfl (q_fieldAddr rfl Tryz.underlying62 rfl Tryz.sizeOf55 y3) ?_
 refine lq rfl (q_loadBlk rfl rfl Tryz.isAgg55 (hS16.blk 0 rfl) rfl (fun h => h)) ?_
 refine lq rfl (q_lenRd rfl Tryz.underlying55 rfl (hS16.rdl 3 rfl)) ?_
 refine lm (v := I (0)) rfl rfl rfl ?_
 refine wpL_nil ?_
 refine wpF_block ?_
 refine wpF_loop (fun mz f H => ∃ (k : Nat), mz = m.Rows.length - k ∧ (k ≤ m.Rows.length) ∧ (∀ i, i < k → ((m.Rows.take i).any fun x => decide (x.Args = (nth m.Rows i).Args)) = false) ∧ f 2 = PT g1 0 ∧ f 3 = PT g4 0 ∧ f 21 = vr ∧ f 22 = I ((m.Rows.length : Int)) ∧ f 23 = I ((k : Int)) ∧ St H0 NoB NoB [bE g4 #[vr, I (m.MNum), I (m.MDen), vc, I (m.MRest)] 62, bE g1 #[SB (d.Name), vA, I (d.Srt)] 43, rdE vA d.Args, rdE vr m.Rows, rdE vc m.MCells] H) (m.Rows.length - 0) ?_ ?_
 ·exact ⟨0, rfl, Nat.zero_le _, (fun j hj => absurd hj (Nat.not_lt_zero j)), y2, y3, rfl, rfl, (Eq.trans rfl (congrArg I (by omega))), hS16⟩
 intro m19 f19 H19 hI19
 clear y2 y3
 obtain ⟨k, hm19, hk, hp, y2, y3, y21, y22, y23, hS19⟩ := hI19
 refine wpF_seq ?_
 refine wpF_region ?_
 refine lq rfl (q_lss rfl y23 y22) ?_
 refine wpL_nil ?_
 refine wpF_seq ?_
 refine wpF_condP rfl (fun hlt => ?t47) (fun hlt => ?e47)
 case t47 =>
  refine wpF_skip ?_
  refine wpF_seq ?_
  refine wpF_block ?_
  refine wpF_seq ?_
  refine wpF_region ?_
  refine lm (v := I ((k : Int))) rfl rfl y23 ?_
  refine lq rfl (q_indexRd (k := k) rfl Tryz.underlying55 el_Entry_65_MeanC2 y21 y23 (hS19.rdl 3 rfl) (by omega) (by omega)) ?_
  obtain ⟨u21, huu21, hlu21⟩ := (Rd.list.1 (hS19.rdS 3 rfl)).elem k (by omega)
  obtain ⟨u21n0, u21n3, rfl, hu210, hu211, hu212, hu213, hu214⟩ := Rd.entry.1 huu21
  have hS22 := hS19.rd hu210
  have hS23 : St H0 NoB NoB [rdE u21n3 ((nth m.Rows k).ECells), rdE u21n0 ((nth m.Rows k).Args), bE g4 #[vr, I (m.MNum), I (m.MDen), vc, I (m.MRest)] 62, bE g1 #[SB (d.Name), vA, I (d.Srt)] 43, rdE vA d.Args, rdE vr m.Rows, rdE vc m.MCells] H19 := hS22.rd (hu213.sub fun _ hb => SL_rd hb)
  refine lq rfl (q_loadE rfl rfl (hlu21 Tryz.prog 65 _ el_Entry_65_MeanC2 (fun _ h => False.elim h))) ?_
  refine lo rfl ?_
  refine e_alloc rfl Tryz.zeroValue65 hS23 (fun g24 H25 hS26 hxx => ?_)
  refine la (v := I ((k : Int))) rfl rfl rfl ?_
  refine lo rfl ?_
  refine e_storeBlkA (cs' := #[u21n0, I ((nth m.Rows k).ENum), I ((nth m.Rows k).EDen), u21n3, I ((nth m.Rows k).ERest)]) rfl rfl rfl Tryz.sizeOf65 rfl rfl (fa ((oneCell_rdL (hS26.rdl 2 rfl))) (fa rfl (fa rfl (fa ((oneCell_rdL (hS26.rdl 1 rfl))) (fa rfl fe))))) hS26 (fun H27 hS28 hxx => ?_)
  refine wpL_nil ?_
  refine wpF_seq ?_
  refine wpF_region ?_
  refine lq rfl (q_fieldAddr rfl Tryz.underlying62 rfl Tryz.sizeOf55 y3) ?_
  refine lq rfl (q_loadBlk rfl rfl Tryz.isAgg55 (hS28.blk 3 rfl) rfl (fun h => h)) ?_
  refine lm (v := I ((k : Int))) rfl rfl rfl ?_
  have hS29 : St H0 NoB NoB [rdE (sliceV 5 vr 0 k) (m.Rows.take k : List Entry), bE g24 #[u21n0, I ((nth m.Rows k).ENum), I ((nth m.Rows k).EDen), u21n3, I ((nth m.Rows k).ERest)] 65, rdE u21n3 ((nth m.Rows k).ECells), rdE u21n0 ((nth m.Rows k).Args), bE g4 #[vr, I (m.MNum), I (m.MDen), vc, I (m.MRest)] 62, bE g1 #[SB (d.Name), vA, I (d.Srt)] 43, rdE vA d.Args, rdE vr m.Rows, rdE vc m.MCells] H27 := hS28.rd (Rd.list.2 (sliceV_hi (m := k) (Rd.list.1 (hS28.rdS 6 rfl)) (by omega)))
  refine lq rfl (q_sliceRd (k := 0) (m := k) rfl Tryz.underlying55 el_Entry_65_MeanC2 rfl (hS28.rdl 6 rfl) lo0 (lo1 rfl (by omega)) (by omega) (by omega)) ?_
  refine lq rfl (q_makeFunc (fi' := #[]) rfl (by simp) (arr1 (v0 := PT g24 0) rfl)) ?_
  refine lo rfl ?_
  refine e_call rfl Tryz.call32 (arr2 (v0 := (sliceV 5 vr 0 k)) (v1 := Value.func (.func 37) #[] #[PT g24 0]) rfl rfl) (ContainsFuncE ((sliceV 5 vr 0 k)) (Value.func (.func 37) #[] #[PT g24 0]) (m.Rows.take k) (fun x => decide (x.Args = ((nth m.Rows k).Args))) (hS29.rdN 0 rfl) (fun u x hx H hE hr => by obtain ⟨_, _, rfl, he1, he2, he3, he4, he5⟩ := Rd.entry.1 hr; exact ⟨_, _, rfl, Tryz.call37, chkM_3 _ _ g24 u21n0 (I ((nth m.Rows k).ENum)) (I ((nth m.Rows k).EDen)) u21n3 (I ((nth m.Rows k).ERest)) x ((nth m.Rows k).Args) he1 he2 he3 he4 he5 (hE.blk (hS29.blk 1 rfl)) ((hS29.rdN 3 rfl).extN hE)⟩)) ?_
  rintro _ H30 ⟨hxx, rfl⟩
  have hS31 := hS29.ext hxx
  refine wpL_nil ?_
  refine wpF_cond rfl (fun h33 => ?t34) (fun h33 => ?e34)
  case e34 =>
   refine wpF_skip ?_
   refine wpF_region ?_
   refine lq rfl (q_add rfl y23 rfl (by constructor <;> omega)) ?_
   refine lm (v := I ((k : Int) + 1)) rfl rfl rfl ?_
   refine wpL_nil ?_
   refine ⟨_, ?_, k + 1, rfl, (by omega), (all_succ hp h33), y2, y3, y21, y22, (Eq.trans rfl (congrArg I (by omega))), (hS31.drop (sn (sn (sn (sn (sk (sk (sk (sk (sk (List.Sublist.slnil)))))))))))⟩
   omega
  refine wpF_seq ?_
  refine wpF_region ?_
  refine la (v := I (7)) rfl rfl rfl ?_
  refine wpL_nil ?_
  refine wpF_ret ?_
  refine ⟨_, resT rfl resN, hS31.frame, ?_⟩
  show (I (7)) = I (codeM d m)
  exact congrArg I (codeM_twice h16 h19 (by omega) h33).symm
 refine wpF_exit ?_
 refine atX_here ?_
 refine wpF_seq ?_
 refine fcr (fun f H => f 46 = B (decide (((!(isV d.Srt m.rest)) = true) ∨ ((m.Rows.any (fun e => !isV d.Srt e.to)) = true))) ∧ St H0 NoB NoB [bE g4 #[vr, I (m.MNum), I (m.MDen), vc, I (m.MRest)] 62, bE g1 #[SB (d.Name), vA, I (d.Srt)] 43, rdE vA d.Args, rdE vr m.Rows, rdE vc m.MCells] H) ?_ ?_
 ·refine lq rfl (q_fieldAddr rfl Tryz.underlying43 rfl Tryz.sizeOf3 y2) ?_
  refine lq rfl (q_loadBlk rfl rfl Tryz.isAgg3 (hS19.blk 1 rfl) rfl (fun h => h)) ?_
  refine lq rfl (q_fieldAddr rfl Tryz.underlying62 rfl Tryz.sizeOf60 y3) ?_
  refine lq rfl (q_loadBlkP (ds := [I (m.MNum), I (m.MDen), vc, I (m.MRest)]) rfl rfl Tryz.isAgg60 Tryz.sizeOf60 rfl rfl (hS19.blk 0 rfl) (fun h => h)) ?_
  refine lo rfl ?_
  refine e_call rfl Tryz.call39 (arr2 (v0 := I (d.Srt)) (v1 := Vg #[I (m.MNum), I (m.MDen), vc, I (m.MRest)]) rfl rfl) (Is_M vc d.Srt m.rest (by first | assumption | (constructor <;> omega)) (by first | assumption | (constructor <;> omega)) (hS19.rdN 4 rfl) (by first | assumption | (constructor <;> omega)) ) ?_
  rintro _ H35 ⟨hxx, rfl⟩
  have hS36 := hS19.ext hxx
  refine lq rfl (q_not rfl rfl) ?_
  refine lm (v := B (!(isV d.Srt m.rest))) rfl rfl rfl ?_
  by_cases hg38 : (!(isV d.Srt m.rest)) = true
  ·have hb39 := Eq.trans rfl (congrArg B hg38)
   refine wpL_gs rfl rfl rfl hb39 rfl ?_
   refine wpL_gs rfl rfl rfl hb39 rfl ?_
   refine wpL_gs rfl rfl rfl hb39 rfl ?_
   refine wpL_gs rfl rfl rfl hb39 rfl ?_
   refine lq rfl (q_pickT (v := B (true)) rfl hb39 rfl) ?_
   exact ⟨(Eq.trans rfl (congrArg B ((decide_eq_true (Or.inl hg38)).symm))), hS36⟩
  ·have hb40 := Eq.trans rfl (congrArg B (Bool.eq_false_iff.2 hg38))
   refine gq rfl rfl rfl hb40 (q_fieldAddr rfl Tryz.underlying62 rfl Tryz.sizeOf55 y3) ?_
   refine gq rfl rfl rfl hb40 (q_loadBlk rfl rfl Tryz.isAgg55 (hS36.blk 0 rfl) rfl (fun h => h)) ?_
   refine gq rfl rfl rfl hb40 (q_makeFunc (fi' := #[]) rfl (by simp) (arr1 (v0 := PT g1 0) y2)) ?_
   refine wpL_go rfl rfl rfl hb40 ?_
   refine e_call rfl Tryz.call32 (arr2 (v0 := vr) (v1 := Value.func (.func 40) #[] #[PT g1 0]) rfl rfl) (ContainsFuncE vr (Value.func (.func 40) #[] #[PT g1 0]) m.Rows (fun e => !isV d.Srt e.to) (hS36.rdN 3 rfl) (fun u x hx H hE hr => by obtain ⟨_, _, rfl, he1, he2, he3, he4, he5⟩ := Rd.entry.1 hr; exact ⟨_, _, rfl, Tryz.call40, chkM_4 _ _ g1 vA x d he1 he2 he3 he4 he5 (hE.blk (hS36.blk 1 rfl)) ((hS36.rdN 2 rfl).extN hE)⟩)) ?_
   rintro _ H41 ⟨hxx, rfl⟩
   have hS42 := hS36.ext hxx
   refine lq rfl (q_pickF (v := B (m.Rows.any (fun e => !isV d.Srt e.to))) rfl hb40 rfl) ?_
   exact ⟨(Eq.trans rfl (congrArg B (bool_congr_of ((Iff.rfl).trans (((or_iff_right hg38).trans Iff.rfl)).symm)))), hS42⟩
 clear y2 y21 y22 y23 y3
 rintro f44 H44 ⟨y46, hS44⟩
 refine wpF_condP y46 (fun h46 => ?t46) (fun h46 => ?e46)
 case t46 =>
  refine wpF_seq ?_
  refine wpF_region ?_
  refine la (v := I (8)) rfl rfl rfl ?_
  refine wpL_nil ?_
  refine wpF_ret ?_
  refine ⟨_, resT rfl resN, hS44.frame, ?_⟩
  show (I (8)) = I (codeM d m)
  exact congrArg I (codeM_sort h16 h19 (fun i hi => hp i (by omega)) (by simpa using h46)).symm
 refine wpF_skip ?_
 refine wpF_seq ?_
 refine wpF_region ?_
 refine la (v := I (0)) rfl rfl rfl ?_
 refine wpL_nil ?_
 refine wpF_ret ?_
 refine ⟨_, resT rfl resN, hS44.frame, ?_⟩
 show (I (0)) = I (codeM d m)
 exact congrArg I (codeM_ok h16 h19 (fun i hi => hp i (by omega)) (by simpa using h46)).symm
set_option maxRecDepth 100000 in
theorem Check_A {H0 : Heap} (vD vN vH : Value) (a : Ask) (rvD : Rd NoB H0 vD a.Decls) (rvN : Rd NoB H0 vN a.Nodes) (rvH : Rd NoB H0 vH a.Hold) : CallsH Tryz.prog 20 #[Vg #[vD, vN, vH]] H0 (fun rv_ H' => Ext NoB H0 H' ∧ rv_ = Vg #[I ((sortsF a)).1, I ((sortsF a)).2]) := by
 have hS0 : St H0 NoB NoB [rdE vD a.Decls, rdE vN a.Nodes, rdE vH a.Hold] H0 := St.arg (St.arg (St.arg (St.start (fun _ h => h.elim)) (Bl0.nil) rvH (fun _ h => h)) (Bl0.cons (Bl0.nil)) rvN (fun _ h => h)) (Bl0.cons (Bl0.cons (Bl0.nil))) rvD (fun _ h => h)
 refine callsH_of_wpF (args := [Vg #[vD, vN, vH]]) (rs := [.cell 2 32]) Tryz.func20 rfl Tryz.ntmps20 Tryz.results20 (by kernel_rfl) (Nat.le_of_ble_eq_true rfl) ?_
 have y0 : argF [Vg #[vD, vN, vH]] 0 = Vg #[vD, vN, vH] := rfl
 generalize argF [Vg #[vD, vN, vH]] = f0 at *
 refine wpF_seq ?_
 refine wpF_region ?_
 refine lo rfl ?_
 refine e_box (v := Vg #[vD, vN, vH]) rfl y0 hS0 (fun g1 H2 hS3 hxx => ?_)
 refine lo rfl ?_
 refine e_alloc rfl Tryz.zeroValue32 hS3 (fun g4 H5 hS6 hxx => ?_)
 refine wpL_nil ?_
 refine wpF_seq ?_
 refine wpF_region ?_
 refine lq rfl (q_loadBlkA rfl rfl Tryz.isAgg26 Tryz.sizeOf26 rfl (hS6.blk 1 rfl) (fun h => h)) ?_
 refine lo rfl ?_
 refine e_call rfl Tryz.call12 (arr1 (v0 := Vg #[vD, vN, vH]) rfl) (Sorts_L vD vN vH a (hS6.rdS 2 rfl) (hS6.rdS 3 rfl) (hS6.rdS 4 rfl) ) ?_
 rintro _ H8 ⟨hxx, r7, rfl, hrr7⟩
 have hS9 := hS6.res hxx hrr7
 refine lm (v := Value.tuple #[r7, Vg #[I (((sortsF a)).1), I (((sortsF a)).2)]]) rfl rfl rfl ?_
 refine lq rfl (q_extract (vs := #[r7, Vg #[I (((sortsF a)).1), I (((sortsF a)).2)]]) (v := r7) rfl rfl rfl) ?_
 refine lq rfl (q_extract (vs := #[r7, Vg #[I (((sortsF a)).1), I (((sortsF a)).2)]]) (v := Vg #[I (((sortsF a)).1), I (((sortsF a)).2)]) rfl rfl rfl) ?_
 refine lo rfl ?_
 refine e_alloc rfl Tryz.zeroValue32 hS9 (fun g11 H12 hS13 hxx => ?_)
 refine la (v := r7) rfl rfl rfl ?_
 refine lo rfl ?_
 refine e_storeBlkA (cs' := #[I (((sortsF a)).1), I (((sortsF a)).2)]) rfl rfl rfl Tryz.sizeOf32 rfl rfl (fa rfl (fa rfl fe)) hS13 (fun H14 hS15 hxx => ?_)
 refine wpL_nil ?_
 refine wpF_seq ?_
 refine wpF_region ?_
 refine lq rfl (q_loadBlkA rfl rfl Tryz.isAgg32 Tryz.sizeOf32 rfl (hS15.blk 0 rfl) (fun h => h)) ?_
 refine lo rfl ?_
 refine e_storeBlkA (cs' := #[I (((sortsF a)).1), I (((sortsF a)).2)]) rfl rfl rfl Tryz.sizeOf32 rfl rfl (fa rfl (fa rfl fe)) (hS15.front 2 rfl) (fun H16 hS17 hxx => ?_)
 refine wpL_nil ?_
 refine wpF_ret ?_
 refine ⟨_, resC rfl (loadV_blkA Tryz.isAgg32 Tryz.sizeOf32 rfl (hS17.blk 0 rfl)) (resN), hS17.frame, ?_⟩
 show (Vg #[I (((sortsF a)).1), I (((sortsF a)).2)]) = Vg #[I ((sortsF a)).1, I ((sortsF a)).2]
 rfl
set_option maxHeartbeats 1000000 in
set_option maxRecDepth 100000 in
theorem Check_M {H0 : Heap} (vD vN vH vM : Value) (a : Ask) (w : Wld) (rvD : Rd NoB H0 vD a.Decls) (rvN : Rd NoB H0 vN a.Nodes) (rvH : Rd NoB H0 vH a.Hold) (rvM : Rd NoB H0 vM w.Means) : CallsH Tryz.prog 7 #[Vg #[vD, vN, vH], Vg #[vM]] H0 (fun rv_ H' => Ext NoB H0 H' ∧ rv_ = Vg #[I ((meanF a w)).1, I ((meanF a w)).2]) := by
 have hsD : a.Decls.length * 48 ≤ 140737488355328 := (Rd.list.1 rvD).bound
 have hsN : a.Nodes.length * 64 ≤ 140737488355328 := (Rd.list.1 rvN).bound
 have hsM : w.Means.length * 72 ≤ 140737488355328 := (Rd.list.1 rvM).bound
 have hS0 : St H0 NoB NoB [rdE vD a.Decls, rdE vN a.Nodes, rdE vH a.Hold, rdE vM w.Means] H0 := St.arg (St.arg (St.arg (St.arg (St.start (fun _ h => h.elim)) (Bl0.nil) rvM (fun _ h => h)) (Bl0.cons (Bl0.nil)) rvH (fun _ h => h)) (Bl0.cons (Bl0.cons (Bl0.nil))) rvN (fun _ h => h)) (Bl0.cons (Bl0.cons (Bl0.cons (Bl0.nil)))) rvD (fun _ h => h)
 refine callsH_of_wpF (args := [Vg #[vD, vN, vH], Vg #[vM]]) (rs := [.cell 4 32]) Tryz.func7 rfl Tryz.ntmps7 Tryz.results7 (by kernel_rfl) (Nat.le_of_ble_eq_true rfl) ?_
 have y0 : argF [Vg #[vD, vN, vH], Vg #[vM]] 0 = Vg #[vD, vN, vH] := rfl
 have y1 : argF [Vg #[vD, vN, vH], Vg #[vM]] 1 = Vg #[vM] := rfl
 generalize argF [Vg #[vD, vN, vH], Vg #[vM]] = f0 at *
 refine wpF_seq ?_
 refine wpF_region ?_
 refine lo rfl ?_
 refine e_box (v := Vg #[vD, vN, vH]) rfl y0 hS0 (fun g1 H2 hS3 hxx => ?_)
 refine lo rfl ?_
 refine e_box (v := Vg #[vM]) rfl y1 hS3 (fun g4 H5 hS6 hxx => ?_)
 refine lo rfl ?_
 refine e_alloc rfl Tryz.zeroValue32 hS6 (fun g7 H8 hS9 hxx => ?_)
 refine wpL_nil ?_
 refine wpF_seq ?_
 refine wpF_seq ?_
 refine wpF_region ?_
 refine lq rfl (q_loadBlkA rfl rfl Tryz.isAgg26 Tryz.sizeOf26 rfl (hS9.blk 2 rfl) (fun h => h)) ?_
 refine lo rfl ?_
 refine e_call rfl Tryz.call20 (arr1 (v0 := Vg #[vD, vN, vH]) rfl) (Check_A vD vN vH a (hS9.rdN 3 rfl) (hS9.rdN 4 rfl) (hS9.rdN 5 rfl) ) ?_
 rintro _ H10 ⟨hxx, rfl⟩
 have hS11 := hS9.ext hxx
 refine lo rfl ?_
 refine e_alloc rfl Tryz.zeroValue32 hS11 (fun g13 H14 hS15 hxx => ?_)
 refine lo rfl ?_
 refine e_storeBlkA (cs' := #[I (((sortsF a)).1), I (((sortsF a)).2)]) rfl rfl rfl Tryz.sizeOf32 rfl rfl (fa rfl (fa rfl fe)) hS15 (fun H16 hS17 hxx => ?_)
 refine wpL_nil ?_
 refine wpF_seq ?_
 refine wpF_region ?_
 refine lq rfl (q_fieldAddr rfl Tryz.underlying32 rfl Tryz.sizeOf3 rfl) ?_
 refine lq rfl (q_loadBlk rfl rfl Tryz.isAgg3 (hS17.blk 0 rfl) rfl (fun h => h)) ?_
 refine lq rfl (q_neq rfl rfl rfl) ?_
 refine wpL_nil ?_
 refine wpF_condP rfl (fun h13 => ?t42) (fun h13 => ?e42)
 case t42 =>
  refine wpF_seq ?_
  refine wpF_region ?_
  refine lq rfl (q_loadBlkA rfl rfl Tryz.isAgg32 Tryz.sizeOf32 rfl (hS17.blk 0 rfl) (fun h => h)) ?_
  refine lo rfl ?_
  refine e_storeBlkA (cs' := #[I (((sortsF a)).1), I (((sortsF a)).2)]) rfl rfl rfl Tryz.sizeOf32 rfl rfl (fa rfl (fa rfl fe)) (hS17.front 1 rfl) (fun H19 hS20 hxx => ?_)
  refine wpL_nil ?_
  refine wpF_ret ?_
  refine ⟨_, resC rfl (loadV_blkA Tryz.isAgg32 Tryz.sizeOf32 rfl (hS20.blk 0 rfl)) (resN), hS20.frame, ?_⟩
  show (Vg #[I (((sortsF a)).1), I (((sortsF a)).2)]) = Vg #[I ((meanF a w)).1, I ((meanF a w)).2]
  have hq := meanF_sort (w := w) h13
  rw [hq]
 refine wpF_skip ?_
 refine wpF_seq ?_
 refine wpF_seq ?_
 refine wpF_region ?_
 refine lq rfl (q_fieldAddr rfl Tryz.underlying29 rfl Tryz.sizeOf27 rfl) ?_
 refine lq rfl (q_loadBlk rfl rfl Tryz.isAgg27 (hS17.blk 2 rfl) rfl (fun h => h)) ?_
 refine lq rfl (q_lenRd rfl Tryz.underlying27 rfl (hS17.rdl 7 rfl)) ?_
 refine lq rfl (q_fieldAddr rfl Tryz.underlying26 rfl Tryz.sizeOf22 rfl) ?_
 refine lq rfl (q_loadBlk rfl rfl Tryz.isAgg22 (hS17.blk 3 rfl) rfl (fun h => h)) ?_
 refine lq rfl (q_lenRd rfl Tryz.underlying22 rfl (hS17.rdl 4 rfl)) ?_
 refine lq rfl (q_neq rfl rfl rfl) ?_
 refine wpL_nil ?_
 refine wpF_condP rfl (fun h21 => ?t41) (fun h21 => ?e41)
 case t41 =>
  refine wpF_seq ?_
  refine wpF_region ?_
  refine lq rfl (q_build (v := Vg #[I (9), I (0)]) rfl (par1 (v0 := I (9)) rfl) (fun w__ => by kernel_rfl)) ?_
  refine lo rfl ?_
  refine e_storeBlkA (cs' := #[I (9), I (0)]) rfl rfl rfl Tryz.sizeOf32 rfl rfl (fa rfl (fa rfl fe)) (hS17.front 1 rfl) (fun H22 hS23 hxx => ?_)
  refine wpL_nil ?_
  refine wpF_ret ?_
  refine ⟨_, resC rfl (loadV_blkA Tryz.isAgg32 Tryz.sizeOf32 rfl (hS23.blk 0 rfl)) (resN), hS23.frame, ?_⟩
  show (Vg #[I (9), I (0)]) = Vg #[I ((meanF a w)).1, I ((meanF a w)).2]
  have hq := meanF_size h13 h21
  rw [hq]
 refine wpF_skip ?_
 refine wpF_seq ?_
 refine wpF_seq ?_
 refine wpF_region ?_
 refine lq rfl (q_fieldAddr rfl Tryz.underlying26 rfl Tryz.sizeOf22 rfl) ?_
 refine lq rfl (q_loadBlk rfl rfl Tryz.isAgg22 (hS17.blk 3 rfl) rfl (fun h => h)) ?_
 refine lq rfl (q_lenRd rfl Tryz.underlying22 rfl (hS17.rdl 4 rfl)) ?_
 refine lm (v := I (0)) rfl rfl rfl ?_
 refine wpL_nil ?_
 refine wpF_block ?_
 refine wpF_loop (fun mz f H => ∃ (k : Nat), mz = a.Decls.length - k ∧ (k ≤ a.Decls.length) ∧ (∀ j, j < k → codeM (nth a.Decls j) (nth w.Means j) = 0) ∧ f 3 = PT g4 0 ∧ f 4 = PT g7 0 ∧ f 24 = vD ∧ f 25 = I ((a.Decls.length : Int)) ∧ f 26 = I ((k : Int)) ∧ St H0 NoB NoB [bE g13 #[I (((sortsF a)).1), I (((sortsF a)).2)] 32, bE g7 #[I (0), I (0)] 32, bE g4 #[vM] 29, bE g1 #[vD, vN, vH] 26, rdE vD a.Decls, rdE vN a.Nodes, rdE vH a.Hold, rdE vM w.Means] H) (a.Decls.length - 0) ?_ ?_
 ·exact ⟨0, rfl, Nat.zero_le _, (fun j hj => absurd hj (Nat.not_lt_zero j)), rfl, rfl, rfl, rfl, (Eq.trans rfl (congrArg I (by omega))), hS17⟩
 intro m24 f24 H24 hI24
 obtain ⟨k, hm24, hk, hp, y3, y4, y24, y25, y26, hS24⟩ := hI24
 refine wpF_seq ?_
 refine wpF_region ?_
 refine lq rfl (q_lss rfl y26 y25) ?_
 refine wpL_nil ?_
 refine wpF_seq ?_
 refine wpF_condP rfl (fun hlt => ?t40) (fun hlt => ?e40)
 case e40 =>
  refine wpF_exit ?_
  refine atX_here ?_
  refine wpF_seq ?_
  refine wpF_region ?_
  refine lq rfl (q_build (v := Vg #[I (0), I (0)]) rfl par0 (fun w__ => by kernel_rfl)) ?_
  refine lo rfl ?_
  refine e_storeBlkA (cs' := #[I (0), I (0)]) rfl y4 rfl Tryz.sizeOf32 rfl rfl (fa rfl (fa rfl fe)) (hS24.front 1 rfl) (fun H38 hS39 hxx => ?_)
  refine wpL_nil ?_
  refine wpF_ret ?_
  refine ⟨_, resC y4 (loadV_blkA Tryz.isAgg32 Tryz.sizeOf32 rfl (hS39.blk 0 rfl)) (resN), hS39.frame, ?_⟩
  show (Vg #[I (0), I (0)]) = Vg #[I ((meanF a w)).1, I ((meanF a w)).2]
  have hq := meanF_ok h13 h21 fun j hj => hp j (by omega)
  rw [hq]
 refine wpF_skip ?_
 refine wpF_seq ?_
 refine wpF_block ?_
 refine wpF_seq ?_
 refine wpF_region ?_
 refine lm (v := I ((k : Int))) rfl rfl y26 ?_
 refine lq rfl (q_indexRd (k := k) rfl Tryz.underlying22 el_Decl_43_MeanC2 y24 y26 (hS24.rdl 4 rfl) (by omega) (by omega)) ?_
 obtain ⟨u26, huu26, hlu26⟩ := (Rd.list.1 (hS24.rdS 4 rfl)).elem k (by omega)
 obtain ⟨u26n1, rfl, hu260, hu261, hu262⟩ := Rd.decl.1 huu26
 have hS27 := hS24.rd hu261
 refine lq rfl (q_loadE rfl rfl (hlu26 Tryz.prog 43 _ el_Decl_43_MeanC2 (fun _ h => False.elim h))) ?_
 refine lo rfl ?_
 refine e_alloc rfl Tryz.zeroValue43 hS27 (fun g28 H29 hS30 hxx => ?_)
 refine la (v := I ((k : Int))) rfl rfl rfl ?_
 refine lo rfl ?_
 refine e_storeBlkA (cs' := #[SB ((nth a.Decls k).Name), u26n1, I ((nth a.Decls k).Srt)]) rfl rfl rfl Tryz.sizeOf43 rfl rfl (fa rfl (fa ((oneCell_rdL (hS30.rdl 1 rfl))) (fa rfl fe))) hS30 (fun H31 hS32 hxx => ?_)
 refine wpL_nil ?_
 refine wpF_seq ?_
 refine wpF_drawn [] [] (fun _ _ => False) (by kernel_rfl) (by kernel_rfl) ?_
 refine rq 0 (by kernel_rfl) rfl rfl (q_loadBlkA rfl rfl Tryz.isAgg43 Tryz.sizeOf43 rfl (hS32.blk 0 rfl) (labU_not [] rfl (fe))) ?_
 refine rq 1 (by kernel_rfl) rfl rfl (q_fieldAddr rfl Tryz.underlying29 rfl Tryz.sizeOf27 y3) ?_
 refine rq 2 (by kernel_rfl) rfl rfl (q_loadBlk rfl rfl Tryz.isAgg27 (hS32.blk 4 rfl) rfl (labU_not [] rfl (fe))) ?_
 refine rq 3 (by kernel_rfl) rfl rfl (q_move (v := I ((k : Int))) rfl rfl) ?_
 refine rq 4 (by kernel_rfl) rfl rfl (q_indexRd (k := k) rfl Tryz.underlying27 el_Meaning_62_MeanC2 rfl rfl (hS32.rdl 9 rfl) (by omega) (by omega)) ?_
 obtain ⟨u33o5, huu33o5, hlu33o5⟩ := (Rd.list.1 (hS32.rdS 9 rfl)).elem k (by omega)
 obtain ⟨u33o5n0, u33o5n3, rfl, hu33o50, hu33o51, hu33o52, hu33o53, hu33o54⟩ := Rd.meaning.1 huu33o5
 have hS33o5 := hS32.rd hu33o50
 have hS33o5x2 : St H0 NoB NoB [rdE u33o5n3 ((nth w.Means k).MCells), rdE u33o5n0 ((nth w.Means k).Rows), bE g28 #[SB ((nth a.Decls k).Name), u26n1, I ((nth a.Decls k).Srt)] 43, rdE u26n1 ((nth a.Decls k).Args), bE g13 #[I (((sortsF a)).1), I (((sortsF a)).2)] 32, bE g7 #[I (0), I (0)] 32, bE g4 #[vM] 29, bE g1 #[vD, vN, vH] 26, rdE vD a.Decls, rdE vN a.Nodes, rdE vH a.Hold, rdE vM w.Means] H31 := hS33o5.rd (hu33o53.sub fun _ hb => SL_rd hb)
 refine rq 5 (by kernel_rfl) rfl rfl (q_loadE rfl rfl (hlu33o5 Tryz.prog 62 _ el_Meaning_62_MeanC2 (labU_sub [] rfl (fe)))) ?_
 refine wpR_n [6] (by kernel_rfl) ?_
 refine fa ?_ fe
 refine exE rfl rfl ?_
 refine e_call rfl Tryz.call21 (arr2 (v0 := Vg #[SB ((nth a.Decls k).Name), u26n1, I ((nth a.Decls k).Srt)]) (v1 := Vg #[u33o5n0, I ((nth w.Means k).MNum), I ((nth w.Means k).MDen), u33o5n3, I ((nth w.Means k).MRest)]) rfl rfl) (checkMeaning_M u26n1 u33o5n0 u33o5n3 (nth a.Decls k) (nth w.Means k) (by first | assumption | exact Nat.zero_le _) (hS33o5x2.rdN 3 rfl) (by first | assumption | (constructor <;> omega)) (hS33o5x2.rdN 1 rfl) (by first | assumption | (constructor <;> omega)) (by first | assumption | (constructor <;> omega)) (hS33o5x2.rdN 0 rfl) (by first | assumption | (constructor <;> omega)) ) ?_
 rintro _ H33o6 ⟨hxx, rfl⟩
 have hS33o6 := hS33o5x2.ext hxx
 refine ⟨Ext.mono hxx (fun _ h => h.elim), ?_⟩
 refine rq 7 (by kernel_rfl) rfl rfl (q_assign (v := I (((codeM (nth a.Decls k) (nth w.Means k))))) rfl rfl) ?_
 refine wpR_end (by kernel_rfl) ?_
 skip
 refine wpF_seq ?_
 refine wpF_region ?_
 refine lm (v := I (((codeM (nth a.Decls k) (nth w.Means k))))) rfl rfl rfl ?_
 refine lq rfl (q_neq rfl rfl rfl) ?_
 refine wpL_nil ?_
 refine wpF_condP rfl (fun h39 => ?t37) (fun h39 => ?e37)
 case e37 =>
  refine wpF_skip ?_
  refine wpF_region ?_
  refine lq rfl (q_add rfl y26 rfl (by constructor <;> omega)) ?_
  refine lm (v := I ((k : Int) + 1)) rfl rfl rfl ?_
  refine wpL_nil ?_
  refine ⟨_, ?_, k + 1, rfl, (by omega), (all_succ hp (Decidable.of_not_not h39)), y3, y4, y24, y25, (Eq.trans rfl (congrArg I (by omega))), (hS33o6.drop (sn (sn (sn (sn (sk (sk (sk (sk (sk (sk (sk (sk (List.Sublist.slnil))))))))))))))⟩
  omega
 refine wpF_seq ?_
 refine wpF_region ?_
 refine lm (v := I (((codeM (nth a.Decls k) (nth w.Means k))))) rfl rfl rfl ?_
 refine lm (v := I ((k : Int))) rfl rfl rfl ?_
 refine lq rfl (q_build (v := Vg #[I (((codeM (nth a.Decls k) (nth w.Means k)))), I ((k : Int))]) rfl (par2 (v0 := I (((codeM (nth a.Decls k) (nth w.Means k))))) (v1 := I ((k : Int))) rfl rfl) (fun w__ => by kernel_rfl)) ?_
 refine lo rfl ?_
 refine e_storeBlkA (cs' := #[I (((codeM (nth a.Decls k) (nth w.Means k)))), I ((k : Int))]) rfl y4 rfl Tryz.sizeOf32 rfl rfl (fa rfl (fa rfl fe)) (hS33o6.front 5 rfl) (fun H35 hS36 hxx => ?_)
 refine wpL_nil ?_
 refine wpF_ret ?_
 refine ⟨_, resC y4 (loadV_blkA Tryz.isAgg32 Tryz.sizeOf32 rfl (hS36.blk 0 rfl)) (resN), hS36.frame, ?_⟩
 show (Vg #[I (((codeM (nth a.Decls k) (nth w.Means k)))), I ((k : Int))]) = Vg #[I ((meanF a w)).1, I ((meanF a w)).2]
 have hq := meanF_at h13 h21 (by omega) hp h39
 rw [hq]
end Go.Um
