import Derived.Test.YtacphjgolmolmaaGreatProg
import Derived.Test.YtacphjgolmolmaaGreatMeanC3Z
import Derived.Test.YtacphjgolmolmaaGreatUmArrUpC
namespace Go.Um
open Go.Proofs
open GoT (sz ag rdc)
open KeyT (kv)
theorem el_Meaning_62_MeanC4 : ElT Tryz.prog Meaning 62 := ⟨Tryz.isAgg62, Tryz.sizeOf62⟩
theorem el_Val_60_MeanC4 : ElT Tryz.prog Val 60 := ⟨Tryz.isAgg60, Tryz.sizeOf60⟩
theorem em_Int_3_MeanC4 : ElemOk Tryz.prog Int 3 := ⟨Tryz.t3, (.int .i64 0), by kernel_rfl, by kernel_rfl, by kernel_rfl, by kernel_rfl, by kernel_rfl⟩
theorem fl57_MeanC4 (a b c d : Int) (w : World) : (Op.equalIn 10000 57 (.agg #[I a, I b]) (.agg #[I c, I d])).run Tryz.prog w = .ok (decide (a = c ∧ b = d)) w := eq2_run Tryz.underlying57 Tryz.underlying3 Tryz.underlying3 (by decide) (by decide) rfl rfl Tryz.isAgg3 Tryz.isAgg3 Tryz.stoodInHeld57 a b c d w
set_option maxHeartbeats 1000000 in
set_option maxRecDepth 100000 in
theorem number_M {H0 : Heap} (vk vK : Value) (n : Node) (K : List Val) (h6nOp : In64 n.Op) (rvk : Rd NoB H0 vk n.Kids) (h6nN : In64 n.N) (h6nD : In64 n.D) (h6nName : n.Name.size ≤ maxLen) (rK : Rd NoB H0 vK K) (hK1 : n.Op = 12 → K.length = 1) : CallsH Tryz.prog 74 #[Vg #[I (n.Op), vk, I (n.N), I (n.D), SB (n.Name)], vK] H0 (fun rv_ H' => Ext NoB H0 H' ∧ rv_ = Value.tuple #[Vg #[I (numberV n K).1.VNum, I (numberV n K).1.VDen, Value.slice none 0 0, I 0], B (numberV n K).2] ∧ In64 (numberV n K).1.VNum ∧ In64 (numberV n K).1.VDen) := by
 have hsK : K.length * 48 ≤ 140737488355328 := (Rd.list.1 rK).bound
 have hS0 : St H0 NoB NoB [rdE vk n.Kids, rdE vK K] H0 := St.arg (St.arg (St.start (fun _ h => h.elim)) (Bl0.nil) rK (fun _ h => h)) (Bl0.cons (Bl0.nil)) rvk (fun _ h => h)
 refine callsH_of_wpF (args := [Vg #[I (n.Op), vk, I (n.N), I (n.D), SB (n.Name)], vK]) (rs := [.cell 4 60, .tmp 5]) Tryz.func74 rfl Tryz.ntmps74 Tryz.results74 (by kernel_rfl) (Nat.le_of_ble_eq_true rfl) ?_
 have y0 : argF [Vg #[I (n.Op), vk, I (n.N), I (n.D), SB (n.Name)], vK] 0 = Vg #[I (n.Op), vk, I (n.N), I (n.D), SB (n.Name)] := rfl
 have y1 : argF [Vg #[I (n.Op), vk, I (n.N), I (n.D), SB (n.Name)], vK] 1 = vK := rfl
 generalize argF [Vg #[I (n.Op), vk, I (n.N), I (n.D), SB (n.Name)], vK] = f0 at *
 refine wpF_seq ?_
 refine wpF_region ?_
 refine lo rfl ?_
 refine e_box (v := Vg #[I (n.Op), vk, I (n.N), I (n.D), SB (n.Name)]) rfl y0 hS0 (fun g1 H2 hS3 hxx => ?_)
 refine lo rfl ?_
 refine e_alloc rfl Tryz.zeroValue60 hS3 (fun g4 H5 hS6 hxx => ?_)
 refine la (v := B (false)) rfl rfl rfl ?_
 refine wpL_nil ?_
 refine wpF_seq ?_
 refine wpF_region ?_
 refine lq rfl (q_build (v := Vg #[I (0), I (1)]) rfl (par1 (v0 := I (1)) rfl) (fun w__ => by kernel_rfl)) ?_
 refine lo rfl ?_
 refine e_alloc rfl Tryz.zeroValue57 hS6 (fun g7 H8 hS9 hxx => ?_)
 refine lo rfl ?_
 refine e_storeBlkA (cs' := #[I (0), I (1)]) rfl rfl rfl Tryz.sizeOf57 rfl rfl (fa rfl (fa rfl fe)) hS9 (fun H10 hS11 hxx => ?_)
 refine wpL_nil ?_
 refine wpF_seq ?_
 refine wpF_region ?_
 refine lo rfl ?_
 refine e_alloc rfl Tryz.zeroValue32 hS11 (fun g12 H13 hS14 hxx => ?_)
 refine wpL_nil ?_
 refine wpF_seq ?_
 refine wpF_seq ?_
 refine wpF_region ?_
 refine lq rfl (q_fieldAddr rfl Tryz.underlying52 rfl Tryz.sizeOf3 rfl) ?_
 refine lq rfl (q_loadBlk rfl rfl Tryz.isAgg3 (hS14.blk 3 rfl) rfl (fun h => h)) ?_
 refine lq rfl (q_eql rfl rfl rfl) ?_
 refine wpL_nil ?_
 refine wpF_condP rfl (fun h13 => ?t41) (fun h13 => ?e41)
 case t41 =>
  have hk1 := hK1 h13
  refine wpF_seq ?_
  refine wpF_drawn [none, none, none, none, none, none, none, none, none, none, none, none, none, some 0, some 1] [[], [], [], [], [], [], [], [], [], [], [], [], [0], [], []] (fun l b => match l with | 0 => b = g7 | 1 => True | _ => False) (by kernel_rfl) (by kernel_rfl) ?_
  refine rq 0 (by kernel_rfl) rfl rfl (q_move (v := vK) rfl y1) ?_
  refine rq 1 (by kernel_rfl) rfl rfl (q_indexRd (k := 0) rfl Tryz.underlying72 el_Val_60_MeanC4 rfl rfl (hS14.rdl 5 rfl) (by omega) (by omega)) ?_
  refine rq 2 (by kernel_rfl) rfl rfl (q_fieldE (k := 0) rfl Tryz.underlying60 rfl Tryz.sizeOf57 rfl rfl (hS14.rdl 5 rfl) (by omega)) ?_
  obtain ⟨_, hcu16o3, hFu16o3⟩ := RdL.cellsF (Rd.list.1 (hS14.rdS 5 rfl)) 0 (by omega)
  obtain ⟨u16o3n2, rfl, hu16o30, hu16o31, hu16o32, hu16o33⟩ := hcu16o3
  refine rq 3 (by kernel_rfl) rfl rfl (q_loadF rfl rfl (hFu16o3 0 2 [I ((nth K 0).VNum), I ((nth K 0).VDen)] Tryz.prog 57 _ rfl rfl Tryz.isAgg57 Tryz.sizeOf57 (labU_sub [] rfl (fe)))) ?_
  refine rq 4 (by kernel_rfl) rfl rfl (q_fieldAddr rfl Tryz.underlying52 rfl Tryz.sizeOf3 rfl) ?_
  refine rq 5 (by kernel_rfl) rfl rfl (q_loadBlk rfl rfl Tryz.isAgg3 (hS14.blk 3 rfl) rfl (labU_not [] rfl (fe))) ?_
  refine rq 6 (by kernel_rfl) rfl rfl (q_fieldAddr rfl Tryz.underlying52 rfl Tryz.sizeOf3 rfl) ?_
  refine rq 7 (by kernel_rfl) rfl rfl (q_loadBlk rfl rfl Tryz.isAgg3 (hS14.blk 3 rfl) rfl (labU_not [] rfl (fe))) ?_
  refine rq 8 (by kernel_rfl) rfl rfl (q_build (v := Vg #[I (n.N), I (n.D)]) rfl (par2 (v0 := I (n.N)) (v1 := I (n.D)) rfl rfl) (fun w__ => by kernel_rfl)) ?_
  refine wpR_n [9] (by kernel_rfl) ?_
  refine fa ?_ fe
  refine exE rfl rfl ?_
  refine e_call rfl Tryz.call97 (arr2 (v0 := Vg #[I ((nth K 0).VNum), I ((nth K 0).VDen)]) (v1 := Vg #[I (n.N), I (n.D)]) rfl rfl) (Times_F ((nth K 0).fr) (Frac.mk n.N n.D) (by first | assumption | (constructor <;> (try dsimp only) <;> omega)) (by first | assumption | (constructor <;> (try dsimp only) <;> omega)) (by first | assumption | (constructor <;> (try dsimp only) <;> omega)) (by first | assumption | (constructor <;> (try dsimp only) <;> omega))) ?_
  rintro _ H16o9 ⟨hxx, rfl⟩
  have hS16o9 := hS14.ext hxx
  refine ⟨Ext.mono hxx (fun _ h => h.elim), ?_⟩
  refine rq 10 (by kernel_rfl) rfl rfl (q_move (v := Value.tuple #[Vg #[I ((timesF ((nth K 0).fr) (Frac.mk n.N n.D)).1.Num), I ((timesF ((nth K 0).fr) (Frac.mk n.N n.D)).1.Den)], Vg #[I ((timesF ((nth K 0).fr) (Frac.mk n.N n.D)).2.1), I ((timesF ((nth K 0).fr) (Frac.mk n.N n.D)).2.2)]]) rfl rfl) ?_
  refine rq 11 (by kernel_rfl) rfl rfl (q_extract (vs := #[Vg #[I ((timesF ((nth K 0).fr) (Frac.mk n.N n.D)).1.Num), I ((timesF ((nth K 0).fr) (Frac.mk n.N n.D)).1.Den)], Vg #[I ((timesF ((nth K 0).fr) (Frac.mk n.N n.D)).2.1), I ((timesF ((nth K 0).fr) (Frac.mk n.N n.D)).2.2)]]) (v := Vg #[I ((timesF ((nth K 0).fr) (Frac.mk n.N n.D)).1.Num), I ((timesF ((nth K 0).fr) (Frac.mk n.N n.D)).1.Den)]) rfl rfl rfl) ?_
  refine rq 12 (by kernel_rfl) rfl rfl (q_extract (vs := #[Vg #[I ((timesF ((nth K 0).fr) (Frac.mk n.N n.D)).1.Num), I ((timesF ((nth K 0).fr) (Frac.mk n.N n.D)).1.Den)], Vg #[I ((timesF ((nth K 0).fr) (Frac.mk n.N n.D)).2.1), I ((timesF ((nth K 0).fr) (Frac.mk n.N n.D)).2.2)]]) (v := Vg #[I ((timesF ((nth K 0).fr) (Frac.mk n.N n.D)).2.1), I ((timesF ((nth K 0).fr) (Frac.mk n.N n.D)).2.2)]) rfl rfl rfl) ?_
  refine wpR_n [13] (by kernel_rfl) ?_
  refine fa ?_ fe
  refine exE rfl rfl ?_
  refine e_storeBlkA (cs' := #[I ((timesF ((nth K 0).fr) (Frac.mk n.N n.D)).1.Num), I ((timesF ((nth K 0).fr) (Frac.mk n.N n.D)).1.Den)]) rfl rfl rfl Tryz.sizeOf57 rfl rfl (fa rfl (fa rfl fe)) (hS16o9.front 1 rfl) (fun H16o13 hS16o13 hxx => ?_)
  refine ⟨Ext.mono hxx (labS_of 0 rfl (fun b hb => hb)), ?_⟩
  refine wpR_n [14] (by kernel_rfl) ?_
  refine fa ?_ fe
  refine exE rfl rfl ?_
  refine e_storeBlkA (cs' := #[I ((timesF ((nth K 0).fr) (Frac.mk n.N n.D)).2.1), I ((timesF ((nth K 0).fr) (Frac.mk n.N n.D)).2.2)]) rfl rfl rfl Tryz.sizeOf32 rfl rfl (fa rfl (fa rfl fe)) (hS16o13.front 1 rfl) (fun H16o14 hS16o14 hxx => ?_)
  refine ⟨Ext.mono hxx (labS_of 1 rfl (fun _ _ => trivial)), ?_⟩
  refine wpR_end (by kernel_rfl) ?_
  skip
  refine wpF_seq ?_
  refine wpF_drawn [none, none, none, none, none, some 0, none] [[], [], [0], [0], [0], [], []] (fun l b => match l with | 0 => b = g4 | _ => False) (by kernel_rfl) (by kernel_rfl) ?_
  refine rq 0 (by kernel_rfl) rfl rfl (q_loadBlkA rfl rfl Tryz.isAgg57 Tryz.sizeOf57 rfl (hS16o14.blk 1 rfl) (labU_not [] rfl (fe))) ?_
  refine rq 1 (by kernel_rfl) rfl rfl (q_build (v := Vg #[I ((timesF ((nth K 0).fr) (Frac.mk n.N n.D)).1.Num), I ((timesF ((nth K 0).fr) (Frac.mk n.N n.D)).1.Den), nS, I (0)]) rfl (par1 (v0 := Vg #[I ((timesF ((nth K 0).fr) (Frac.mk n.N n.D)).1.Num), I ((timesF ((nth K 0).fr) (Frac.mk n.N n.D)).1.Den)]) rfl) (fun w__ => by kernel_rfl)) ?_
  refine rq 2 (by kernel_rfl) rfl rfl (q_fieldAddr rfl Tryz.underlying32 rfl Tryz.sizeOf3 rfl) ?_
  refine rq 3 (by kernel_rfl) rfl rfl (q_loadBlk rfl rfl Tryz.isAgg3 (hS16o14.blk 0 rfl) rfl (labU_not [0] rfl (fa (fun hb => hS16o14.dis 0 2 (by decide) rfl rfl _ rfl hb) fe))) ?_
  refine rq 4 (by kernel_rfl) rfl rfl (q_eql rfl rfl rfl) ?_
  refine wpR_n [5] (by kernel_rfl) ?_
  refine fa ?_ fe
  refine exE rfl rfl ?_
  refine e_storeBlkA (cs' := #[I ((timesF ((nth K 0).fr) (Frac.mk n.N n.D)).1.Num), I ((timesF ((nth K 0).fr) (Frac.mk n.N n.D)).1.Den), nS, I (0)]) rfl rfl rfl Tryz.sizeOf60 rfl rfl (fa rfl (fa rfl (fa rfl (fa rfl fe)))) (hS16o14.front 2 rfl) (fun H17o5 hS17o5 hxx => ?_)
  refine ⟨Ext.mono hxx (labS_of 0 rfl (fun b hb => hb)), ?_⟩
  refine rq 6 (by kernel_rfl) rfl rfl (q_assign (v := B (decide (((timesF ((nth K 0).fr) (Frac.mk n.N n.D)).2.1) = 0))) rfl rfl) ?_
  refine wpR_end (by kernel_rfl) ?_
  skip
  refine wpF_ret ?_
  refine ⟨_, resC rfl (loadV_blkA Tryz.isAgg60 Tryz.sizeOf60 rfl (hS17o5.blk 0 rfl)) (resT rfl resN), hS17o5.frame, ?_⟩
  show (Value.tuple #[Vg #[I ((timesF ((nth K 0).fr) (Frac.mk n.N n.D)).1.Num), I ((timesF ((nth K 0).fr) (Frac.mk n.N n.D)).1.Den), nS, I (0)], B (decide (((timesF ((nth K 0).fr) (Frac.mk n.N n.D)).2.1) = 0))]) = Value.tuple #[Vg #[I (numberV n K).1.VNum, I (numberV n K).1.VDen, Value.slice none 0 0, I 0], B (numberV n K).2] ∧ In64 (numberV n K).1.VNum ∧ In64 (numberV n K).1.VDen
  have hq_ : numberV n K = _ := numberV_times h13
  rw [hq_]
  exact ⟨rfl, timesF_in⟩
 refine wpF_skip ?_
 refine wpF_seq ?_
 refine wpF_seq ?_
 refine wpF_region ?_
 refine lm (v := vK) rfl rfl y1 ?_
 refine lq rfl (q_lenRd rfl Tryz.underlying72 rfl (hS14.rdl 5 rfl)) ?_
 refine lm (v := I (0)) rfl rfl rfl ?_
 refine wpL_nil ?_
 refine wpF_block ?_
 refine wpF_loop (fun mz f H => ∃ (k : Nat), ∃ (c0 : Int), ∃ (d0 : Int), mz = K.length - k ∧ (k ≤ K.length) ∧ (∀ j, j < k → ¬ sumBad K j) ∧ f 4 = PT g4 0 ∧ f 6 = PT g7 0 ∧ f 7 = PT g12 0 ∧ f 32 = vK ∧ f 33 = I ((K.length : Int)) ∧ f 34 = I ((k : Int)) ∧ St H0 NoB NoB [bE g7 #[I ((sumTo K k).Num), I ((sumTo K k).Den)] 57, bE g12 #[I (c0), I (d0)] 32, bE g4 #[I (0), I (0), nS, I (0)] 60, bE g1 #[I (n.Op), vk, I (n.N), I (n.D), SB (n.Name)] 52, rdE vk n.Kids, rdE vK K] H) (K.length - 0) ?_ ?_
 ·exact ⟨0, 0, 0, rfl, Nat.zero_le _, (fun j hj => absurd hj (Nat.not_lt_zero j)), rfl, rfl, rfl, rfl, rfl, (Eq.trans rfl (congrArg I (by omega))), (show St H0 NoB NoB [bE g7 #[I ((sumTo K 0).Num), I ((sumTo K 0).Den)] 57, bE g12 #[I (0), I (0)] 32, bE g4 #[I (0), I (0), nS, I (0)] 60, bE g1 #[I (n.Op), vk, I (n.N), I (n.D), SB (n.Name)] 52, rdE vk n.Kids, rdE vK K] H13 from (St.drop (show St H0 NoB NoB [bE g7 #[I (0), I (1)] 57, bE g12 #[I (0), I (0)] 32, bE g4 #[I (0), I (0), nS, I (0)] 60, bE g1 #[I (n.Op), vk, I (n.N), I (n.D), SB (n.Name)] 52, rdE vk n.Kids, rdE vK K] H13 from (hS14.front 1 rfl)) (sk (sk (sk (sk (sk (sk (List.Sublist.slnil)))))))))⟩
 intro m18 f18 H18 hI18
 obtain ⟨k, c0, d0, hm18, hk, hp, y4, y6, y7, y32, y33, y34, hS18⟩ := hI18
 refine wpF_seq ?_
 refine wpF_region ?_
 refine lq rfl (q_lss rfl y34 y33) ?_
 refine wpL_nil ?_
 refine wpF_seq ?_
 refine wpF_condP rfl (fun hlt => ?t40) (fun hlt => ?e40)
 case e40 =>
  refine wpF_exit ?_
  refine atX_here ?_
  refine wpF_seq ?_
  refine wpF_region ?_
  refine lq rfl (q_loadBlkA rfl y6 Tryz.isAgg57 Tryz.sizeOf57 rfl (hS18.blk 0 rfl) (fun h => h)) ?_
  refine lq rfl (q_build (v := Vg #[I ((sumTo K k).Num), I ((sumTo K k).Den), nS, I (0)]) rfl (par1 (v0 := Vg #[I ((sumTo K k).Num), I ((sumTo K k).Den)]) rfl) (fun w__ => by kernel_rfl)) ?_
  refine lo rfl ?_
  refine e_storeBlkA (cs' := #[I ((sumTo K k).Num), I ((sumTo K k).Den), nS, I (0)]) rfl y4 rfl Tryz.sizeOf60 rfl rfl (fa rfl (fa rfl (fa rfl (fa rfl fe)))) (hS18.front 2 rfl) (fun H38 hS39 hxx => ?_)
  refine la (v := B (true)) rfl rfl rfl ?_
  refine wpL_nil ?_
  refine wpF_ret ?_
  refine ⟨_, resC y4 (loadV_blkA Tryz.isAgg60 Tryz.sizeOf60 rfl (hS39.blk 0 rfl)) (resT rfl resN), hS39.frame, ?_⟩
  show (Value.tuple #[Vg #[I ((sumTo K k).Num), I ((sumTo K k).Den), nS, I (0)], B (true)]) = Value.tuple #[Vg #[I (numberV n K).1.VNum, I (numberV n K).1.VDen, Value.slice none 0 0, I 0], B (numberV n K).2] ∧ In64 (numberV n K).1.VNum ∧ In64 (numberV n K).1.VDen
  have hkE : K.length = k := by omega
  have hq_ : numberV n K = _ := numberV_ok h13 fun j hj => hp j (by omega)
  rw [hq_]
  rw [hkE]
  exact ⟨rfl, sumTo_in k⟩
 obtain ⟨h6s1, h6s2⟩ := sumTo_in (K := K) k
 refine wpF_skip ?_
 refine wpF_seq ?_
 refine wpF_block ?_
 refine wpF_seq ?_
 refine wpF_region ?_
 refine lq rfl (q_indexRd (k := k) rfl Tryz.underlying72 el_Val_60_MeanC4 y32 y34 (hS18.rdl 5 rfl) (by omega) (by omega)) ?_
 obtain ⟨u20, huu20, hlu20⟩ := (Rd.list.1 (hS18.rdS 5 rfl)).elem k (by omega)
 obtain ⟨u20n2, rfl, hu200, hu201, hu202, hu203⟩ := Rd.val.1 huu20
 have hS21 := hS18.rd hu202
 refine lq rfl (q_loadE rfl rfl (hlu20 Tryz.prog 60 _ el_Val_60_MeanC4 (fun _ h => False.elim h))) ?_
 refine lo rfl ?_
 refine e_alloc rfl Tryz.zeroValue60 hS21 (fun g22 H23 hS24 hxx => ?_)
 refine lo rfl ?_
 refine e_storeBlkA (cs' := #[I ((nth K k).VNum), I ((nth K k).VDen), u20n2, I ((nth K k).Rest)]) rfl rfl rfl Tryz.sizeOf60 rfl rfl (fa rfl (fa rfl (fa ((oneCell_rdL (hS24.rdl 1 rfl))) (fa rfl fe)))) hS24 (fun H25 hS26 hxx => ?_)
 refine wpL_nil ?_
 refine wpF_seq ?_
 refine wpF_region ?_
 refine lq rfl (q_loadBlkA rfl y6 Tryz.isAgg57 Tryz.sizeOf57 rfl (hS26.blk 2 rfl) (fun h => h)) ?_
 refine lq rfl (q_fieldAddr rfl Tryz.underlying60 rfl Tryz.sizeOf57 rfl) ?_
 refine lq rfl (q_loadBlkP (ds := [I ((nth K k).VNum), I ((nth K k).VDen)]) rfl rfl Tryz.isAgg57 Tryz.sizeOf57 rfl rfl (hS26.blk 0 rfl) (fun h => h)) ?_
 refine lo rfl ?_
 refine e_call rfl Tryz.call98 (arr2 (v0 := Vg #[I ((sumTo K k).Num), I ((sumTo K k).Den)]) (v1 := Vg #[I ((nth K k).VNum), I ((nth K k).VDen)]) rfl rfl) (Add_F (sumTo K k) ((nth K k).fr) (by first | assumption | (constructor <;> (try dsimp only) <;> omega)) (by first | assumption | (constructor <;> (try dsimp only) <;> omega)) (by first | assumption | (constructor <;> (try dsimp only) <;> omega)) (by first | assumption | (constructor <;> (try dsimp only) <;> omega))) ?_
 rintro _ H27 ⟨hxx, rfl⟩
 have hS28 := hS26.ext hxx
 refine lm (v := Value.tuple #[Vg #[I ((addF (sumTo K k) ((nth K k).fr)).1.Num), I ((addF (sumTo K k) ((nth K k).fr)).1.Den)], Vg #[I ((addF (sumTo K k) ((nth K k).fr)).2.1), I ((addF (sumTo K k) ((nth K k).fr)).2.2)]]) rfl rfl rfl ?_
 refine lq rfl (q_extract (vs := #[Vg #[I ((addF (sumTo K k) ((nth K k).fr)).1.Num), I ((addF (sumTo K k) ((nth K k).fr)).1.Den)], Vg #[I ((addF (sumTo K k) ((nth K k).fr)).2.1), I ((addF (sumTo K k) ((nth K k).fr)).2.2)]]) (v := Vg #[I ((addF (sumTo K k) ((nth K k).fr)).1.Num), I ((addF (sumTo K k) ((nth K k).fr)).1.Den)]) rfl rfl rfl) ?_
 refine lq rfl (q_extract (vs := #[Vg #[I ((addF (sumTo K k) ((nth K k).fr)).1.Num), I ((addF (sumTo K k) ((nth K k).fr)).1.Den)], Vg #[I ((addF (sumTo K k) ((nth K k).fr)).2.1), I ((addF (sumTo K k) ((nth K k).fr)).2.2)]]) (v := Vg #[I ((addF (sumTo K k) ((nth K k).fr)).2.1), I ((addF (sumTo K k) ((nth K k).fr)).2.2)]) rfl rfl rfl) ?_
 refine lo rfl ?_
 refine e_storeBlkA (cs' := #[I ((addF (sumTo K k) ((nth K k).fr)).1.Num), I ((addF (sumTo K k) ((nth K k).fr)).1.Den)]) rfl y6 rfl Tryz.sizeOf57 rfl rfl (fa rfl (fa rfl fe)) (hS28.front 2 rfl) (fun H30 hS31 hxx => ?_)
 refine lo rfl ?_
 refine e_storeBlkA (cs' := #[I ((addF (sumTo K k) ((nth K k).fr)).2.1), I ((addF (sumTo K k) ((nth K k).fr)).2.2)]) rfl y7 rfl Tryz.sizeOf32 rfl rfl (fa rfl (fa rfl fe)) (hS31.front 3 rfl) (fun H32 hS33 hxx => ?_)
 refine wpL_nil ?_
 refine wpF_seq ?_
 refine wpF_region ?_
 refine lq rfl (q_fieldAddr rfl Tryz.underlying32 rfl Tryz.sizeOf3 y7) ?_
 refine lq rfl (q_loadBlk rfl rfl Tryz.isAgg3 (hS33.blk 0 rfl) rfl (fun h => h)) ?_
 refine lq rfl (q_neq rfl rfl rfl) ?_
 refine wpL_nil ?_
 refine wpF_condP rfl (fun h47 => ?t37) (fun h47 => ?e37)
 case e37 =>
  refine wpF_skip ?_
  refine wpF_region ?_
  refine lq rfl (q_add rfl y34 rfl (by constructor <;> omega)) ?_
  refine lm (v := I ((k : Int) + 1)) rfl rfl rfl ?_
  refine wpL_nil ?_
  refine ⟨_, ?_, k + 1, (addF (sumTo K k) ((nth K k).fr)).2.1, (addF (sumTo K k) ((nth K k).fr)).2.2, rfl, (by omega), (all_succ hp h47), y4, y6, y7, y32, y33, (Eq.trans rfl (congrArg I (by omega))), (show St H0 NoB NoB [bE g7 #[I ((sumTo K (k + 1)).Num), I ((sumTo K (k + 1)).Den)] 57, bE g12 #[I (((addF (sumTo K k) ((nth K k).fr)).2.1)), I (((addF (sumTo K k) ((nth K k).fr)).2.2))] 32, bE g4 #[I (0), I (0), nS, I (0)] 60, bE g1 #[I (n.Op), vk, I (n.N), I (n.D), SB (n.Name)] 52, rdE vk n.Kids, rdE vK K] H32 from (St.drop (show St H0 NoB NoB [bE g7 #[I ((addF (sumTo K k) ((nth K k).fr)).1.Num), I ((addF (sumTo K k) ((nth K k).fr)).1.Den)] 57, bE g12 #[I ((addF (sumTo K k) ((nth K k).fr)).2.1), I ((addF (sumTo K k) ((nth K k).fr)).2.2)] 32, bE g22 #[I ((nth K k).VNum), I ((nth K k).VDen), u20n2, I ((nth K k).Rest)] 60, rdE u20n2 ((nth K k).Cells), bE g4 #[I (0), I (0), nS, I (0)] 60, bE g1 #[I (n.Op), vk, I (n.N), I (n.D), SB (n.Name)] 52, rdE vk n.Kids, rdE vK K] H32 from (hS33.front 1 rfl)) (sk (sk (sn (sn (sk (sk (sk (sk (List.Sublist.slnil)))))))))))⟩
  omega
 refine wpF_seq ?_
 refine wpF_region ?_
 refine lq rfl (q_build (v := Vg #[I (0), I (0), nS, I (0)]) rfl par0 (fun w__ => by kernel_rfl)) ?_
 refine lo rfl ?_
 refine e_storeBlkA (cs' := #[I (0), I (0), nS, I (0)]) rfl y4 rfl Tryz.sizeOf60 rfl rfl (fa rfl (fa rfl (fa rfl (fa rfl fe)))) (hS33.front 4 rfl) (fun H35 hS36 hxx => ?_)
 refine la (v := B (false)) rfl rfl rfl ?_
 refine wpL_nil ?_
 refine wpF_ret ?_
 refine ⟨_, resC y4 (loadV_blkA Tryz.isAgg60 Tryz.sizeOf60 rfl (hS36.blk 0 rfl)) (resT rfl resN), hS36.frame, ?_⟩
 show (Value.tuple #[Vg #[I (0), I (0), nS, I (0)], B (false)]) = Value.tuple #[Vg #[I (numberV n K).1.VNum, I (numberV n K).1.VDen, Value.slice none 0 0, I 0], B (numberV n K).2] ∧ In64 (numberV n K).1.VNum ∧ In64 (numberV n K).1.VDen
 have hq_ : numberV n K = _ := numberV_bad h13 (by omega) h47
 rw [hq_]
 exact ⟨rfl, ⟨(by constructor <;> decide : In64 0), (by constructor <;> decide : In64 0)⟩⟩
set_option maxRecDepth 100000 in
theorem is_M {H0 : Heap} (i gx : Nat) (vK : Value) (K : List Val) (hb : H0[gx]? = some (.cells #[vK] 72)) (rK : Rd NoB H0 vK K) (hi : i < K.length) : CallsH Tryz.prog 68 #[I ((i : Int)), PT gx 0] H0 (fun rv_ H' => Ext NoB H0 H' ∧ rv_ = B (decide (oneV K i))) := by
 have hS0 : St H0 NoB NoB [fixE gx (.cells #[vK] 72), rdE vK K] H0 := St.argFix (St.arg (St.start (fun _ h => h.elim)) (Bl0.nil) rK (fun _ h => h)) (Bl0.cons (Bl0.nil)) hb (fun h => h)
 refine callsH_of_wpF (args := [I ((i : Int)), PT gx 0]) (rs := [.tmp 3]) Tryz.func68 rfl Tryz.ntmps68 Tryz.results68 (by kernel_rfl) (Nat.le_of_ble_eq_true rfl) ?_
 have y0 : argF [I ((i : Int)), PT gx 0] 0 = I ((i : Int)) := rfl
 have y1 : argF [I ((i : Int)), PT gx 0] 1 = PT gx 0 := rfl
 generalize argF [I ((i : Int)), PT gx 0] = f0 at *
 refine wpF_seq ?_
 refine wpF_region ?_
 refine la (v := B (false)) rfl rfl rfl ?_
 refine wpL_nil ?_
 refine wpF_seq ?_
 refine wpF_region ?_
 refine lq rfl (q_loadBlk rfl y1 Tryz.isAgg72 (hS0.fixd 0 rfl) rfl (fun h => h)) ?_
 refine lm (v := I ((i : Int))) rfl rfl y0 ?_
 refine lq rfl (q_indexRd (k := i) rfl Tryz.underlying72 el_Val_60_MeanC4 rfl rfl (hS0.rdl 1 rfl) (by omega) (by omega)) ?_
 refine lq rfl (q_fieldE (k := i) rfl Tryz.underlying60 rfl Tryz.sizeOf57 rfl rfl (hS0.rdl 1 rfl) (by omega)) ?_
 refine lq rfl (q_fieldF (k := i) rfl Tryz.underlying57 rfl Tryz.sizeOf3 rfl rfl (hS0.rdl 1 rfl) (by omega)) ?_
 obtain ⟨_, hcu1, hFu1⟩ := (Rd.list.1 (hS0.rdS 1 rfl)).cellF i (by omega)
 obtain ⟨u1n2, rfl, hu10, hu11, hu12, hu13⟩ := hcu1
 refine lq rfl (q_loadF rfl rfl (hFu1 0 _ Tryz.prog 3 _ rfl Tryz.isAgg3 (fun _ h => False.elim h))) ?_
 refine lq rfl (q_eql rfl rfl rfl) ?_
 refine la (v := B (decide (((nth K i).VNum) = 1))) rfl rfl rfl ?_
 refine wpL_nil ?_
 refine wpF_ret ?_
 refine ⟨_, resT rfl resN, hS0.frame, ?_⟩
 show (B (decide (((nth K i).VNum) = 1))) = B (decide (oneV K i))
 rfl
set_option maxRecDepth 100000 in
theorem val_2 {H0 : Heap} (vc : Value) (v : Val) (h6vVNum : In64 v.VNum) (h6vVDen : In64 v.VDen) (rvc : Rd NoB H0 vc v.Cells) (h6vRest : In64 v.Rest) : CallsH Tryz.prog 69 #[Vg #[I (v.VNum), I (v.VDen), vc, I (v.Rest)]] H0 (fun rv_ H' => Ext NoB H0 H' ∧ rv_ = B (decide (v.VNum = 1))) := by
 have hsc : v.Cells.length * 16 ≤ 140737488355328 := (Rd.list.1 rvc).bound
 have hS0 : St H0 NoB NoB [rdE vc v.Cells] H0 := St.arg (St.start (fun _ h => h.elim)) (Bl0.nil) rvc (fun _ h => h)
 refine callsH_of_wpF (args := [Vg #[I (v.VNum), I (v.VDen), vc, I (v.Rest)]]) (rs := [.tmp 2]) Tryz.func69 rfl Tryz.ntmps69 Tryz.results69 (by kernel_rfl) (Nat.le_of_ble_eq_true rfl) ?_
 have y0 : argF [Vg #[I (v.VNum), I (v.VDen), vc, I (v.Rest)]] 0 = Vg #[I (v.VNum), I (v.VDen), vc, I (v.Rest)] := rfl
 generalize argF [Vg #[I (v.VNum), I (v.VDen), vc, I (v.Rest)]] = f0 at *
 refine wpF_seq ?_
 refine wpF_region ?_
 refine lo rfl ?_
 refine e_box (v := Vg #[I (v.VNum), I (v.VDen), vc, I (v.Rest)]) rfl y0 hS0 (fun g1 H2 hS3 hxx => ?_)
 refine la (v := B (false)) rfl rfl rfl ?_
 refine wpL_nil ?_
 refine wpF_seq ?_
 refine wpF_region ?_
 refine lq rfl (q_fieldAddr rfl Tryz.underlying60 rfl Tryz.sizeOf57 rfl) ?_
 refine lq rfl (q_fieldAddr rfl Tryz.underlying57 rfl Tryz.sizeOf3 rfl) ?_
 refine lq rfl (q_loadBlk rfl rfl Tryz.isAgg3 (hS3.blk 0 rfl) rfl (fun h => h)) ?_
 refine lq rfl (q_eql rfl rfl rfl) ?_
 refine la (v := B (decide (v.VNum = 1))) rfl rfl rfl ?_
 refine wpL_nil ?_
 refine wpF_ret ?_
 refine ⟨_, resT rfl resN, hS3.frame, ?_⟩
 show (B (decide (v.VNum = 1))) = B (decide (v.VNum = 1))
 rfl
set_option maxRecDepth 100000 in
theorem val_3 {H0 : Heap} (vc : Value) (v : Val) (h6vVNum : In64 v.VNum) (h6vVDen : In64 v.VDen) (rvc : Rd NoB H0 vc v.Cells) (h6vRest : In64 v.Rest) : CallsH Tryz.prog 70 #[Vg #[I (v.VNum), I (v.VDen), vc, I (v.Rest)]] H0 (fun rv_ H' => Ext NoB H0 H' ∧ rv_ = B (decide (v.VNum = 0))) := by
 have hsc : v.Cells.length * 16 ≤ 140737488355328 := (Rd.list.1 rvc).bound
 have hS0 : St H0 NoB NoB [rdE vc v.Cells] H0 := St.arg (St.start (fun _ h => h.elim)) (Bl0.nil) rvc (fun _ h => h)
 refine callsH_of_wpF (args := [Vg #[I (v.VNum), I (v.VDen), vc, I (v.Rest)]]) (rs := [.tmp 2]) Tryz.func70 rfl Tryz.ntmps70 Tryz.results70 (by kernel_rfl) (Nat.le_of_ble_eq_true rfl) ?_
 have y0 : argF [Vg #[I (v.VNum), I (v.VDen), vc, I (v.Rest)]] 0 = Vg #[I (v.VNum), I (v.VDen), vc, I (v.Rest)] := rfl
 generalize argF [Vg #[I (v.VNum), I (v.VDen), vc, I (v.Rest)]] = f0 at *
 refine wpF_seq ?_
 refine wpF_region ?_
 refine lo rfl ?_
 refine e_box (v := Vg #[I (v.VNum), I (v.VDen), vc, I (v.Rest)]) rfl y0 hS0 (fun g1 H2 hS3 hxx => ?_)
 refine la (v := B (false)) rfl rfl rfl ?_
 refine wpL_nil ?_
 refine wpF_seq ?_
 refine wpF_region ?_
 refine lq rfl (q_fieldAddr rfl Tryz.underlying60 rfl Tryz.sizeOf57 rfl) ?_
 refine lq rfl (q_fieldAddr rfl Tryz.underlying57 rfl Tryz.sizeOf3 rfl) ?_
 refine lq rfl (q_loadBlk rfl rfl Tryz.isAgg3 (hS3.blk 0 rfl) rfl (fun h => h)) ?_
 refine lq rfl (q_eql rfl rfl rfl) ?_
 refine la (v := B (decide (v.VNum = 0))) rfl rfl rfl ?_
 refine wpL_nil ?_
 refine wpF_ret ?_
 refine ⟨_, resT rfl resN, hS3.frame, ?_⟩
 show (B (decide (v.VNum = 0))) = B (decide (v.VNum = 0))
 rfl
set_option maxRecDepth 100000 in
theorem IndexFuncV {H0 : Heap} (vs vf : Value) (l : List Val) (gp : Val → Bool) (rs : Rd NoB H0 vs l) (hf : ∀ u x, x ∈ l → ∀ H, Ext NoB H0 H → Rd NoB H u x → FnH Tryz.prog vf #[u] H (fun rv H' => Ext NoB H H' ∧ rv = B (gp x))) : CallsH Tryz.prog 96 #[vs, vf] H0 (fun rv_ H' => Ext NoB H0 H' ∧ rv_ = I (idxOf gp l)) := by
 have hsm : l.length * 48 ≤ 140737488355328 := (Rd.list.1 rs).bound
 have hS0 : St H0 NoB NoB [rdE vs l] H0 := St.arg (St.start (fun _ h => h.elim)) (Bl0.nil) rs (fun _ h => h)
 refine callsH_of_wpF (args := [vs, vf]) (rs := [.tmp 4]) Tryz.func96 rfl Tryz.ntmps96 Tryz.results96 (by kernel_rfl) (Nat.le_of_ble_eq_true rfl) ?_
 have y0 : argF [vs, vf] 0 = vs := rfl
 have y1 : argF [vs, vf] 1 = vf := rfl
 generalize argF [vs, vf] = f0 at *
 refine wpF_seq ?_
 refine wpF_region ?_
 refine la (v := I (0)) rfl rfl rfl ?_
 refine wpL_nil ?_
 refine wpF_seq ?_
 refine wpF_seq ?_
 refine wpF_region ?_
 refine lm (v := vs) rfl rfl y0 ?_
 refine lq rfl (q_lenRd rfl Tryz.underlying72 rfl (hS0.rdl 0 rfl)) ?_
 refine lm (v := I (0)) rfl rfl rfl ?_
 refine wpL_nil ?_
 refine wpF_block ?_
 refine wpF_loop (fun mz f H => ∃ (k : Nat), mz = l.length - k ∧ (k ≤ l.length) ∧ (∀ j, j < k → gp (nth l j) = false) ∧ f 0 = vs ∧ f 1 = vf ∧ f 7 = I ((l.length : Int)) ∧ f 8 = I ((k : Int)) ∧ St H0 NoB NoB [rdE vs l] H) (l.length - 0) ?_ ?_
 ·exact ⟨0, rfl, Nat.zero_le _, (fun j hj => absurd hj (Nat.not_lt_zero j)), y0, y1, rfl, (Eq.trans rfl (congrArg I (by omega))), hS0⟩
 intro m1 f1 H1 hI1
 clear y0 y1
 obtain ⟨k, hm1, hk, hno, y0, y1, y7, y8, hS1⟩ := hI1
 refine wpF_seq ?_
 refine wpF_region ?_
 refine lq rfl (q_lss rfl y8 y7) ?_
 refine wpL_nil ?_
 refine wpF_seq ?_
 refine wpF_condP rfl (fun hlt => ?t10) (fun hlt => ?e10)
 case e10 =>
  refine wpF_exit ?_
  refine atX_here ?_
  refine wpF_seq ?_
  refine wpF_region ?_
  refine la (v := I (-1)) rfl rfl rfl ?_
  refine wpL_nil ?_
  refine wpF_ret ?_
  refine ⟨_, resT rfl resN, hS1.frame, ?_⟩
  show (I (-1)) = I (idxOf gp l)
  exact congrArg I (idxOf_no fun j hj => hno j (by omega)).symm
 refine wpF_skip ?_
 refine wpF_seq ?_
 refine wpF_block ?_
 refine wpF_seq ?_
 refine wpF_region ?_
 refine lm (v := I ((k : Int))) rfl rfl y8 ?_
 refine la (v := I ((k : Int))) rfl rfl rfl ?_
 refine wpL_nil ?_
 refine wpF_seq ?_
 refine wpF_region ?_
 refine lm (v := vf) rfl rfl y1 ?_
 refine lm (v := vs) rfl rfl y0 ?_
 refine lm (v := I ((k : Int))) rfl rfl rfl ?_
 refine lq rfl (q_indexRd (k := k) rfl Tryz.underlying72 el_Val_60_MeanC4 rfl rfl (hS1.rdl 0 rfl) (by omega) (by omega)) ?_
 obtain ⟨u3, huu3, hlu3⟩ := (Rd.list.1 (hS1.rdS 0 rfl)).elem k (by omega)
 obtain ⟨u3n2, rfl, hu30, hu31, hu32, hu33⟩ := Rd.val.1 huu3
 have hS4 := hS1.rd hu32
 refine lq rfl (q_loadE rfl rfl (hlu3 Tryz.prog 60 _ el_Val_60_MeanC4 (fun _ h => False.elim h))) ?_
 refine lo rfl ?_
 refine e_callF rfl rfl (arr1 (v0 := Vg #[I ((nth l k).VNum), I ((nth l k).VDen), u3n2, I ((nth l k).Rest)]) rfl) (hf _ _ (nth_mem (by omega)) _ hS4.frame (Rd.val.2 ⟨_, rfl, (by assumption), (by assumption), (hS4.rdN 0 rfl), (by assumption)⟩)) ?_
 rintro _ H5 ⟨hxx, rfl⟩
 have hS6 := hS4.ext hxx
 refine wpL_nil ?_
 refine wpF_cond rfl (fun hg => ?t9) (fun hg => ?e9)
 case e9 =>
  refine wpF_skip ?_
  refine wpF_region ?_
  refine lq rfl (q_add rfl y8 rfl (by constructor <;> omega)) ?_
  refine lm (v := I ((k : Int) + 1)) rfl rfl rfl ?_
  refine wpL_nil ?_
  refine ⟨_, ?_, k + 1, rfl, (by omega), (all_succ hno (by simpa using hg)), y0, y1, y7, (Eq.trans rfl (congrArg I (by omega))), (hS6.drop (sn (sk (List.Sublist.slnil))))⟩
  omega
 refine wpF_seq ?_
 refine wpF_region ?_
 refine lm (v := I ((k : Int))) rfl rfl rfl ?_
 refine la (v := I ((k : Int))) rfl rfl rfl ?_
 refine wpL_nil ?_
 refine wpF_ret ?_
 refine ⟨_, resT rfl resN, hS6.frame, ?_⟩
 show (I ((k : Int))) = I (idxOf gp l)
 exact congrArg I (idxOf_at (by omega) hno (by simpa using hg)).symm
set_option maxRecDepth 100000 in
theorem ContainsFuncV {H0 : Heap} (vs vf : Value) (l : List Val) (gp : Val → Bool) (rs : Rd NoB H0 vs l) (hf : ∀ u x, x ∈ l → ∀ H, Ext NoB H0 H → Rd NoB H u x → FnH Tryz.prog vf #[u] H (fun rv H' => Ext NoB H H' ∧ rv = B (gp x))) : CallsH Tryz.prog 72 #[vs, vf] H0 (fun rv_ H' => Ext NoB H0 H' ∧ rv_ = B (l.any gp)) := by
 have hS0 : St H0 NoB NoB [rdE vs l] H0 := St.arg (St.start (fun _ h => h.elim)) (Bl0.nil) rs (fun _ h => h)
 refine callsH_of_wpF (args := [vs, vf]) (rs := [.tmp 4]) Tryz.func72 rfl Tryz.ntmps72 Tryz.results72 (by kernel_rfl) (Nat.le_of_ble_eq_true rfl) ?_
 have y0 : argF [vs, vf] 0 = vs := rfl
 have y1 : argF [vs, vf] 1 = vf := rfl
 generalize argF [vs, vf] = f0 at *
 refine wpF_seq ?_
 refine wpF_region ?_
 refine la (v := B (false)) rfl rfl rfl ?_
 refine wpL_nil ?_
 refine wpF_seq ?_
 refine wpF_region ?_
 refine lm (v := vs) rfl rfl y0 ?_
 refine lm (v := vf) rfl rfl y1 ?_
 refine lo rfl ?_
 refine e_call rfl Tryz.call96 (arr2 (v0 := vs) (v1 := vf) rfl rfl) (IndexFuncV vs vf l gp (hS0.rdN 0 rfl) (fun u x hx H hE hr => hf u x hx H (hS0.frame.trans hE) hr)) ?_
 rintro _ H1 ⟨hxx, rfl⟩
 have hS2 := hS0.ext hxx
 refine lq rfl (q_geq rfl rfl rfl) ?_
 refine la (v := B (decide (0 ≤ (idxOf gp l)))) rfl rfl rfl ?_
 refine wpL_nil ?_
 refine wpF_ret ?_
 refine ⟨_, resT rfl resN, hS2.frame, ?_⟩
 show (B (decide (0 ≤ (idxOf gp l)))) = B (l.any gp)
 exact congrArg B (bool_congr_of idxOf_any.symm).symm
set_option maxHeartbeats 8000000 in
set_option maxRecDepth 100000 in
theorem value_M {H0 : Heap} {S : Nat → Prop} (vD vN vH vM vk vK : Value) (a : Ask) (w : Wld) (s : Int) (n : Node) (K : List Val) (b : Int) (rvD : Rd S H0 vD a.Decls) (rvN : Rd S H0 vN a.Nodes) (rvH : Rd S H0 vH a.Hold) (rvM : Rd S H0 vM w.Means) (h6nOp : In64 n.Op) (rvk : Rd S H0 vk n.Kids) (h6nN : In64 n.N) (h6nD : In64 n.D) (h6nName : n.Name.size ≤ maxLen) (rK : Rd S H0 vK K) (hV : VOk a w n K) : CallsH Tryz.prog 43 #[Vg #[vD, vN, vH], Vg #[vM], I (s), Vg #[I (n.Op), vk, I (n.N), I (n.D), SB (n.Name)], vK, I (b)] H0 (fun rv_ H' => Ext NoB H0 H' ∧ ∃ w_, rv_ = Value.tuple #[Vg #[I (valueV a w n K b).1.VNum, I (valueV a w n K b).1.VDen, w_, I (valueV a w n K b).1.Rest], B (valueV a w n K b).2] ∧ Rd (SZ S H0) H' w_ (valueV a w n K b).1.Cells ∧ In64 (valueV a w n K b).1.VNum ∧ In64 (valueV a w n K b).1.VDen ∧ In64 (valueV a w n K b).1.Rest) := by
 have hsD : a.Decls.length * 48 ≤ 140737488355328 := (Rd.list.1 rvD).bound
 have hsN : a.Nodes.length * 64 ≤ 140737488355328 := (Rd.list.1 rvN).bound
 have hsM : w.Means.length * 72 ≤ 140737488355328 := (Rd.list.1 rvM).bound
 have hsK : K.length * 48 ≤ 140737488355328 := (Rd.list.1 rK).bound
 obtain ⟨hk3, hk1, hk2⟩ := kidsLen2 hV.len
 have hks := hV.small 0
 have hS0 : St H0 NoB (SZ S H0) [rdE vD a.Decls, rdE vN a.Nodes, rdE vH a.Hold, rdE vM w.Means, rdE vk n.Kids, rdE vK K] H0 := St.arg (St.arg (St.arg (St.arg (St.arg (St.arg (St.start (fun _ h => h.2)) (Bl0.nil) rK (fun _ h => h.1)) (Bl0.cons (Bl0.nil)) rvk (fun _ h => h.1)) (Bl0.cons (Bl0.cons (Bl0.nil))) rvM (fun _ h => h.1)) (Bl0.cons (Bl0.cons (Bl0.cons (Bl0.nil)))) rvH (fun _ h => h.1)) (Bl0.cons (Bl0.cons (Bl0.cons (Bl0.cons (Bl0.nil))))) rvN (fun _ h => h.1)) (Bl0.cons (Bl0.cons (Bl0.cons (Bl0.cons (Bl0.cons (Bl0.nil)))))) rvD (fun _ h => h.1)
 refine callsH_of_wpF (args := [Vg #[vD, vN, vH], Vg #[vM], I (s), Vg #[I (n.Op), vk, I (n.N), I (n.D), SB (n.Name)], vK, I (b)]) (rs := [.cell 12 60, .tmp 13]) Tryz.func43 rfl Tryz.ntmps43 Tryz.results43 (by kernel_rfl) (Nat.le_of_ble_eq_true rfl) ?_
 have y0 : argF [Vg #[vD, vN, vH], Vg #[vM], I (s), Vg #[I (n.Op), vk, I (n.N), I (n.D), SB (n.Name)], vK, I (b)] 0 = Vg #[vD, vN, vH] := rfl
 have y1 : argF [Vg #[vD, vN, vH], Vg #[vM], I (s), Vg #[I (n.Op), vk, I (n.N), I (n.D), SB (n.Name)], vK, I (b)] 1 = Vg #[vM] := rfl
 have y2 : argF [Vg #[vD, vN, vH], Vg #[vM], I (s), Vg #[I (n.Op), vk, I (n.N), I (n.D), SB (n.Name)], vK, I (b)] 2 = I (s) := rfl
 have y3 : argF [Vg #[vD, vN, vH], Vg #[vM], I (s), Vg #[I (n.Op), vk, I (n.N), I (n.D), SB (n.Name)], vK, I (b)] 3 = Vg #[I (n.Op), vk, I (n.N), I (n.D), SB (n.Name)] := rfl
 have y4 : argF [Vg #[vD, vN, vH], Vg #[vM], I (s), Vg #[I (n.Op), vk, I (n.N), I (n.D), SB (n.Name)], vK, I (b)] 4 = vK := rfl
 have y5 : argF [Vg #[vD, vN, vH], Vg #[vM], I (s), Vg #[I (n.Op), vk, I (n.N), I (n.D), SB (n.Name)], vK, I (b)] 5 = I (b) := rfl
 generalize argF [Vg #[vD, vN, vH], Vg #[vM], I (s), Vg #[I (n.Op), vk, I (n.N), I (n.D), SB (n.Name)], vK, I (b)] = f0 at *
 refine wpF_seq ?_
 refine wpF_region ?_
 refine lo rfl ?_
 refine e_box (v := Vg #[vD, vN, vH]) rfl y0 hS0 (fun g1 H2 hS3 hxx => ?_)
 refine lo rfl ?_
 refine e_box (v := Vg #[vM]) rfl y1 hS3 (fun g4 H5 hS6 hxx => ?_)
 refine lo rfl ?_
 refine e_box (v := Vg #[I (n.Op), vk, I (n.N), I (n.D), SB (n.Name)]) rfl y3 hS6 (fun g7 H8 hS9 hxx => ?_)
 refine lo rfl ?_
 refine e_box (v := vK) rfl y4 hS9 (fun g10 H11 hS12 hxx => ?_)
 rw [cells_rdL (hS9.rdl 8 rfl)] at hS12
 refine lo rfl ?_
 refine e_alloc rfl Tryz.zeroValue60 hS12 (fun g13 H14 hS15 hxx => ?_)
 refine la (v := B (false)) rfl rfl rfl ?_
 refine wpL_nil ?_
 refine wpF_seq ?_
 refine wpF_region ?_
 refine lq rfl (q_makeFunc (fi' := #[]) rfl (by simp) (arr1 (v0 := PT g10 0) rfl)) ?_
 refine la (v := Value.func (.func 68) #[] #[PT g10 0]) rfl rfl rfl ?_
 refine wpL_nil ?_
 refine wpF_seq ?_
 refine wpF_region ?_
 refine la (v := Value.func (.func 69) #[] #[]) rfl rfl rfl ?_
 refine wpL_nil ?_
 refine wpF_seq ?_
 refine wpF_region ?_
 refine la (v := Value.func (.func 70) #[] #[]) rfl rfl rfl ?_
 refine wpL_nil ?_
 refine wpF_seq ?_
 refine wpF_seq ?_
 refine wpF_region ?_
 refine lq rfl (q_fieldAddr rfl Tryz.underlying52 rfl Tryz.sizeOf3 rfl) ?_
 refine lq rfl (q_loadBlk rfl rfl Tryz.isAgg3 (hS15.blk 2 rfl) rfl (fun h => h)) ?_
 refine wpL_nil ?_
 refine wpF_block ?_
 refine wpF_seq ?_
 refine wpF_seq ?_
 refine wpF_region ?_
 refine lq rfl (q_eql rfl rfl rfl) ?_
 refine la (v := B (decide (n.Op = 1))) rfl rfl rfl ?_
 refine wpL_nil ?_
 refine wpF_condP rfl (fun o1 => ?t187) (fun o1 => ?e187)
 case t187 =>
  refine wpF_skip ?_
  refine wpF_condT (Eq.trans rfl (congrArg B (decide_eq_true o1))) ?_
  refine wpF_seq ?_
  refine wpF_region ?_
  refine lq rfl (q_fieldAddr rfl Tryz.underlying52 rfl Tryz.sizeOf3 rfl) ?_
  refine lq rfl (q_loadBlk rfl rfl Tryz.isAgg3 (hS15.blk 2 rfl) rfl (fun h => h)) ?_
  refine lq rfl (q_eql rfl rfl rfl) ?_
  refine lo rfl ?_
  refine e_call rfl Tryz.call71 (arr1 (v0 := B (decide (n.Op = 1))) rfl) (truth_M (n.Op = 1)) ?_
  rintro _ H17 ⟨hxx, rfl⟩
  have hS18 := hS15.ext hxx
  refine lo rfl ?_
  refine e_storeBlkA (cs' := #[I (bitP (n.Op = 1)), I (1), nS, I (0)]) rfl rfl rfl Tryz.sizeOf60 rfl rfl (fa rfl (fa rfl (fa rfl (fa rfl fe)))) hS18 (fun H20 hS21 hxx => ?_)
  refine la (v := B (true)) rfl rfl rfl ?_
  refine wpL_nil ?_
  refine wpF_ret ?_
  refine ⟨_, resC rfl (loadV_blkA Tryz.isAgg60 Tryz.sizeOf60 rfl (hS21.blk 0 rfl)) (resT rfl resN), hS21.frame, ?_⟩
  show ∃ w_, (Value.tuple #[Vg #[I (bitP (n.Op = 1)), I (1), nS, I (0)], B (true)]) = Value.tuple #[Vg #[I (valueV a w n K b).1.VNum, I (valueV a w n K b).1.VDen, w_, I (valueV a w n K b).1.Rest], B (valueV a w n K b).2] ∧ Rd (SZ S H0) H20 w_ (valueV a w n K b).1.Cells ∧ In64 (valueV a w n K b).1.VNum ∧ In64 (valueV a w n K b).1.VDen ∧ In64 (valueV a w n K b).1.Rest
  have hq_ := vv_1 (a := a) (w := w) (K := K) (b := b) o1
  rw [hq_]
  exact ⟨_, rfl, rdNil, (by first | assumption | exact bitP_in | exact (by constructor <;> decide : In64 0) | exact (by constructor <;> decide : In64 1)), (by first | assumption | exact bitP_in | exact (by constructor <;> decide : In64 0) | exact (by constructor <;> decide : In64 1)), (by first | assumption | exact bitP_in | exact (by constructor <;> decide : In64 0) | exact (by constructor <;> decide : In64 1))⟩
 refine wpF_region ?_
 refine lq rfl (q_eql rfl rfl rfl) ?_
 refine la (v := B (decide (n.Op = 2))) rfl rfl rfl ?_
 refine wpL_nil ?_
 refine wpF_condP rfl (fun o2 => ?t186) (fun o2 => ?e186)
 case t186 =>
  refine wpF_seq ?_
  refine wpF_region ?_
  refine lq rfl (q_fieldAddr rfl Tryz.underlying52 rfl Tryz.sizeOf3 rfl) ?_
  refine lq rfl (q_loadBlk rfl rfl Tryz.isAgg3 (hS15.blk 2 rfl) rfl (fun h => h)) ?_
  refine lq rfl (q_eql rfl rfl rfl) ?_
  refine lo rfl ?_
  refine e_call rfl Tryz.call71 (arr1 (v0 := B (decide (n.Op = 1))) rfl) (truth_M (n.Op = 1)) ?_
  rintro _ H23 ⟨hxx, rfl⟩
  have hS24 := hS15.ext hxx
  refine lo rfl ?_
  refine e_storeBlkA (cs' := #[I (bitP (n.Op = 1)), I (1), nS, I (0)]) rfl rfl rfl Tryz.sizeOf60 rfl rfl (fa rfl (fa rfl (fa rfl (fa rfl fe)))) hS24 (fun H26 hS27 hxx => ?_)
  refine la (v := B (true)) rfl rfl rfl ?_
  refine wpL_nil ?_
  refine wpF_ret ?_
  refine ⟨_, resC rfl (loadV_blkA Tryz.isAgg60 Tryz.sizeOf60 rfl (hS27.blk 0 rfl)) (resT rfl resN), hS27.frame, ?_⟩
  show ∃ w_, (Value.tuple #[Vg #[I (bitP (n.Op = 1)), I (1), nS, I (0)], B (true)]) = Value.tuple #[Vg #[I (valueV a w n K b).1.VNum, I (valueV a w n K b).1.VDen, w_, I (valueV a w n K b).1.Rest], B (valueV a w n K b).2] ∧ Rd (SZ S H0) H26 w_ (valueV a w n K b).1.Cells ∧ In64 (valueV a w n K b).1.VNum ∧ In64 (valueV a w n K b).1.VDen ∧ In64 (valueV a w n K b).1.Rest
  have hq_ := vv_2 (a := a) (w := w) (K := K) (b := b) o2
  rw [hq_]
  exact ⟨_, rfl, rdNil, (by first | assumption | exact bitP_in | exact (by constructor <;> decide : In64 0) | exact (by constructor <;> decide : In64 1)), (by first | assumption | exact bitP_in | exact (by constructor <;> decide : In64 0) | exact (by constructor <;> decide : In64 1)), (by first | assumption | exact bitP_in | exact (by constructor <;> decide : In64 0) | exact (by constructor <;> decide : In64 1))⟩
 refine wpF_seq ?_
 refine wpF_region ?_
 refine lq rfl (q_eql rfl rfl rfl) ?_
 refine la (v := B (decide (n.Op = 3))) rfl rfl rfl ?_
 refine wpL_nil ?_
 refine wpF_condP rfl (fun o3 => ?t185) (fun o3 => ?e185)
 case t185 =>
  refine wpF_seq ?_
  refine wpF_region ?_
  refine lm (v := Value.func (.func 68) #[] #[PT g10 0]) rfl rfl rfl ?_
  refine lo rfl ?_
  refine e_callV rfl rfl Tryz.call68 (arr1 (v0 := I (0)) rfl) (is_M 0 g10 vK K (hS15.blk 1 rfl) (hS15.rdN 10 rfl) (by omega)) ?_
  rintro _ H29 ⟨hxx, rfl⟩
  have hS30 := hS15.ext hxx
  refine lq rfl (q_notP rfl rfl) ?_
  refine lo rfl ?_
  refine e_call rfl Tryz.call71 (arr1 (v0 := B (decide (¬ (oneV K 0)))) rfl) (truth_M (¬ (oneV K 0))) ?_
  rintro _ H32 ⟨hxx, rfl⟩
  have hS33 := hS30.ext hxx
  refine lo rfl ?_
  refine e_storeBlkA (cs' := #[I (bitP (¬ (oneV K 0))), I (1), nS, I (0)]) rfl rfl rfl Tryz.sizeOf60 rfl rfl (fa rfl (fa rfl (fa rfl (fa rfl fe)))) hS33 (fun H35 hS36 hxx => ?_)
  refine la (v := B (true)) rfl rfl rfl ?_
  refine wpL_nil ?_
  refine wpF_ret ?_
  refine ⟨_, resC rfl (loadV_blkA Tryz.isAgg60 Tryz.sizeOf60 rfl (hS36.blk 0 rfl)) (resT rfl resN), hS36.frame, ?_⟩
  show ∃ w_, (Value.tuple #[Vg #[I (bitP (¬ (oneV K 0))), I (1), nS, I (0)], B (true)]) = Value.tuple #[Vg #[I (valueV a w n K b).1.VNum, I (valueV a w n K b).1.VDen, w_, I (valueV a w n K b).1.Rest], B (valueV a w n K b).2] ∧ Rd (SZ S H0) H35 w_ (valueV a w n K b).1.Cells ∧ In64 (valueV a w n K b).1.VNum ∧ In64 (valueV a w n K b).1.VDen ∧ In64 (valueV a w n K b).1.Rest
  have hq_ := vv_3 (a := a) (w := w) (K := K) (b := b) o3
  rw [hq_]
  exact ⟨_, rfl, rdNil, (by first | assumption | exact bitP_in | exact (by constructor <;> decide : In64 0) | exact (by constructor <;> decide : In64 1)), (by first | assumption | exact bitP_in | exact (by constructor <;> decide : In64 0) | exact (by constructor <;> decide : In64 1)), (by first | assumption | exact bitP_in | exact (by constructor <;> decide : In64 0) | exact (by constructor <;> decide : In64 1))⟩
 refine wpF_seq ?_
 refine wpF_region ?_
 refine lq rfl (q_eql rfl rfl rfl) ?_
 refine la (v := B (decide (n.Op = 4))) rfl rfl rfl ?_
 refine wpL_nil ?_
 refine wpF_condP rfl (fun o4 => ?t184) (fun o4 => ?e184)
 case t184 =>
  refine wpF_seq ?_
  refine wpF_region ?_
  refine lq rfl (q_loadBlk rfl rfl Tryz.isAgg72 (hS15.blk 1 rfl) rfl (fun h => h)) ?_
  refine lm (v := Value.func (.func 70) #[] #[]) rfl rfl rfl ?_
  refine lo rfl ?_
  refine e_call rfl Tryz.call72 (arr2 (v0 := vK) (v1 := Value.func (.func 70) #[] #[]) rfl rfl) (ContainsFuncV vK (Value.func (.func 70) #[] #[]) K (fun v => decide (v.VNum = 0)) (hS15.rdN 10 rfl) (fun u x hx H hE hr => by obtain ⟨_, rfl, hv1, hv2, hv3, hv4⟩ := Rd.val.1 hr; exact ⟨_, _, rfl, Tryz.call70, val_3 _ x hv1 hv2 hv3 hv4⟩)) ?_
  rintro _ H38 ⟨hxx, rfl⟩
  have hS39 := hS15.ext hxx
  refine lq rfl (q_not rfl rfl) ?_
  refine lo rfl ?_
  refine e_call rfl Tryz.call71 (arr1 (v0 := B (!(K.any (fun v => decide (v.VNum = 0))))) rfl) (truth_MB (!(K.any (fun v => decide (v.VNum = 0))))) ?_
  rintro _ H41 ⟨hxx, rfl⟩
  have hS42 := hS39.ext hxx
  refine lo rfl ?_
  refine e_storeBlkA (cs' := #[I (bitP ((!(K.any (fun v => decide (v.VNum = 0)))) = true)), I (1), nS, I (0)]) rfl rfl rfl Tryz.sizeOf60 rfl rfl (fa rfl (fa rfl (fa rfl (fa rfl fe)))) hS42 (fun H44 hS45 hxx => ?_)
  refine la (v := B (true)) rfl rfl rfl ?_
  refine wpL_nil ?_
  refine wpF_ret ?_
  refine ⟨_, resC rfl (loadV_blkA Tryz.isAgg60 Tryz.sizeOf60 rfl (hS45.blk 0 rfl)) (resT rfl resN), hS45.frame, ?_⟩
  show ∃ w_, (Value.tuple #[Vg #[I (bitP ((!(K.any (fun v => decide (v.VNum = 0)))) = true)), I (1), nS, I (0)], B (true)]) = Value.tuple #[Vg #[I (valueV a w n K b).1.VNum, I (valueV a w n K b).1.VDen, w_, I (valueV a w n K b).1.Rest], B (valueV a w n K b).2] ∧ Rd (SZ S H0) H44 w_ (valueV a w n K b).1.Cells ∧ In64 (valueV a w n K b).1.VNum ∧ In64 (valueV a w n K b).1.VDen ∧ In64 (valueV a w n K b).1.Rest
  have hq_ := vv_4 (a := a) (w := w) (K := K) (b := b) o4
  rw [hq_]
  exact ⟨_, rfl, rdNil, (by first | assumption | exact bitP_in | exact (by constructor <;> decide : In64 0) | exact (by constructor <;> decide : In64 1)), (by first | assumption | exact bitP_in | exact (by constructor <;> decide : In64 0) | exact (by constructor <;> decide : In64 1)), (by first | assumption | exact bitP_in | exact (by constructor <;> decide : In64 0) | exact (by constructor <;> decide : In64 1))⟩
 refine wpF_seq ?_
 refine wpF_region ?_
 refine lq rfl (q_eql rfl rfl rfl) ?_
 refine la (v := B (decide (n.Op = 5))) rfl rfl rfl ?_
 refine wpL_nil ?_
 refine wpF_condP rfl (fun o5 => ?t183) (fun o5 => ?e183)
 case t183 =>
  refine wpF_seq ?_
  refine wpF_region ?_
  refine lq rfl (q_loadBlk rfl rfl Tryz.isAgg72 (hS15.blk 1 rfl) rfl (fun h => h)) ?_
  refine lm (v := Value.func (.func 69) #[] #[]) rfl rfl rfl ?_
  refine lo rfl ?_
  refine e_call rfl Tryz.call72 (arr2 (v0 := vK) (v1 := Value.func (.func 69) #[] #[]) rfl rfl) (ContainsFuncV vK (Value.func (.func 69) #[] #[]) K (fun v => decide (v.VNum = 1)) (hS15.rdN 10 rfl) (fun u x hx H hE hr => by obtain ⟨_, rfl, hv1, hv2, hv3, hv4⟩ := Rd.val.1 hr; exact ⟨_, _, rfl, Tryz.call69, val_2 _ x hv1 hv2 hv3 hv4⟩)) ?_
  rintro _ H47 ⟨hxx, rfl⟩
  have hS48 := hS15.ext hxx
  refine lo rfl ?_
  refine e_call rfl Tryz.call71 (arr1 (v0 := B (K.any (fun v => decide (v.VNum = 1)))) rfl) (truth_MB (K.any (fun v => decide (v.VNum = 1)))) ?_
  rintro _ H50 ⟨hxx, rfl⟩
  have hS51 := hS48.ext hxx
  refine lo rfl ?_
  refine e_storeBlkA (cs' := #[I (bitP ((K.any (fun v => decide (v.VNum = 1))) = true)), I (1), nS, I (0)]) rfl rfl rfl Tryz.sizeOf60 rfl rfl (fa rfl (fa rfl (fa rfl (fa rfl fe)))) hS51 (fun H53 hS54 hxx => ?_)
  refine la (v := B (true)) rfl rfl rfl ?_
  refine wpL_nil ?_
  refine wpF_ret ?_
  refine ⟨_, resC rfl (loadV_blkA Tryz.isAgg60 Tryz.sizeOf60 rfl (hS54.blk 0 rfl)) (resT rfl resN), hS54.frame, ?_⟩
  show ∃ w_, (Value.tuple #[Vg #[I (bitP ((K.any (fun v => decide (v.VNum = 1))) = true)), I (1), nS, I (0)], B (true)]) = Value.tuple #[Vg #[I (valueV a w n K b).1.VNum, I (valueV a w n K b).1.VDen, w_, I (valueV a w n K b).1.Rest], B (valueV a w n K b).2] ∧ Rd (SZ S H0) H53 w_ (valueV a w n K b).1.Cells ∧ In64 (valueV a w n K b).1.VNum ∧ In64 (valueV a w n K b).1.VDen ∧ In64 (valueV a w n K b).1.Rest
  have hq_ := vv_5 (a := a) (w := w) (K := K) (b := b) o5
  rw [hq_]
  exact ⟨_, rfl, rdNil, (by first | assumption | exact bitP_in | exact (by constructor <;> decide : In64 0) | exact (by constructor <;> decide : In64 1)), (by first | assumption | exact bitP_in | exact (by constructor <;> decide : In64 0) | exact (by constructor <;> decide : In64 1)), (by first | assumption | exact bitP_in | exact (by constructor <;> decide : In64 0) | exact (by constructor <;> decide : In64 1))⟩
 refine wpF_seq ?_
 refine wpF_region ?_
 refine lq rfl (q_eql rfl rfl rfl) ?_
 refine la (v := B (decide (n.Op = 6))) rfl rfl rfl ?_
 refine wpL_nil ?_
 refine wpF_condP rfl (fun o6 => ?t182) (fun o6 => ?e182)
 case t182 =>
  refine wpF_seq ?_
  refine wpF_region ?_
  refine lm (v := Value.func (.func 68) #[] #[PT g10 0]) rfl rfl rfl ?_
  refine lo rfl ?_
  refine e_callV rfl rfl Tryz.call68 (arr1 (v0 := I (0)) rfl) (is_M 0 g10 vK K (hS15.blk 1 rfl) (hS15.rdN 10 rfl) (by omega)) ?_
  rintro _ H56 ⟨hxx, rfl⟩
  have hS57 := hS15.ext hxx
  refine lm (v := Value.func (.func 68) #[] #[PT g10 0]) rfl rfl rfl ?_
  refine lo rfl ?_
  refine e_callV rfl rfl Tryz.call68 (arr1 (v0 := I (1)) rfl) (is_M 1 g10 vK K (hS57.blk 1 rfl) (hS57.rdN 10 rfl) (by omega)) ?_
  rintro _ H59 ⟨hxx, rfl⟩
  have hS60 := hS57.ext hxx
  refine lq rfl (q_eqlB rfl Tryz.underlying4 rfl rfl) ?_
  refine lo rfl ?_
  refine e_call rfl Tryz.call71 (arr1 (v0 := B (decide ((decide (oneV K 0)) = (decide (oneV K 1))))) rfl) (truth_M ((decide (oneV K 0)) = (decide (oneV K 1)))) ?_
  rintro _ H62 ⟨hxx, rfl⟩
  have hS63 := hS60.ext hxx
  refine lo rfl ?_
  refine e_storeBlkA (cs' := #[I (bitP ((decide (oneV K 0)) = (decide (oneV K 1)))), I (1), nS, I (0)]) rfl rfl rfl Tryz.sizeOf60 rfl rfl (fa rfl (fa rfl (fa rfl (fa rfl fe)))) hS63 (fun H65 hS66 hxx => ?_)
  refine la (v := B (true)) rfl rfl rfl ?_
  refine wpL_nil ?_
  refine wpF_ret ?_
  refine ⟨_, resC rfl (loadV_blkA Tryz.isAgg60 Tryz.sizeOf60 rfl (hS66.blk 0 rfl)) (resT rfl resN), hS66.frame, ?_⟩
  show ∃ w_, (Value.tuple #[Vg #[I (bitP ((decide (oneV K 0)) = (decide (oneV K 1)))), I (1), nS, I (0)], B (true)]) = Value.tuple #[Vg #[I (valueV a w n K b).1.VNum, I (valueV a w n K b).1.VDen, w_, I (valueV a w n K b).1.Rest], B (valueV a w n K b).2] ∧ Rd (SZ S H0) H65 w_ (valueV a w n K b).1.Cells ∧ In64 (valueV a w n K b).1.VNum ∧ In64 (valueV a w n K b).1.VDen ∧ In64 (valueV a w n K b).1.Rest
  have hq_ := vv_6 (a := a) (w := w) (K := K) (b := b) o6
  rw [hq_]
  exact ⟨_, rfl, rdNil, (by first | assumption | exact bitP_in | exact (by constructor <;> decide : In64 0) | exact (by constructor <;> decide : In64 1)), (by first | assumption | exact bitP_in | exact (by constructor <;> decide : In64 0) | exact (by constructor <;> decide : In64 1)), (by first | assumption | exact bitP_in | exact (by constructor <;> decide : In64 0) | exact (by constructor <;> decide : In64 1))⟩
 refine wpF_seq ?_
 refine wpF_region ?_
 refine lq rfl (q_eql rfl rfl rfl) ?_
 refine la (v := B (decide (n.Op = 7))) rfl rfl rfl ?_
 refine wpL_nil ?_
 refine wpF_condP rfl (fun o7 => ?t181) (fun o7 => ?e181)
 case t181 =>
  refine wpF_seq ?_
  refine wpF_seq ?_
  refine wpF_region ?_
  refine lm (v := Value.func (.func 68) #[] #[PT g10 0]) rfl rfl rfl ?_
  refine lo rfl ?_
  refine e_callV rfl rfl Tryz.call68 (arr1 (v0 := I (0)) rfl) (is_M 0 g10 vK K (hS15.blk 1 rfl) (hS15.rdN 10 rfl) (by omega)) ?_
  rintro _ H68 ⟨hxx, rfl⟩
  have hS69 := hS15.ext hxx
  refine wpL_nil ?_
  refine wpF_condP rfl (fun h66 => ?t80) (fun h66 => ?e80)
  case t80 =>
   refine wpF_seq ?_
   refine wpF_region ?_
   refine lq rfl (q_loadBlk rfl rfl Tryz.isAgg72 (hS69.blk 1 rfl) rfl (fun h => h)) ?_
   refine lq rfl (q_indexRd (k := 1) rfl Tryz.underlying72 el_Val_60_MeanC4 rfl rfl (hS69.rdl 10 rfl) (by omega) (by omega)) ?_
   obtain ⟨u72, huu72, hlu72⟩ := (Rd.list.1 (hS69.rdS 10 rfl)).elem 1 (by omega)
   obtain ⟨u72n2, rfl, hu720, hu721, hu722, hu723⟩ := Rd.val.1 huu72
   have hS73 := hS69.rd hu722
   refine lq rfl (q_loadE rfl rfl (hlu72 Tryz.prog 60 _ el_Val_60_MeanC4 (fun _ h => False.elim h))) ?_
   refine lo rfl ?_
   refine e_storeBlkA (cs' := #[I ((nth K 1).VNum), I ((nth K 1).VDen), u72n2, I ((nth K 1).Rest)]) rfl rfl rfl Tryz.sizeOf60 rfl rfl (fa rfl (fa rfl (fa ((oneCell_rdL (hS73.rdl 0 rfl))) (fa rfl fe)))) (hS73.front 1 rfl) (fun H74 hS75 hxx => ?_)
   refine la (v := B (true)) rfl rfl rfl ?_
   refine wpL_nil ?_
   refine wpF_ret ?_
   refine ⟨_, resC rfl (loadV_blkA Tryz.isAgg60 Tryz.sizeOf60 rfl (hS75.blk 0 rfl)) (resT rfl resN), hS75.frame, ?_⟩
   show ∃ w_, (Value.tuple #[Vg #[I ((nth K 1).VNum), I ((nth K 1).VDen), u72n2, I ((nth K 1).Rest)], B (true)]) = Value.tuple #[Vg #[I (valueV a w n K b).1.VNum, I (valueV a w n K b).1.VDen, w_, I (valueV a w n K b).1.Rest], B (valueV a w n K b).2] ∧ Rd (SZ S H0) H74 w_ (valueV a w n K b).1.Cells ∧ In64 (valueV a w n K b).1.VNum ∧ In64 (valueV a w n K b).1.VDen ∧ In64 (valueV a w n K b).1.Rest
   have hq_ := vv_7 (a := a) (w := w) (K := K) (b := b) o7
   rw [hq_, if_pos h66]
   exact ⟨_, rfl, (hS75.result (hS75.rdS 1 rfl)), (by first | assumption | exact bitP_in | exact (by constructor <;> decide : In64 0) | exact (by constructor <;> decide : In64 1)), (by first | assumption | exact bitP_in | exact (by constructor <;> decide : In64 0) | exact (by constructor <;> decide : In64 1)), (by first | assumption | exact bitP_in | exact (by constructor <;> decide : In64 0) | exact (by constructor <;> decide : In64 1))⟩
  refine wpF_skip ?_
  refine wpF_seq ?_
  refine wpF_region ?_
  refine lq rfl (q_loadBlk rfl rfl Tryz.isAgg72 (hS69.blk 1 rfl) rfl (fun h => h)) ?_
  refine lq rfl (q_indexRd (k := 2) rfl Tryz.underlying72 el_Val_60_MeanC4 rfl rfl (hS69.rdl 10 rfl) (by omega) (by omega)) ?_
  obtain ⟨u76, huu76, hlu76⟩ := (Rd.list.1 (hS69.rdS 10 rfl)).elem 2 (by omega)
  obtain ⟨u76n2, rfl, hu760, hu761, hu762, hu763⟩ := Rd.val.1 huu76
  have hS77 := hS69.rd hu762
  refine lq rfl (q_loadE rfl rfl (hlu76 Tryz.prog 60 _ el_Val_60_MeanC4 (fun _ h => False.elim h))) ?_
  refine lo rfl ?_
  refine e_storeBlkA (cs' := #[I ((nth K 2).VNum), I ((nth K 2).VDen), u76n2, I ((nth K 2).Rest)]) rfl rfl rfl Tryz.sizeOf60 rfl rfl (fa rfl (fa rfl (fa ((oneCell_rdL (hS77.rdl 0 rfl))) (fa rfl fe)))) (hS77.front 1 rfl) (fun H78 hS79 hxx => ?_)
  refine la (v := B (true)) rfl rfl rfl ?_
  refine wpL_nil ?_
  refine wpF_ret ?_
  refine ⟨_, resC rfl (loadV_blkA Tryz.isAgg60 Tryz.sizeOf60 rfl (hS79.blk 0 rfl)) (resT rfl resN), hS79.frame, ?_⟩
  show ∃ w_, (Value.tuple #[Vg #[I ((nth K 2).VNum), I ((nth K 2).VDen), u76n2, I ((nth K 2).Rest)], B (true)]) = Value.tuple #[Vg #[I (valueV a w n K b).1.VNum, I (valueV a w n K b).1.VDen, w_, I (valueV a w n K b).1.Rest], B (valueV a w n K b).2] ∧ Rd (SZ S H0) H78 w_ (valueV a w n K b).1.Cells ∧ In64 (valueV a w n K b).1.VNum ∧ In64 (valueV a w n K b).1.VDen ∧ In64 (valueV a w n K b).1.Rest
  have hq_ := vv_7 (a := a) (w := w) (K := K) (b := b) o7
  rw [hq_, if_neg h66]
  exact ⟨_, rfl, (hS79.result (hS79.rdS 1 rfl)), (by first | assumption | exact bitP_in | exact (by constructor <;> decide : In64 0) | exact (by constructor <;> decide : In64 1)), (by first | assumption | exact bitP_in | exact (by constructor <;> decide : In64 0) | exact (by constructor <;> decide : In64 1)), (by first | assumption | exact bitP_in | exact (by constructor <;> decide : In64 0) | exact (by constructor <;> decide : In64 1))⟩
 refine wpF_seq ?_
 refine wpF_region ?_
 refine lq rfl (q_eql rfl rfl rfl) ?_
 refine la (v := B (decide (n.Op = 8))) rfl rfl rfl ?_
 refine wpL_nil ?_
 refine wpF_condP rfl (fun o8 => ?t180) (fun o8 => ?e180)
 case t180 =>
  refine wpF_seq ?_
  refine wpF_drawn [none, none, none, none, none, none, none, none, none, none, some 0, none] [[], [], [], [], [], [], [], [], [], [], [], []] (fun l b => match l with | 0 => True | _ => False) (by kernel_rfl) (by kernel_rfl) ?_
  refine rq 0 (by kernel_rfl) rfl rfl (q_loadBlk rfl rfl Tryz.isAgg72 (hS15.blk 1 rfl) rfl (labU_not [] rfl (fe))) ?_
  refine rq 1 (by kernel_rfl) rfl rfl (q_indexRd (k := 0) rfl Tryz.underlying72 el_Val_60_MeanC4 rfl rfl (hS15.rdl 10 rfl) (by omega) (by omega)) ?_
  refine rq 2 (by kernel_rfl) rfl rfl (q_fieldE (k := 0) rfl Tryz.underlying60 rfl Tryz.sizeOf57 rfl rfl (hS15.rdl 10 rfl) (by omega)) ?_
  obtain ⟨_, hcu82o3, hFu82o3⟩ := RdL.cellsF (Rd.list.1 (hS15.rdS 10 rfl)) 0 (by omega)
  obtain ⟨u82o3n2, rfl, hu82o30, hu82o31, hu82o32, hu82o33⟩ := hcu82o3
  refine rq 3 (by kernel_rfl) rfl rfl (q_loadF rfl rfl (hFu82o3 0 2 [I ((nth K 0).VNum), I ((nth K 0).VDen)] Tryz.prog 57 _ rfl rfl Tryz.isAgg57 Tryz.sizeOf57 (labU_sub [] rfl (fe)))) ?_
  refine rq 4 (by kernel_rfl) rfl rfl (q_loadBlk rfl rfl Tryz.isAgg72 (hS15.blk 1 rfl) rfl (labU_not [] rfl (fe))) ?_
  refine rq 5 (by kernel_rfl) rfl rfl (q_indexRd (k := 1) rfl Tryz.underlying72 el_Val_60_MeanC4 rfl rfl (hS15.rdl 10 rfl) (by omega) (by omega)) ?_
  refine rq 6 (by kernel_rfl) rfl rfl (q_fieldE (k := 1) rfl Tryz.underlying60 rfl Tryz.sizeOf57 rfl rfl (hS15.rdl 10 rfl) (by omega)) ?_
  obtain ⟨_, hcu82o7, hFu82o7⟩ := RdL.cellsF (Rd.list.1 (hS15.rdS 10 rfl)) 1 (by omega)
  obtain ⟨u82o7n2, rfl, hu82o70, hu82o71, hu82o72, hu82o73⟩ := hcu82o7
  refine rq 7 (by kernel_rfl) rfl rfl (q_loadF rfl rfl (hFu82o7 0 2 [I ((nth K 1).VNum), I ((nth K 1).VDen)] Tryz.prog 57 _ rfl rfl Tryz.isAgg57 Tryz.sizeOf57 (labU_sub [] rfl (fe)))) ?_
  refine rq 8 (by kernel_rfl) rfl rfl (q_eqlF2 rfl Tryz.eqGuardType57 (fl57_MeanC4 _ _ _ _) rfl rfl) ?_
  refine wpR_n [9] (by kernel_rfl) ?_
  refine fa ?_ fe
  refine exE rfl rfl ?_
  refine e_call rfl Tryz.call71 (arr1 (v0 := B (decide (((nth K 0).VNum) = ((nth K 1).VNum) ∧ ((nth K 0).VDen) = ((nth K 1).VDen)))) rfl) (truth_M (((nth K 0).VNum) = ((nth K 1).VNum) ∧ ((nth K 0).VDen) = ((nth K 1).VDen))) ?_
  rintro _ H82o9 ⟨hxx, rfl⟩
  have hS82o9 := hS15.ext hxx
  refine ⟨Ext.mono hxx (fun _ h => h.elim), ?_⟩
  refine wpR_n [10] (by kernel_rfl) ?_
  refine fa ?_ fe
  refine exE rfl rfl ?_
  refine e_storeBlkA (cs' := #[I (bitP (((nth K 0).VNum) = ((nth K 1).VNum) ∧ ((nth K 0).VDen) = ((nth K 1).VDen))), I (1), nS, I (0)]) rfl rfl rfl Tryz.sizeOf60 rfl rfl (fa rfl (fa rfl (fa rfl (fa rfl fe)))) hS82o9 (fun H82o10 hS82o10 hxx => ?_)
  refine ⟨Ext.mono hxx (labS_of 0 rfl (fun _ _ => trivial)), ?_⟩
  refine rq 11 (by kernel_rfl) rfl rfl (q_assign (v := B (true)) rfl rfl) ?_
  refine wpR_end (by kernel_rfl) ?_
  skip
  refine wpF_ret ?_
  refine ⟨_, resC rfl (loadV_blkA Tryz.isAgg60 Tryz.sizeOf60 rfl (hS82o10.blk 0 rfl)) (resT rfl resN), hS82o10.frame, ?_⟩
  show ∃ w_, (Value.tuple #[Vg #[I (bitP (((nth K 0).VNum) = ((nth K 1).VNum) ∧ ((nth K 0).VDen) = ((nth K 1).VDen))), I (1), nS, I (0)], B (true)]) = Value.tuple #[Vg #[I (valueV a w n K b).1.VNum, I (valueV a w n K b).1.VDen, w_, I (valueV a w n K b).1.Rest], B (valueV a w n K b).2] ∧ Rd (SZ S H0) H82o10 w_ (valueV a w n K b).1.Cells ∧ In64 (valueV a w n K b).1.VNum ∧ In64 (valueV a w n K b).1.VDen ∧ In64 (valueV a w n K b).1.Rest
  have hq_ := vv_8 (a := a) (w := w) (K := K) (b := b) o8
  rw [hq_]
  exact ⟨_, rfl, rdNil, (by first | assumption | exact bitP_in | exact (by constructor <;> decide : In64 0) | exact (by constructor <;> decide : In64 1)), (by first | assumption | exact bitP_in | exact (by constructor <;> decide : In64 0) | exact (by constructor <;> decide : In64 1)), (by first | assumption | exact bitP_in | exact (by constructor <;> decide : In64 0) | exact (by constructor <;> decide : In64 1))⟩
 refine wpF_seq ?_
 refine wpF_region ?_
 refine lq rfl (q_eql rfl rfl rfl) ?_
 refine la (v := B (decide (n.Op = 9))) rfl rfl rfl ?_
 refine wpL_nil ?_
 refine wpF_condP rfl (fun h85 => ?t179) (fun h85 => ?e179)
 case t179 =>
  obtain ⟨hf0, hf1, hf2⟩ := hV.found h85
  refine sc (fun f H => ∃ (r84o9 : Value), (In64 (nth w.Means ((findD a.Decls n.Name).toNat)).MNum) ∧ (In64 (nth w.Means ((findD a.Decls n.Name).toNat)).MDen) ∧ (In64 (nth w.Means ((findD a.Decls n.Name).toNat)).MRest) ∧ (In64 (toldV (nth w.Means ((findD a.Decls n.Name).toNat)) K).VNum) ∧ (In64 (toldV (nth w.Means ((findD a.Decls n.Name).toNat)) K).VDen) ∧ (In64 (toldV (nth w.Means ((findD a.Decls n.Name).toNat)) K).Rest) ∧ f 12 = PT g13 0 ∧ f 13 = B (true) ∧ St H0 NoB (SZ S H0) [bE g13 #[I ((toldV (nth w.Means ((findD a.Decls n.Name).toNat)) K).VNum), I ((toldV (nth w.Means ((findD a.Decls n.Name).toNat)) K).VDen), r84o9, I ((toldV (nth w.Means ((findD a.Decls n.Name).toNat)) K).Rest)] 60, rdE r84o9 ((toldV (nth w.Means ((findD a.Decls n.Name).toNat)) K).Cells), bE g10 #[vK] 72, bE g7 #[I (n.Op), vk, I (n.N), I (n.D), SB (n.Name)] 52, bE g4 #[vM] 29, bE g1 #[vD, vN, vH] 26, rdE vD a.Decls, rdE vN a.Nodes, rdE vH a.Hold, rdE vM w.Means, rdE vk n.Kids, rdE vK K] H) ?_ ?_
  ·refine wpF_drawn [none, none, none, none, none, none, none, none, none, none, some 0, none] [[], [], [], [], [], [], [], [], [], [], [], []] (fun l b => match l with | 0 => True | _ => False) (by kernel_rfl) (by kernel_rfl) ?_
   refine rq 0 (by kernel_rfl) rfl rfl (q_fieldAddr rfl Tryz.underlying29 rfl Tryz.sizeOf27 rfl) ?_
   refine rq 1 (by kernel_rfl) rfl rfl (q_loadBlk rfl rfl Tryz.isAgg27 (hS15.blk 3 rfl) rfl (labU_not [] rfl (fe))) ?_
   refine rq 2 (by kernel_rfl) rfl rfl (q_loadBlkA rfl rfl Tryz.isAgg26 Tryz.sizeOf26 rfl (hS15.blk 4 rfl) (labU_not [] rfl (fe))) ?_
   refine rq 3 (by kernel_rfl) rfl rfl (q_fieldAddr rfl Tryz.underlying52 rfl Tryz.sizeOf9 rfl) ?_
   refine rq 4 (by kernel_rfl) rfl rfl (q_loadBlk rfl rfl Tryz.isAgg9 (hS15.blk 2 rfl) rfl (labU_not [] rfl (fe))) ?_
   refine rq 8 (by kernel_rfl) rfl rfl (q_loadBlk rfl rfl Tryz.isAgg72 (hS15.blk 1 rfl) rfl (labU_not [] rfl (fe))) ?_
   refine wpR_n [5] (by kernel_rfl) ?_
   refine fa ?_ fe
   refine exE rfl rfl ?_
   refine e_call rfl Tryz.call51 (arr2 (v0 := Vg #[vD, vN, vH]) (v1 := SB (n.Name)) rfl rfl) (Find_L vD vN vH a n.Name (hS15.rdN 5 rfl) (hS15.rdN 6 rfl) (hS15.rdN 7 rfl)) ?_
   rintro _ H84o5 ⟨hxx, rfl⟩
   have hS84o5 := hS15.ext hxx
   refine ⟨Ext.mono hxx (fun _ h => h.elim), ?_⟩
   refine rq 6 (by kernel_rfl) rfl rfl (q_indexRd (k := (findD a.Decls n.Name).toNat) rfl Tryz.underlying27 el_Meaning_62_MeanC4 rfl rfl (hS84o5.rdl 8 rfl) (by omega) (by omega)) ?_
   obtain ⟨u84o7, huu84o7, hlu84o7⟩ := (Rd.list.1 (hS84o5.rdS 8 rfl)).elem ((findD a.Decls n.Name).toNat) (by omega)
   obtain ⟨u84o7n0, u84o7n3, rfl, hu84o70, hu84o71, hu84o72, hu84o73, hu84o74⟩ := Rd.meaning.1 huu84o7
   have hS84o7 := hS84o5.rd hu84o70
   have hS84o7x2 : St H0 NoB (SZ S H0) [rdE u84o7n3 ((nth w.Means ((findD a.Decls n.Name).toNat)).MCells), rdE u84o7n0 ((nth w.Means ((findD a.Decls n.Name).toNat)).Rows), bE g13 #[I (0), I (0), nS, I (0)] 60, bE g10 #[vK] 72, bE g7 #[I (n.Op), vk, I (n.N), I (n.D), SB (n.Name)] 52, bE g4 #[vM] 29, bE g1 #[vD, vN, vH] 26, rdE vD a.Decls, rdE vN a.Nodes, rdE vH a.Hold, rdE vM w.Means, rdE vk n.Kids, rdE vK K] H84o5 := hS84o7.rd (hu84o73.sub fun _ hb => SL_rd hb)
   refine rq 7 (by kernel_rfl) rfl rfl (q_loadE rfl rfl (hlu84o7 Tryz.prog 62 _ el_Meaning_62_MeanC4 (labU_sub [] rfl (fe)))) ?_
   refine wpR_n [9] (by kernel_rfl) ?_
   refine fa ?_ fe
   refine exE rfl rfl ?_
   refine e_call rfl Tryz.call73 (arr2 (v0 := Vg #[u84o7n0, I ((nth w.Means ((findD a.Decls n.Name).toNat)).MNum), I ((nth w.Means ((findD a.Decls n.Name).toNat)).MDen), u84o7n3, I ((nth w.Means ((findD a.Decls n.Name).toNat)).MRest)]) (v1 := vK) rfl rfl) (told_M u84o7n0 u84o7n3 vK (nth w.Means ((findD a.Decls n.Name).toNat)) K (hS84o7x2.rdS 1 rfl) (by first | assumption | exact bitP_in | exact wrap_in64 | (constructor <;> (dsimp only; omega)) | (constructor <;> omega)) (by first | assumption | exact bitP_in | exact wrap_in64 | (constructor <;> (dsimp only; omega)) | (constructor <;> omega)) (hS84o7x2.rdS 0 rfl) (by first | assumption | exact bitP_in | exact wrap_in64 | (constructor <;> (dsimp only; omega)) | (constructor <;> omega)) (hS84o7x2.rdS 12 rfl) hf2) ?_
   rintro _ H84o9 ⟨hxx, r84o9, rfl, hrr84o9, h6r84o9a, h6r84o9b, h6r84o9c⟩
   have hS84o9 := hS84o7x2.res hxx hrr84o9
   refine ⟨Ext.mono hxx (fun _ h => h.elim), ?_⟩
   refine wpR_n [10] (by kernel_rfl) ?_
   refine fa ?_ fe
   refine exE rfl rfl ?_
   refine e_storeBlkA (cs' := #[I ((toldV (nth w.Means ((findD a.Decls n.Name).toNat)) K).VNum), I ((toldV (nth w.Means ((findD a.Decls n.Name).toNat)) K).VDen), r84o9, I ((toldV (nth w.Means ((findD a.Decls n.Name).toNat)) K).Rest)]) rfl rfl rfl Tryz.sizeOf60 rfl rfl (fa rfl (fa rfl (fa ((oneCell_rdL (hS84o9.rdl 0 rfl))) (fa rfl fe)))) (hS84o9.front 3 rfl) (fun H84o10 hS84o10 hxx => ?_)
   refine ⟨Ext.mono hxx (labS_of 0 rfl (fun _ _ => trivial)), ?_⟩
   refine rq 11 (by kernel_rfl) rfl rfl (q_assign (v := B (true)) rfl rfl) ?_
   refine wpR_end (by kernel_rfl) ?_
   exact ⟨r84o9, hu84o71, hu84o72, hu84o74, h6r84o9a, h6r84o9b, h6r84o9c, rfl, rfl, (hS84o10.drop (sk (sk (sn (sn (sk (sk (sk (sk (sk (sk (sk (sk (sk (sk (List.Sublist.slnil))))))))))))))))⟩
  clear y5
  rintro f85 H85 ⟨r84o9, hu84o71, hu84o72, hu84o74, h6r84o9a, h6r84o9b, h6r84o9c, y12, y13, hS85⟩
  refine wpF_ret ?_
  refine ⟨_, resC y12 (loadV_blkA Tryz.isAgg60 Tryz.sizeOf60 rfl (hS85.blk 0 rfl)) (resT y13 resN), hS85.frame, ?_⟩
  show ∃ w_, (Value.tuple #[Vg #[I ((toldV (nth w.Means ((findD a.Decls n.Name).toNat)) K).VNum), I ((toldV (nth w.Means ((findD a.Decls n.Name).toNat)) K).VDen), r84o9, I ((toldV (nth w.Means ((findD a.Decls n.Name).toNat)) K).Rest)], B (true)]) = Value.tuple #[Vg #[I (valueV a w n K b).1.VNum, I (valueV a w n K b).1.VDen, w_, I (valueV a w n K b).1.Rest], B (valueV a w n K b).2] ∧ Rd (SZ S H0) H85 w_ (valueV a w n K b).1.Cells ∧ In64 (valueV a w n K b).1.VNum ∧ In64 (valueV a w n K b).1.VDen ∧ In64 (valueV a w n K b).1.Rest
  have hq_ := vv_9 (a := a) (w := w) (K := K) (b := b) h85
  rw [hq_]
  exact ⟨_, rfl, (hS85.result (hS85.rdS 1 rfl)), (by first | assumption | exact bitP_in | exact (by constructor <;> decide : In64 0) | exact (by constructor <;> decide : In64 1)), (by first | assumption | exact bitP_in | exact (by constructor <;> decide : In64 0) | exact (by constructor <;> decide : In64 1)), (by first | assumption | exact bitP_in | exact (by constructor <;> decide : In64 0) | exact (by constructor <;> decide : In64 1))⟩
 refine wpF_seq ?_
 refine wpF_region ?_
 refine lq rfl (q_eql rfl rfl rfl) ?_
 refine la (v := B (decide (n.Op = 10))) rfl rfl rfl ?_
 refine wpL_nil ?_
 refine wpF_condP rfl (fun o10 => ?t178) (fun o10 => ?e178)
 case t178 =>
  refine wpF_seq ?_
  refine wpF_region ?_
  refine lq rfl (q_fieldAddr rfl Tryz.underlying52 rfl Tryz.sizeOf3 rfl) ?_
  refine lq rfl (q_loadBlk rfl rfl Tryz.isAgg3 (hS15.blk 2 rfl) rfl (fun h => h)) ?_
  refine lq rfl (q_fieldAddr rfl Tryz.underlying52 rfl Tryz.sizeOf3 rfl) ?_
  refine lq rfl (q_loadBlk rfl rfl Tryz.isAgg3 (hS15.blk 2 rfl) rfl (fun h => h)) ?_
  refine lq rfl (q_build (v := Vg #[I (n.N), I (n.D)]) rfl (par2 (v0 := I (n.N)) (v1 := I (n.D)) rfl rfl) (fun w__ => by kernel_rfl)) ?_
  refine lq rfl (q_build (v := Vg #[I (n.N), I (n.D), nS, I (0)]) rfl (par1 (v0 := Vg #[I (n.N), I (n.D)]) rfl) (fun w__ => by kernel_rfl)) ?_
  refine lo rfl ?_
  refine e_storeBlkA (cs' := #[I (n.N), I (n.D), nS, I (0)]) rfl rfl rfl Tryz.sizeOf60 rfl rfl (fa rfl (fa rfl (fa rfl (fa rfl fe)))) hS15 (fun H87 hS88 hxx => ?_)
  refine la (v := B (true)) rfl rfl rfl ?_
  refine wpL_nil ?_
  refine wpF_ret ?_
  refine ⟨_, resC rfl (loadV_blkA Tryz.isAgg60 Tryz.sizeOf60 rfl (hS88.blk 0 rfl)) (resT rfl resN), hS88.frame, ?_⟩
  show ∃ w_, (Value.tuple #[Vg #[I (n.N), I (n.D), nS, I (0)], B (true)]) = Value.tuple #[Vg #[I (valueV a w n K b).1.VNum, I (valueV a w n K b).1.VDen, w_, I (valueV a w n K b).1.Rest], B (valueV a w n K b).2] ∧ Rd (SZ S H0) H87 w_ (valueV a w n K b).1.Cells ∧ In64 (valueV a w n K b).1.VNum ∧ In64 (valueV a w n K b).1.VDen ∧ In64 (valueV a w n K b).1.Rest
  have hq_ := vv_10 (a := a) (w := w) (K := K) (b := b) o10
  rw [hq_]
  exact ⟨_, rfl, rdNil, (by first | assumption | exact bitP_in | exact (by constructor <;> decide : In64 0) | exact (by constructor <;> decide : In64 1)), (by first | assumption | exact bitP_in | exact (by constructor <;> decide : In64 0) | exact (by constructor <;> decide : In64 1)), (by first | assumption | exact bitP_in | exact (by constructor <;> decide : In64 0) | exact (by constructor <;> decide : In64 1))⟩
 refine wpF_seq ?_
 refine wpF_seq ?_
 refine wpF_region ?_
 refine lq rfl (q_eql rfl rfl rfl) ?_
 refine la (v := B (decide (n.Op = 11))) rfl rfl rfl ?_
 refine wpL_nil ?_
 refine wpF_condP rfl (fun o11 => ?t177) (fun o11 => ?e177)
 case t177 =>
  refine wpF_skip ?_
  refine wpF_condT (Eq.trans rfl (congrArg B (decide_eq_true o11))) ?_
  refine fcr (fun f H => (In64 (numberV n K).1.VNum) ∧ (In64 (numberV n K).1.VDen) ∧ f 12 = PT g13 0 ∧ f 13 = B ((numberV n K).2) ∧ St H0 NoB (SZ S H0) [bE g13 #[I ((numberV n K).1.VNum), I ((numberV n K).1.VDen), nS, I (0)] 60, bE g10 #[vK] 72, bE g7 #[I (n.Op), vk, I (n.N), I (n.D), SB (n.Name)] 52, bE g4 #[vM] 29, bE g1 #[vD, vN, vH] 26, rdE vD a.Decls, rdE vN a.Nodes, rdE vH a.Hold, rdE vM w.Means, rdE vk n.Kids, rdE vK K] H) ?_ ?_
  ·refine lq rfl (q_loadBlkA rfl rfl Tryz.isAgg52 Tryz.sizeOf52 rfl (hS15.blk 2 rfl) (fun h => h)) ?_
   refine lq rfl (q_loadBlk rfl rfl Tryz.isAgg72 (hS15.blk 1 rfl) rfl (fun h => h)) ?_
   refine lo rfl ?_
   refine e_call rfl Tryz.call74 (arr2 (v0 := Vg #[I (n.Op), vk, I (n.N), I (n.D), SB (n.Name)]) (v1 := vK) rfl rfl) (number_M vk vK n K (by first | assumption | exact bitP_in | exact wrap_in64 | (constructor <;> (dsimp only; omega)) | (constructor <;> omega)) (hS15.rdN 9 rfl) (by first | assumption | exact bitP_in | exact wrap_in64 | (constructor <;> (dsimp only; omega)) | (constructor <;> omega)) (by first | assumption | exact bitP_in | exact wrap_in64 | (constructor <;> (dsimp only; omega)) | (constructor <;> omega)) (by first | assumption | exact Nat.zero_le _) (hS15.rdN 10 rfl) (fun h => hk1 (.inr h))) ?_
   rintro _ H91 ⟨hxx, rfl, h6z90a, h6z90b⟩
   have hS92 := hS15.ext hxx
   refine lq rfl (q_extract (vs := #[Vg #[I ((numberV n K).1.VNum), I ((numberV n K).1.VDen), nS, I (0)], B ((numberV n K).2)]) (v := Vg #[I ((numberV n K).1.VNum), I ((numberV n K).1.VDen), nS, I (0)]) rfl rfl rfl) ?_
   refine lq rfl (q_extract (vs := #[Vg #[I ((numberV n K).1.VNum), I ((numberV n K).1.VDen), nS, I (0)], B ((numberV n K).2)]) (v := B ((numberV n K).2)) rfl rfl rfl) ?_
   refine lo rfl ?_
   refine e_storeBlkA (cs' := #[I ((numberV n K).1.VNum), I ((numberV n K).1.VDen), nS, I (0)]) rfl rfl rfl Tryz.sizeOf60 rfl rfl (fa rfl (fa rfl (fa rfl (fa rfl fe)))) hS92 (fun H94 hS95 hxx => ?_)
   refine la (v := B ((numberV n K).2)) rfl rfl rfl ?_
   exact ⟨h6z90a, h6z90b, rfl, rfl, hS95⟩
  clear y5
  rintro f96 H96 ⟨h6z90a, h6z90b, y12, y13, hS96⟩
  refine wpF_ret ?_
  refine ⟨_, resC y12 (loadV_blkA Tryz.isAgg60 Tryz.sizeOf60 rfl (hS96.blk 0 rfl)) (resT y13 resN), hS96.frame, ?_⟩
  show ∃ w_, (Value.tuple #[Vg #[I ((numberV n K).1.VNum), I ((numberV n K).1.VDen), nS, I (0)], B ((numberV n K).2)]) = Value.tuple #[Vg #[I (valueV a w n K b).1.VNum, I (valueV a w n K b).1.VDen, w_, I (valueV a w n K b).1.Rest], B (valueV a w n K b).2] ∧ Rd (SZ S H0) H96 w_ (valueV a w n K b).1.Cells ∧ In64 (valueV a w n K b).1.VNum ∧ In64 (valueV a w n K b).1.VDen ∧ In64 (valueV a w n K b).1.Rest
  have hq_ := vv_11 (a := a) (w := w) (K := K) (b := b) o11
  rw [hq_]
  obtain ⟨hn1_, hn2_⟩ := numberV_flat (n := n) (K := K)
  rw [hn1_, hn2_]
  exact ⟨_, rfl, rdNil, by assumption, by assumption, (by constructor <;> decide : In64 0)⟩
 refine wpF_region ?_
 refine lq rfl (q_eql rfl rfl rfl) ?_
 refine la (v := B (decide (n.Op = 12))) rfl rfl rfl ?_
 refine wpL_nil ?_
 refine wpF_condP rfl (fun o12 => ?t176) (fun o12 => ?e176)
 case t176 =>
  refine fcr (fun f H => (In64 (numberV n K).1.VNum) ∧ (In64 (numberV n K).1.VDen) ∧ f 12 = PT g13 0 ∧ f 13 = B ((numberV n K).2) ∧ St H0 NoB (SZ S H0) [bE g13 #[I ((numberV n K).1.VNum), I ((numberV n K).1.VDen), nS, I (0)] 60, bE g10 #[vK] 72, bE g7 #[I (n.Op), vk, I (n.N), I (n.D), SB (n.Name)] 52, bE g4 #[vM] 29, bE g1 #[vD, vN, vH] 26, rdE vD a.Decls, rdE vN a.Nodes, rdE vH a.Hold, rdE vM w.Means, rdE vk n.Kids, rdE vK K] H) ?_ ?_
  ·refine lq rfl (q_loadBlkA rfl rfl Tryz.isAgg52 Tryz.sizeOf52 rfl (hS15.blk 2 rfl) (fun h => h)) ?_
   refine lq rfl (q_loadBlk rfl rfl Tryz.isAgg72 (hS15.blk 1 rfl) rfl (fun h => h)) ?_
   refine lo rfl ?_
   refine e_call rfl Tryz.call74 (arr2 (v0 := Vg #[I (n.Op), vk, I (n.N), I (n.D), SB (n.Name)]) (v1 := vK) rfl rfl) (number_M vk vK n K (by first | assumption | exact bitP_in | exact wrap_in64 | (constructor <;> (dsimp only; omega)) | (constructor <;> omega)) (hS15.rdN 9 rfl) (by first | assumption | exact bitP_in | exact wrap_in64 | (constructor <;> (dsimp only; omega)) | (constructor <;> omega)) (by first | assumption | exact bitP_in | exact wrap_in64 | (constructor <;> (dsimp only; omega)) | (constructor <;> omega)) (by first | assumption | exact Nat.zero_le _) (hS15.rdN 10 rfl) (fun h => hk1 (.inr h))) ?_
   rintro _ H99 ⟨hxx, rfl, h6z98a, h6z98b⟩
   have hS100 := hS15.ext hxx
   refine lq rfl (q_extract (vs := #[Vg #[I ((numberV n K).1.VNum), I ((numberV n K).1.VDen), nS, I (0)], B ((numberV n K).2)]) (v := Vg #[I ((numberV n K).1.VNum), I ((numberV n K).1.VDen), nS, I (0)]) rfl rfl rfl) ?_
   refine lq rfl (q_extract (vs := #[Vg #[I ((numberV n K).1.VNum), I ((numberV n K).1.VDen), nS, I (0)], B ((numberV n K).2)]) (v := B ((numberV n K).2)) rfl rfl rfl) ?_
   refine lo rfl ?_
   refine e_storeBlkA (cs' := #[I ((numberV n K).1.VNum), I ((numberV n K).1.VDen), nS, I (0)]) rfl rfl rfl Tryz.sizeOf60 rfl rfl (fa rfl (fa rfl (fa rfl (fa rfl fe)))) hS100 (fun H102 hS103 hxx => ?_)
   refine la (v := B ((numberV n K).2)) rfl rfl rfl ?_
   exact ⟨h6z98a, h6z98b, rfl, rfl, hS103⟩
  clear y5
  rintro f104 H104 ⟨h6z98a, h6z98b, y12, y13, hS104⟩
  refine wpF_ret ?_
  refine ⟨_, resC y12 (loadV_blkA Tryz.isAgg60 Tryz.sizeOf60 rfl (hS104.blk 0 rfl)) (resT y13 resN), hS104.frame, ?_⟩
  show ∃ w_, (Value.tuple #[Vg #[I ((numberV n K).1.VNum), I ((numberV n K).1.VDen), nS, I (0)], B ((numberV n K).2)]) = Value.tuple #[Vg #[I (valueV a w n K b).1.VNum, I (valueV a w n K b).1.VDen, w_, I (valueV a w n K b).1.Rest], B (valueV a w n K b).2] ∧ Rd (SZ S H0) H104 w_ (valueV a w n K b).1.Cells ∧ In64 (valueV a w n K b).1.VNum ∧ In64 (valueV a w n K b).1.VDen ∧ In64 (valueV a w n K b).1.Rest
  have hq_ := vv_12 (a := a) (w := w) (K := K) (b := b) o12
  rw [hq_]
  obtain ⟨hn1_, hn2_⟩ := numberV_flat (n := n) (K := K)
  rw [hn1_, hn2_]
  exact ⟨_, rfl, rdNil, by assumption, by assumption, (by constructor <;> decide : In64 0)⟩
 refine wpF_seq ?_
 refine wpF_region ?_
 refine lq rfl (q_eql rfl rfl rfl) ?_
 refine la (v := B (decide (n.Op = 13))) rfl rfl rfl ?_
 refine wpL_nil ?_
 refine wpF_condP rfl (fun o13 => ?t175) (fun o13 => ?e175)
 case t175 =>
  refine sc (fun f H => (In64 (nth K 0).VNum) ∧ (In64 (nth K 0).VDen) ∧ (In64 (nth K 1).VNum) ∧ (In64 (nth K 1).VDen) ∧ f 12 = PT g13 0 ∧ f 17 = B (lessB ((nth K 0).fr) ((nth K 1).fr)) ∧ St H0 NoB (SZ S H0) [bE g13 #[I (0), I (0), nS, I (0)] 60, bE g10 #[vK] 72, bE g7 #[I (n.Op), vk, I (n.N), I (n.D), SB (n.Name)] 52, bE g4 #[vM] 29, bE g1 #[vD, vN, vH] 26, rdE vD a.Decls, rdE vN a.Nodes, rdE vH a.Hold, rdE vM w.Means, rdE vk n.Kids, rdE vK K] H) ?_ ?_
  ·refine wpF_drawn [none, none, none, none, none, none, none, none, none, none, none, none, none, none, some 0] [[], [], [], [], [], [], [], [], [], [], [], [], [], [], []] (fun l b => match l with | 0 => True | _ => False) (by kernel_rfl) (by kernel_rfl) ?_
   refine rq 0 (by kernel_rfl) rfl rfl (q_loadBlk rfl rfl Tryz.isAgg72 (hS15.blk 1 rfl) rfl (labU_not [] rfl (fe))) ?_
   refine rq 1 (by kernel_rfl) rfl rfl (q_indexRd (k := 0) rfl Tryz.underlying72 el_Val_60_MeanC4 rfl rfl (hS15.rdl 10 rfl) (by omega) (by omega)) ?_
   refine rq 2 (by kernel_rfl) rfl rfl (q_fieldE (k := 0) rfl Tryz.underlying60 rfl Tryz.sizeOf57 rfl rfl (hS15.rdl 10 rfl) (by omega)) ?_
   obtain ⟨_, hcu106o3, hFu106o3⟩ := RdL.cellsF (Rd.list.1 (hS15.rdS 10 rfl)) 0 (by omega)
   obtain ⟨u106o3n2, rfl, hu106o30, hu106o31, hu106o32, hu106o33⟩ := hcu106o3
   refine rq 3 (by kernel_rfl) rfl rfl (q_loadF rfl rfl (hFu106o3 0 2 [I ((nth K 0).VNum), I ((nth K 0).VDen)] Tryz.prog 57 _ rfl rfl Tryz.isAgg57 Tryz.sizeOf57 (labU_sub [] rfl (fe)))) ?_
   refine rq 4 (by kernel_rfl) rfl rfl (q_loadBlk rfl rfl Tryz.isAgg72 (hS15.blk 1 rfl) rfl (labU_not [] rfl (fe))) ?_
   refine rq 5 (by kernel_rfl) rfl rfl (q_indexRd (k := 1) rfl Tryz.underlying72 el_Val_60_MeanC4 rfl rfl (hS15.rdl 10 rfl) (by omega) (by omega)) ?_
   refine rq 6 (by kernel_rfl) rfl rfl (q_fieldE (k := 1) rfl Tryz.underlying60 rfl Tryz.sizeOf57 rfl rfl (hS15.rdl 10 rfl) (by omega)) ?_
   obtain ⟨_, hcu106o7, hFu106o7⟩ := RdL.cellsF (Rd.list.1 (hS15.rdS 10 rfl)) 1 (by omega)
   obtain ⟨u106o7n2, rfl, hu106o70, hu106o71, hu106o72, hu106o73⟩ := hcu106o7
   refine rq 7 (by kernel_rfl) rfl rfl (q_loadF rfl rfl (hFu106o7 0 2 [I ((nth K 1).VNum), I ((nth K 1).VDen)] Tryz.prog 57 _ rfl rfl Tryz.isAgg57 Tryz.sizeOf57 (labU_sub [] rfl (fe)))) ?_
   refine wpR_n [8, 12] (by kernel_rfl) ?_
   refine fa ?_ (fa ?_ fe)
   ·refine exE rfl rfl ?_
    refine e_call rfl Tryz.call75 (arr2 (v0 := Vg #[I ((nth K 0).VNum), I ((nth K 0).VDen)]) (v1 := Vg #[I ((nth K 1).VNum), I ((nth K 1).VDen)]) rfl rfl) (Less_F ((nth K 0).fr) ((nth K 1).fr) (by first | assumption | (constructor <;> (try dsimp only) <;> omega)) (by first | assumption | (constructor <;> (try dsimp only) <;> omega)) (by first | assumption | (constructor <;> (try dsimp only) <;> omega)) (by first | assumption | (constructor <;> (try dsimp only) <;> omega))) ?_
    rintro _ H106o8 ⟨hxx, z107, z108, rfl⟩
    have hS106o8 := hS15.ext hxx
    refine ⟨Ext.mono hxx (fun _ h => h.elim), ?_⟩
    refine rq 9 (by kernel_rfl) rfl rfl (q_move (v := Value.tuple #[B (lessB ((nth K 0).fr) ((nth K 1).fr)), Vg #[I (z107), I (z108)]]) rfl rfl) ?_
    refine rq 10 (by kernel_rfl) rfl rfl (q_extract (vs := #[B (lessB ((nth K 0).fr) ((nth K 1).fr)), Vg #[I (z107), I (z108)]]) (v := B (lessB ((nth K 0).fr) ((nth K 1).fr))) rfl rfl rfl) ?_
    refine rq 11 (by kernel_rfl) rfl rfl (q_extract (vs := #[B (lessB ((nth K 0).fr) ((nth K 1).fr)), Vg #[I (z107), I (z108)]]) (v := Vg #[I (z107), I (z108)]) rfl rfl rfl) ?_
    refine wpR_n [12] (by kernel_rfl) ?_
    refine fa ?_ fe
    refine exE rfl rfl ?_
    refine e_alloc rfl Tryz.zeroValue32 hS106o8 (fun g106o12 H106o12 hS106o12 hxx => ?_)
    refine ⟨Ext.mono hxx (fun _ h => h.elim), ?_⟩
    refine rq 13 (by kernel_rfl) rfl rfl (q_assign (v := B (lessB ((nth K 0).fr) ((nth K 1).fr))) rfl rfl) ?_
    refine wpR_n [14] (by kernel_rfl) ?_
    refine fa ?_ fe
    refine exE rfl rfl ?_
    refine e_storeBlkA (cs' := #[I (z107), I (z108)]) rfl rfl rfl Tryz.sizeOf32 rfl rfl (fa rfl (fa rfl fe)) hS106o12 (fun H106o14 hS106o14 hxx => ?_)
    refine ⟨Ext.mono hxx (labS_of 0 rfl (fun _ _ => trivial)), ?_⟩
    refine wpR_end (by kernel_rfl) ?_
    exact ⟨hu106o30, hu106o31, hu106o70, hu106o71, rfl, rfl, (hS106o14.drop (sn (sk (sk (sk (sk (sk (sk (sk (sk (sk (sk (sk (List.Sublist.slnil))))))))))))))⟩
   ·refine exE rfl rfl ?_
    refine e_alloc rfl Tryz.zeroValue32 hS15 (fun g106o12 H106o12 hS106o12 hxx => ?_)
    refine ⟨Ext.mono hxx (fun _ h => h.elim), ?_⟩
    refine wpR_n [8] (by kernel_rfl) ?_
    refine fa ?_ fe
    refine exE rfl rfl ?_
    refine e_call rfl Tryz.call75 (arr2 (v0 := Vg #[I ((nth K 0).VNum), I ((nth K 0).VDen)]) (v1 := Vg #[I ((nth K 1).VNum), I ((nth K 1).VDen)]) rfl rfl) (Less_F ((nth K 0).fr) ((nth K 1).fr) (by first | assumption | (constructor <;> (try dsimp only) <;> omega)) (by first | assumption | (constructor <;> (try dsimp only) <;> omega)) (by first | assumption | (constructor <;> (try dsimp only) <;> omega)) (by first | assumption | (constructor <;> (try dsimp only) <;> omega))) ?_
    rintro _ H106o8 ⟨hxx, z109, z110, rfl⟩
    have hS106o8 := hS106o12.ext hxx
    refine ⟨Ext.mono hxx (fun _ h => h.elim), ?_⟩
    refine rq 9 (by kernel_rfl) rfl rfl (q_move (v := Value.tuple #[B (lessB ((nth K 0).fr) ((nth K 1).fr)), Vg #[I (z109), I (z110)]]) rfl rfl) ?_
    refine rq 10 (by kernel_rfl) rfl rfl (q_extract (vs := #[B (lessB ((nth K 0).fr) ((nth K 1).fr)), Vg #[I (z109), I (z110)]]) (v := B (lessB ((nth K 0).fr) ((nth K 1).fr))) rfl rfl rfl) ?_
    refine rq 11 (by kernel_rfl) rfl rfl (q_extract (vs := #[B (lessB ((nth K 0).fr) ((nth K 1).fr)), Vg #[I (z109), I (z110)]]) (v := Vg #[I (z109), I (z110)]) rfl rfl rfl) ?_
    refine rq 13 (by kernel_rfl) rfl rfl (q_assign (v := B (lessB ((nth K 0).fr) ((nth K 1).fr))) rfl rfl) ?_
    refine wpR_n [14] (by kernel_rfl) ?_
    refine fa ?_ fe
    refine exE rfl rfl ?_
    refine e_storeBlkA (cs' := #[I (z109), I (z110)]) rfl rfl rfl Tryz.sizeOf32 rfl rfl (fa rfl (fa rfl fe)) hS106o8 (fun H106o14 hS106o14 hxx => ?_)
    refine ⟨Ext.mono hxx (labS_of 0 rfl (fun _ _ => trivial)), ?_⟩
    refine wpR_end (by kernel_rfl) ?_
    exact ⟨hu106o30, hu106o31, hu106o70, hu106o71, rfl, rfl, (hS106o14.drop (sn (sk (sk (sk (sk (sk (sk (sk (sk (sk (sk (sk (List.Sublist.slnil))))))))))))))⟩
  clear y5
  rintro f111 H111 ⟨hu106o30, hu106o31, hu106o70, hu106o71, y12, y17, hS111⟩
  refine wpF_seq ?_
  refine wpF_region ?_
  refine lm (v := B (lessB ((nth K 0).fr) ((nth K 1).fr))) rfl rfl y17 ?_
  refine lo rfl ?_
  refine e_call rfl Tryz.call71 (arr1 (v0 := B (lessB ((nth K 0).fr) ((nth K 1).fr))) rfl) (truth_MB (lessB ((nth K 0).fr) ((nth K 1).fr))) ?_
  rintro _ H112 ⟨hxx, rfl⟩
  have hS113 := hS111.ext hxx
  refine lo rfl ?_
  refine e_storeBlkA (cs' := #[I (bitP ((lessB ((nth K 0).fr) ((nth K 1).fr)) = true)), I (1), nS, I (0)]) rfl y12 rfl Tryz.sizeOf60 rfl rfl (fa rfl (fa rfl (fa rfl (fa rfl fe)))) hS113 (fun H115 hS116 hxx => ?_)
  refine la (v := B (true)) rfl rfl rfl ?_
  refine wpL_nil ?_
  refine wpF_ret ?_
  refine ⟨_, resC y12 (loadV_blkA Tryz.isAgg60 Tryz.sizeOf60 rfl (hS116.blk 0 rfl)) (resT rfl resN), hS116.frame, ?_⟩
  show ∃ w_, (Value.tuple #[Vg #[I (bitP ((lessB ((nth K 0).fr) ((nth K 1).fr)) = true)), I (1), nS, I (0)], B (true)]) = Value.tuple #[Vg #[I (valueV a w n K b).1.VNum, I (valueV a w n K b).1.VDen, w_, I (valueV a w n K b).1.Rest], B (valueV a w n K b).2] ∧ Rd (SZ S H0) H115 w_ (valueV a w n K b).1.Cells ∧ In64 (valueV a w n K b).1.VNum ∧ In64 (valueV a w n K b).1.VDen ∧ In64 (valueV a w n K b).1.Rest
  have hq_ := vv_13 (a := a) (w := w) (K := K) (b := b) o13
  rw [hq_]
  exact ⟨_, rfl, rdNil, (by first | assumption | exact bitP_in | exact (by constructor <;> decide : In64 0) | exact (by constructor <;> decide : In64 1)), (by first | assumption | exact bitP_in | exact (by constructor <;> decide : In64 0) | exact (by constructor <;> decide : In64 1)), (by first | assumption | exact bitP_in | exact (by constructor <;> decide : In64 0) | exact (by constructor <;> decide : In64 1))⟩
 refine wpF_seq ?_
 refine wpF_region ?_
 refine lq rfl (q_eql rfl rfl rfl) ?_
 refine la (v := B (decide (n.Op = 14))) rfl rfl rfl ?_
 refine wpL_nil ?_
 refine wpF_condP rfl (fun o14 => ?t174) (fun o14 => ?e174)
 case t174 =>
  refine sc (fun f H => (In64 (nth K 1).VNum) ∧ (In64 (nth K 1).VDen) ∧ (In64 (nth K 0).VNum) ∧ (In64 (nth K 0).VDen) ∧ f 12 = PT g13 0 ∧ f 19 = B (lessB ((nth K 1).fr) ((nth K 0).fr)) ∧ St H0 NoB (SZ S H0) [bE g13 #[I (0), I (0), nS, I (0)] 60, bE g10 #[vK] 72, bE g7 #[I (n.Op), vk, I (n.N), I (n.D), SB (n.Name)] 52, bE g4 #[vM] 29, bE g1 #[vD, vN, vH] 26, rdE vD a.Decls, rdE vN a.Nodes, rdE vH a.Hold, rdE vM w.Means, rdE vk n.Kids, rdE vK K] H) ?_ ?_
  ·refine wpF_drawn [none, none, none, none, none, none, none, none, none, none, none, none, none, none, some 0] [[], [], [], [], [], [], [], [], [], [], [], [], [], [], []] (fun l b => match l with | 0 => True | _ => False) (by kernel_rfl) (by kernel_rfl) ?_
   refine rq 0 (by kernel_rfl) rfl rfl (q_loadBlk rfl rfl Tryz.isAgg72 (hS15.blk 1 rfl) rfl (labU_not [] rfl (fe))) ?_
   refine rq 1 (by kernel_rfl) rfl rfl (q_indexRd (k := 1) rfl Tryz.underlying72 el_Val_60_MeanC4 rfl rfl (hS15.rdl 10 rfl) (by omega) (by omega)) ?_
   refine rq 2 (by kernel_rfl) rfl rfl (q_fieldE (k := 1) rfl Tryz.underlying60 rfl Tryz.sizeOf57 rfl rfl (hS15.rdl 10 rfl) (by omega)) ?_
   obtain ⟨_, hcu118o3, hFu118o3⟩ := RdL.cellsF (Rd.list.1 (hS15.rdS 10 rfl)) 1 (by omega)
   obtain ⟨u118o3n2, rfl, hu118o30, hu118o31, hu118o32, hu118o33⟩ := hcu118o3
   refine rq 3 (by kernel_rfl) rfl rfl (q_loadF rfl rfl (hFu118o3 0 2 [I ((nth K 1).VNum), I ((nth K 1).VDen)] Tryz.prog 57 _ rfl rfl Tryz.isAgg57 Tryz.sizeOf57 (labU_sub [] rfl (fe)))) ?_
   refine rq 4 (by kernel_rfl) rfl rfl (q_loadBlk rfl rfl Tryz.isAgg72 (hS15.blk 1 rfl) rfl (labU_not [] rfl (fe))) ?_
   refine rq 5 (by kernel_rfl) rfl rfl (q_indexRd (k := 0) rfl Tryz.underlying72 el_Val_60_MeanC4 rfl rfl (hS15.rdl 10 rfl) (by omega) (by omega)) ?_
   refine rq 6 (by kernel_rfl) rfl rfl (q_fieldE (k := 0) rfl Tryz.underlying60 rfl Tryz.sizeOf57 rfl rfl (hS15.rdl 10 rfl) (by omega)) ?_
   obtain ⟨_, hcu118o7, hFu118o7⟩ := RdL.cellsF (Rd.list.1 (hS15.rdS 10 rfl)) 0 (by omega)
   obtain ⟨u118o7n2, rfl, hu118o70, hu118o71, hu118o72, hu118o73⟩ := hcu118o7
   refine rq 7 (by kernel_rfl) rfl rfl (q_loadF rfl rfl (hFu118o7 0 2 [I ((nth K 0).VNum), I ((nth K 0).VDen)] Tryz.prog 57 _ rfl rfl Tryz.isAgg57 Tryz.sizeOf57 (labU_sub [] rfl (fe)))) ?_
   refine wpR_n [8, 12] (by kernel_rfl) ?_
   refine fa ?_ (fa ?_ fe)
   ·refine exE rfl rfl ?_
    refine e_call rfl Tryz.call75 (arr2 (v0 := Vg #[I ((nth K 1).VNum), I ((nth K 1).VDen)]) (v1 := Vg #[I ((nth K 0).VNum), I ((nth K 0).VDen)]) rfl rfl) (Less_F ((nth K 1).fr) ((nth K 0).fr) (by first | assumption | (constructor <;> (try dsimp only) <;> omega)) (by first | assumption | (constructor <;> (try dsimp only) <;> omega)) (by first | assumption | (constructor <;> (try dsimp only) <;> omega)) (by first | assumption | (constructor <;> (try dsimp only) <;> omega))) ?_
    rintro _ H118o8 ⟨hxx, z119, z120, rfl⟩
    have hS118o8 := hS15.ext hxx
    refine ⟨Ext.mono hxx (fun _ h => h.elim), ?_⟩
    refine rq 9 (by kernel_rfl) rfl rfl (q_move (v := Value.tuple #[B (lessB ((nth K 1).fr) ((nth K 0).fr)), Vg #[I (z119), I (z120)]]) rfl rfl) ?_
    refine rq 10 (by kernel_rfl) rfl rfl (q_extract (vs := #[B (lessB ((nth K 1).fr) ((nth K 0).fr)), Vg #[I (z119), I (z120)]]) (v := B (lessB ((nth K 1).fr) ((nth K 0).fr))) rfl rfl rfl) ?_
    refine rq 11 (by kernel_rfl) rfl rfl (q_extract (vs := #[B (lessB ((nth K 1).fr) ((nth K 0).fr)), Vg #[I (z119), I (z120)]]) (v := Vg #[I (z119), I (z120)]) rfl rfl rfl) ?_
    refine wpR_n [12] (by kernel_rfl) ?_
    refine fa ?_ fe
    refine exE rfl rfl ?_
    refine e_alloc rfl Tryz.zeroValue32 hS118o8 (fun g118o12 H118o12 hS118o12 hxx => ?_)
    refine ⟨Ext.mono hxx (fun _ h => h.elim), ?_⟩
    refine rq 13 (by kernel_rfl) rfl rfl (q_assign (v := B (lessB ((nth K 1).fr) ((nth K 0).fr))) rfl rfl) ?_
    refine wpR_n [14] (by kernel_rfl) ?_
    refine fa ?_ fe
    refine exE rfl rfl ?_
    refine e_storeBlkA (cs' := #[I (z119), I (z120)]) rfl rfl rfl Tryz.sizeOf32 rfl rfl (fa rfl (fa rfl fe)) hS118o12 (fun H118o14 hS118o14 hxx => ?_)
    refine ⟨Ext.mono hxx (labS_of 0 rfl (fun _ _ => trivial)), ?_⟩
    refine wpR_end (by kernel_rfl) ?_
    exact ⟨hu118o30, hu118o31, hu118o70, hu118o71, rfl, rfl, (hS118o14.drop (sn (sk (sk (sk (sk (sk (sk (sk (sk (sk (sk (sk (List.Sublist.slnil))))))))))))))⟩
   ·refine exE rfl rfl ?_
    refine e_alloc rfl Tryz.zeroValue32 hS15 (fun g118o12 H118o12 hS118o12 hxx => ?_)
    refine ⟨Ext.mono hxx (fun _ h => h.elim), ?_⟩
    refine wpR_n [8] (by kernel_rfl) ?_
    refine fa ?_ fe
    refine exE rfl rfl ?_
    refine e_call rfl Tryz.call75 (arr2 (v0 := Vg #[I ((nth K 1).VNum), I ((nth K 1).VDen)]) (v1 := Vg #[I ((nth K 0).VNum), I ((nth K 0).VDen)]) rfl rfl) (Less_F ((nth K 1).fr) ((nth K 0).fr) (by first | assumption | (constructor <;> (try dsimp only) <;> omega)) (by first | assumption | (constructor <;> (try dsimp only) <;> omega)) (by first | assumption | (constructor <;> (try dsimp only) <;> omega)) (by first | assumption | (constructor <;> (try dsimp only) <;> omega))) ?_
    rintro _ H118o8 ⟨hxx, z121, z122, rfl⟩
    have hS118o8 := hS118o12.ext hxx
    refine ⟨Ext.mono hxx (fun _ h => h.elim), ?_⟩
    refine rq 9 (by kernel_rfl) rfl rfl (q_move (v := Value.tuple #[B (lessB ((nth K 1).fr) ((nth K 0).fr)), Vg #[I (z121), I (z122)]]) rfl rfl) ?_
    refine rq 10 (by kernel_rfl) rfl rfl (q_extract (vs := #[B (lessB ((nth K 1).fr) ((nth K 0).fr)), Vg #[I (z121), I (z122)]]) (v := B (lessB ((nth K 1).fr) ((nth K 0).fr))) rfl rfl rfl) ?_
    refine rq 11 (by kernel_rfl) rfl rfl (q_extract (vs := #[B (lessB ((nth K 1).fr) ((nth K 0).fr)), Vg #[I (z121), I (z122)]]) (v := Vg #[I (z121), I (z122)]) rfl rfl rfl) ?_
    refine rq 13 (by kernel_rfl) rfl rfl (q_assign (v := B (lessB ((nth K 1).fr) ((nth K 0).fr))) rfl rfl) ?_
    refine wpR_n [14] (by kernel_rfl) ?_
    refine fa ?_ fe
    refine exE rfl rfl ?_
    refine e_storeBlkA (cs' := #[I (z121), I (z122)]) rfl rfl rfl Tryz.sizeOf32 rfl rfl (fa rfl (fa rfl fe)) hS118o8 (fun H118o14 hS118o14 hxx => ?_)
    refine ⟨Ext.mono hxx (labS_of 0 rfl (fun _ _ => trivial)), ?_⟩
    refine wpR_end (by kernel_rfl) ?_
    exact ⟨hu118o30, hu118o31, hu118o70, hu118o71, rfl, rfl, (hS118o14.drop (sn (sk (sk (sk (sk (sk (sk (sk (sk (sk (sk (sk (List.Sublist.slnil))))))))))))))⟩
  clear y5
  rintro f123 H123 ⟨hu118o30, hu118o31, hu118o70, hu118o71, y12, y19, hS123⟩
  refine wpF_seq ?_
  refine wpF_region ?_
  refine lm (v := B (lessB ((nth K 1).fr) ((nth K 0).fr))) rfl rfl y19 ?_
  refine lq rfl (q_not rfl rfl) ?_
  refine lo rfl ?_
  refine e_call rfl Tryz.call71 (arr1 (v0 := B (!(lessB ((nth K 1).fr) ((nth K 0).fr)))) rfl) (truth_MB (!(lessB ((nth K 1).fr) ((nth K 0).fr)))) ?_
  rintro _ H124 ⟨hxx, rfl⟩
  have hS125 := hS123.ext hxx
  refine lo rfl ?_
  refine e_storeBlkA (cs' := #[I (bitP ((!(lessB ((nth K 1).fr) ((nth K 0).fr))) = true)), I (1), nS, I (0)]) rfl y12 rfl Tryz.sizeOf60 rfl rfl (fa rfl (fa rfl (fa rfl (fa rfl fe)))) hS125 (fun H127 hS128 hxx => ?_)
  refine la (v := B (true)) rfl rfl rfl ?_
  refine wpL_nil ?_
  refine wpF_ret ?_
  refine ⟨_, resC y12 (loadV_blkA Tryz.isAgg60 Tryz.sizeOf60 rfl (hS128.blk 0 rfl)) (resT rfl resN), hS128.frame, ?_⟩
  show ∃ w_, (Value.tuple #[Vg #[I (bitP ((!(lessB ((nth K 1).fr) ((nth K 0).fr))) = true)), I (1), nS, I (0)], B (true)]) = Value.tuple #[Vg #[I (valueV a w n K b).1.VNum, I (valueV a w n K b).1.VDen, w_, I (valueV a w n K b).1.Rest], B (valueV a w n K b).2] ∧ Rd (SZ S H0) H127 w_ (valueV a w n K b).1.Cells ∧ In64 (valueV a w n K b).1.VNum ∧ In64 (valueV a w n K b).1.VDen ∧ In64 (valueV a w n K b).1.Rest
  have hq_ := vv_14 (a := a) (w := w) (K := K) (b := b) o14
  rw [hq_]
  exact ⟨_, rfl, rdNil, (by first | assumption | exact bitP_in | exact (by constructor <;> decide : In64 0) | exact (by constructor <;> decide : In64 1)), (by first | assumption | exact bitP_in | exact (by constructor <;> decide : In64 0) | exact (by constructor <;> decide : In64 1)), (by first | assumption | exact bitP_in | exact (by constructor <;> decide : In64 0) | exact (by constructor <;> decide : In64 1))⟩
 refine fcr (fun f H => f 5 = I (b) ∧ f 9 = PT g7 0 ∧ f 10 = PT g10 0 ∧ f 12 = PT g13 0 ∧ f 28 = I (n.Op) ∧ f 146 = B (decide (n.Op = 24)) ∧ H14 = H) ?_ ?_
 ·refine lq rfl (q_eql rfl rfl rfl) ?_
  refine la (v := B (decide (n.Op = 24))) rfl rfl rfl ?_
  exact ⟨y5, rfl, rfl, rfl, rfl, rfl, rfl⟩
 clear y5
 rintro f129 _ ⟨y5, y9, y10, y12, y28, y146, rfl⟩
 refine wpF_condP y146 (fun o24 => ?t173) (fun o24 => ?e173)
 case t173 =>
  refine wpF_seq ?_
  refine wpF_drawn [none, none, none, none, none, none, none, none, none, none, some 0, none] [[], [], [], [], [], [], [], [], [], [], [], []] (fun l b => match l with | 0 => True | _ => False) (by kernel_rfl) (by kernel_rfl) ?_
  refine rq 0 (by kernel_rfl) rfl rfl (q_loadBlk rfl y10 Tryz.isAgg72 (hS15.blk 1 rfl) rfl (labU_not [] rfl (fe))) ?_
  refine rq 1 (by kernel_rfl) rfl rfl (q_indexRd (k := 0) rfl Tryz.underlying72 el_Val_60_MeanC4 rfl rfl (hS15.rdl 10 rfl) (by omega) (by omega)) ?_
  obtain ⟨u131o2, huu131o2, hlu131o2⟩ := (Rd.list.1 (hS15.rdS 10 rfl)).elem 0 (by omega)
  obtain ⟨u131o2n2, rfl, hu131o20, hu131o21, hu131o22, hu131o23⟩ := Rd.val.1 huu131o2
  have hS131o2 := hS15.rd hu131o22
  refine rq 2 (by kernel_rfl) rfl rfl (q_loadE rfl rfl (hlu131o2 Tryz.prog 60 _ el_Val_60_MeanC4 (labU_sub [] rfl (fe)))) ?_
  refine rq 3 (by kernel_rfl) rfl rfl (q_loadBlk rfl y10 Tryz.isAgg72 (hS131o2.blk 2 rfl) rfl (labU_not [] rfl (fe))) ?_
  refine rq 4 (by kernel_rfl) rfl rfl (q_indexRd (k := 1) rfl Tryz.underlying72 el_Val_60_MeanC4 rfl rfl (hS131o2.rdl 11 rfl) (by omega) (by omega)) ?_
  refine rq 5 (by kernel_rfl) rfl rfl (q_fieldE (k := 1) rfl Tryz.underlying60 rfl Tryz.sizeOf57 rfl rfl (hS131o2.rdl 11 rfl) (by omega)) ?_
  refine rq 6 (by kernel_rfl) rfl rfl (q_fieldF (k := 1) rfl Tryz.underlying57 rfl Tryz.sizeOf3 rfl rfl (hS131o2.rdl 11 rfl) (by omega)) ?_
  obtain ⟨_, hcu131o7, hFu131o7⟩ := (Rd.list.1 (hS131o2.rdS 11 rfl)).cellF 1 (by omega)
  obtain ⟨u131o7n2, rfl, hu131o70, hu131o71, hu131o72, hu131o73⟩ := hcu131o7
  refine rq 7 (by kernel_rfl) rfl rfl (q_loadF rfl rfl (hFu131o7 0 _ Tryz.prog 3 _ rfl Tryz.isAgg3 (labU_sub [] rfl (fe)))) ?_
  refine wpR_n [8] (by kernel_rfl) ?_
  refine fa ?_ fe
  refine exE rfl rfl ?_
  refine e_call rfl Tryz.call77 (arr2 (v0 := Vg #[I ((nth K 0).VNum), I ((nth K 0).VDen), u131o2n2, I ((nth K 0).Rest)]) (v1 := I ((nth K 1).VNum)) rfl rfl) (get_M u131o2n2 (nth K 0) ((nth K 1).VNum) (by first | assumption | exact bitP_in | exact wrap_in64 | (constructor <;> (dsimp only; omega)) | (constructor <;> omega)) (by first | assumption | exact bitP_in | exact wrap_in64 | (constructor <;> (dsimp only; omega)) | (constructor <;> omega)) (hS131o2.rdN 0 rfl) (by first | assumption | exact bitP_in | exact wrap_in64 | (constructor <;> (dsimp only; omega)) | (constructor <;> omega))) ?_
  rintro _ H131o8 ⟨hxx, rfl, h6z132⟩
  have hS131o8 := hS131o2.ext hxx
  refine ⟨Ext.mono hxx (fun _ h => h.elim), ?_⟩
  refine wpR_n [9] (by kernel_rfl) ?_
  refine fa ?_ fe
  refine exE rfl rfl ?_
  refine e_call rfl Tryz.call76 (arr1 (v0 := I ((gotV (nth K 0) ((nth K 1).VNum)))) rfl) (num_M (gotV (nth K 0) ((nth K 1).VNum))) ?_
  rintro _ H131o9 ⟨hxx, rfl⟩
  have hS131o9 := hS131o8.ext hxx
  refine ⟨Ext.mono hxx (fun _ h => h.elim), ?_⟩
  refine wpR_n [10] (by kernel_rfl) ?_
  refine fa ?_ fe
  refine exE rfl rfl ?_
  refine e_storeBlkA (cs' := #[I ((gotV (nth K 0) ((nth K 1).VNum))), I (1), nS, I (0)]) rfl y12 rfl Tryz.sizeOf60 rfl rfl (fa rfl (fa rfl (fa rfl (fa rfl fe)))) (hS131o9.front 1 rfl) (fun H131o10 hS131o10 hxx => ?_)
  refine ⟨Ext.mono hxx (labS_of 0 rfl (fun _ _ => trivial)), ?_⟩
  refine rq 11 (by kernel_rfl) rfl rfl (q_assign (v := B (true)) rfl rfl) ?_
  refine wpR_end (by kernel_rfl) ?_
  skip
  refine wpF_ret ?_
  refine ⟨_, resC y12 (loadV_blkA Tryz.isAgg60 Tryz.sizeOf60 rfl (hS131o10.blk 0 rfl)) (resT rfl resN), hS131o10.frame, ?_⟩
  show ∃ w_, (Value.tuple #[Vg #[I ((gotV (nth K 0) ((nth K 1).VNum))), I (1), nS, I (0)], B (true)]) = Value.tuple #[Vg #[I (valueV a w n K b).1.VNum, I (valueV a w n K b).1.VDen, w_, I (valueV a w n K b).1.Rest], B (valueV a w n K b).2] ∧ Rd (SZ S H0) H131o10 w_ (valueV a w n K b).1.Cells ∧ In64 (valueV a w n K b).1.VNum ∧ In64 (valueV a w n K b).1.VDen ∧ In64 (valueV a w n K b).1.Rest
  have hq_ := vv_24 (a := a) (w := w) (K := K) (b := b) o24
  rw [hq_]
  exact ⟨_, rfl, rdNil, (by first | assumption | exact bitP_in | exact (by constructor <;> decide : In64 0) | exact (by constructor <;> decide : In64 1)), (by first | assumption | exact bitP_in | exact (by constructor <;> decide : In64 0) | exact (by constructor <;> decide : In64 1)), (by first | assumption | exact bitP_in | exact (by constructor <;> decide : In64 0) | exact (by constructor <;> decide : In64 1))⟩
 refine wpF_seq ?_
 refine wpF_region ?_
 refine lq rfl (q_eql rfl y28 rfl) ?_
 refine la (v := B (decide (n.Op = 25))) rfl rfl rfl ?_
 refine wpL_nil ?_
 refine wpF_condP rfl (fun o25 => ?t172) (fun o25 => ?e172)
 case t172 =>
  refine wpF_seq ?_
  refine wpF_drawn [none, none, none, none, none, none, none, none, none, none, none, none, none, none, some 0, none] [[], [], [], [], [], [], [], [], [], [], [], [], [], [], [], []] (fun l b => match l with | 0 => True | _ => False) (by kernel_rfl) (by kernel_rfl) ?_
  refine rq 0 (by kernel_rfl) rfl rfl (q_loadBlk rfl y10 Tryz.isAgg72 (hS15.blk 1 rfl) rfl (labU_not [] rfl (fe))) ?_
  refine rq 1 (by kernel_rfl) rfl rfl (q_indexRd (k := 0) rfl Tryz.underlying72 el_Val_60_MeanC4 rfl rfl (hS15.rdl 10 rfl) (by omega) (by omega)) ?_
  obtain ⟨u134o2, huu134o2, hlu134o2⟩ := (Rd.list.1 (hS15.rdS 10 rfl)).elem 0 (by omega)
  obtain ⟨u134o2n2, rfl, hu134o20, hu134o21, hu134o22, hu134o23⟩ := Rd.val.1 huu134o2
  have hS134o2 := hS15.rd hu134o22
  refine rq 2 (by kernel_rfl) rfl rfl (q_loadE rfl rfl (hlu134o2 Tryz.prog 60 _ el_Val_60_MeanC4 (labU_sub [] rfl (fe)))) ?_
  refine rq 3 (by kernel_rfl) rfl rfl (q_loadBlk rfl y10 Tryz.isAgg72 (hS134o2.blk 2 rfl) rfl (labU_not [] rfl (fe))) ?_
  refine rq 4 (by kernel_rfl) rfl rfl (q_indexRd (k := 1) rfl Tryz.underlying72 el_Val_60_MeanC4 rfl rfl (hS134o2.rdl 11 rfl) (by omega) (by omega)) ?_
  refine rq 5 (by kernel_rfl) rfl rfl (q_fieldE (k := 1) rfl Tryz.underlying60 rfl Tryz.sizeOf57 rfl rfl (hS134o2.rdl 11 rfl) (by omega)) ?_
  refine rq 6 (by kernel_rfl) rfl rfl (q_fieldF (k := 1) rfl Tryz.underlying57 rfl Tryz.sizeOf3 rfl rfl (hS134o2.rdl 11 rfl) (by omega)) ?_
  obtain ⟨_, hcu134o7, hFu134o7⟩ := (Rd.list.1 (hS134o2.rdS 11 rfl)).cellF 1 (by omega)
  obtain ⟨u134o7n2, rfl, hu134o70, hu134o71, hu134o72, hu134o73⟩ := hcu134o7
  refine rq 7 (by kernel_rfl) rfl rfl (q_loadF rfl rfl (hFu134o7 0 _ Tryz.prog 3 _ rfl Tryz.isAgg3 (labU_sub [] rfl (fe)))) ?_
  refine rq 8 (by kernel_rfl) rfl rfl (q_loadBlk rfl y10 Tryz.isAgg72 (hS134o2.blk 2 rfl) rfl (labU_not [] rfl (fe))) ?_
  refine rq 9 (by kernel_rfl) rfl rfl (q_indexRd (k := 2) rfl Tryz.underlying72 el_Val_60_MeanC4 rfl rfl (hS134o2.rdl 11 rfl) (by omega) (by omega)) ?_
  refine rq 10 (by kernel_rfl) rfl rfl (q_fieldE (k := 2) rfl Tryz.underlying60 rfl Tryz.sizeOf57 rfl rfl (hS134o2.rdl 11 rfl) (by omega)) ?_
  refine rq 11 (by kernel_rfl) rfl rfl (q_fieldF (k := 2) rfl Tryz.underlying57 rfl Tryz.sizeOf3 rfl rfl (hS134o2.rdl 11 rfl) (by omega)) ?_
  obtain ⟨_, hcu134o12, hFu134o12⟩ := (Rd.list.1 (hS134o2.rdS 11 rfl)).cellF 2 (by omega)
  obtain ⟨u134o12n2, rfl, hu134o120, hu134o121, hu134o122, hu134o123⟩ := hcu134o12
  refine rq 12 (by kernel_rfl) rfl rfl (q_loadF rfl rfl (hFu134o12 0 _ Tryz.prog 3 _ rfl Tryz.isAgg3 (labU_sub [] rfl (fe)))) ?_
  refine wpR_n [13] (by kernel_rfl) ?_
  refine fa ?_ fe
  refine exE rfl rfl ?_
  refine e_call rfl Tryz.call78 (arr3 (v0 := Vg #[I ((nth K 0).VNum), I ((nth K 0).VDen), u134o2n2, I ((nth K 0).Rest)]) (v1 := I ((nth K 1).VNum)) (v2 := I ((nth K 2).VNum)) rfl rfl rfl) (put_V u134o2n2 (nth K 0) ((nth K 1).VNum) ((nth K 2).VNum) (by first | assumption | exact bitP_in | exact wrap_in64 | (constructor <;> (dsimp only; omega)) | (constructor <;> omega)) (by first | assumption | exact bitP_in | exact wrap_in64 | (constructor <;> (dsimp only; omega)) | (constructor <;> omega)) (hS134o2.rdS 0 rfl) (by first | assumption | exact bitP_in | exact wrap_in64 | (constructor <;> (dsimp only; omega)) | (constructor <;> omega)) (by first | assumption | exact bitP_in | exact wrap_in64 | (constructor <;> (dsimp only; omega)) | (constructor <;> omega)) (by first | assumption | exact bitP_in | exact wrap_in64 | (constructor <;> (dsimp only; omega)) | (constructor <;> omega)) hks) ?_
  rintro _ H134o13 ⟨hxx, r134o13, rfl, hrr134o13, h6r134o13a, h6r134o13b, h6r134o13c⟩
  have hS134o13 := hS134o2.res hxx hrr134o13
  refine ⟨Ext.mono hxx (fun _ h => h.elim), ?_⟩
  refine wpR_n [14] (by kernel_rfl) ?_
  refine fa ?_ fe
  refine exE rfl rfl ?_
  refine e_storeBlkA (cs' := #[I ((putV (nth K 0) ((nth K 1).VNum) ((nth K 2).VNum)).VNum), I ((putV (nth K 0) ((nth K 1).VNum) ((nth K 2).VNum)).VDen), r134o13, I ((putV (nth K 0) ((nth K 1).VNum) ((nth K 2).VNum)).Rest)]) rfl y12 rfl Tryz.sizeOf60 rfl rfl (fa rfl (fa rfl (fa ((oneCell_rdL (hS134o13.rdl 0 rfl))) (fa rfl fe)))) (hS134o13.front 2 rfl) (fun H134o14 hS134o14 hxx => ?_)
  refine ⟨Ext.mono hxx (labS_of 0 rfl (fun _ _ => trivial)), ?_⟩
  refine rq 15 (by kernel_rfl) rfl rfl (q_assign (v := B (true)) rfl rfl) ?_
  refine wpR_end (by kernel_rfl) ?_
  skip
  refine wpF_ret ?_
  refine ⟨_, resC y12 (loadV_blkA Tryz.isAgg60 Tryz.sizeOf60 rfl (hS134o14.blk 0 rfl)) (resT rfl resN), hS134o14.frame, ?_⟩
  show ∃ w_, (Value.tuple #[Vg #[I ((putV (nth K 0) ((nth K 1).VNum) ((nth K 2).VNum)).VNum), I ((putV (nth K 0) ((nth K 1).VNum) ((nth K 2).VNum)).VDen), r134o13, I ((putV (nth K 0) ((nth K 1).VNum) ((nth K 2).VNum)).Rest)], B (true)]) = Value.tuple #[Vg #[I (valueV a w n K b).1.VNum, I (valueV a w n K b).1.VDen, w_, I (valueV a w n K b).1.Rest], B (valueV a w n K b).2] ∧ Rd (SZ S H0) H134o14 w_ (valueV a w n K b).1.Cells ∧ In64 (valueV a w n K b).1.VNum ∧ In64 (valueV a w n K b).1.VDen ∧ In64 (valueV a w n K b).1.Rest
  have hq_ := vv_25 (a := a) (w := w) (K := K) (b := b) o25
  rw [hq_]
  exact ⟨_, rfl, (hS134o14.result (hS134o14.rdS 1 rfl)), (by first | assumption | exact bitP_in | exact (by constructor <;> decide : In64 0) | exact (by constructor <;> decide : In64 1)), (by first | assumption | exact bitP_in | exact (by constructor <;> decide : In64 0) | exact (by constructor <;> decide : In64 1)), (by first | assumption | exact bitP_in | exact (by constructor <;> decide : In64 0) | exact (by constructor <;> decide : In64 1))⟩
 refine wpF_skip ?_
 refine wpF_seq ?_
 refine wpF_region ?_
 refine la (v := nS) rfl rfl rfl ?_
 refine wpL_nil ?_
 have hS135 : St H0 NoB (SZ S H0) [rowE 3 nS ([] : List Int), bE g13 #[I (0), I (0), nS, I (0)] 60, bE g10 #[vK] 72, bE g7 #[I (n.Op), vk, I (n.N), I (n.D), SB (n.Name)] 52, bE g4 #[vM] 29, bE g1 #[vD, vN, vH] 26, rdE vD a.Decls, rdE vN a.Nodes, rdE vH a.Hold, rdE vM w.Means, rdE vk n.Kids, rdE vK K] H14 := hS15.row0 3
 refine wpF_seq ?_
 refine wpF_seq ?_
 refine wpF_region ?_
 refine lq rfl (q_loadBlk rfl y10 Tryz.isAgg72 (hS135.blk 2 rfl) rfl (fun h => h)) ?_
 refine lq rfl (q_lenRd rfl Tryz.underlying72 rfl (hS135.rdl 11 rfl)) ?_
 refine lm (v := I (0)) rfl rfl rfl ?_
 refine wpL_nil ?_
 refine wpF_block ?_
 refine wpF_loop (fun mz f H => ∃ (j : Nat), ∃ (vo : Value), mz = K.length - j ∧ (j ≤ K.length) ∧ f 5 = I (b) ∧ f 9 = PT g7 0 ∧ f 12 = PT g13 0 ∧ f 21 = vo ∧ f 174 = vK ∧ f 175 = I ((K.length : Int)) ∧ f 176 = I ((j : Int)) ∧ St H0 NoB (SZ S H0) [rowE 3 vo (nums (K.take j) : List Int), bE g13 #[I (0), I (0), nS, I (0)] 60, bE g10 #[vK] 72, bE g7 #[I (n.Op), vk, I (n.N), I (n.D), SB (n.Name)] 52, bE g4 #[vM] 29, bE g1 #[vD, vN, vH] 26, rdE vD a.Decls, rdE vN a.Nodes, rdE vH a.Hold, rdE vM w.Means, rdE vk n.Kids, rdE vK K] H) (K.length - 0) ?_ ?_
 ·exact ⟨0, nS, rfl, Nat.zero_le _, y5, y9, y12, rfl, rfl, rfl, (Eq.trans rfl (congrArg I (by omega))), (show St H0 NoB (SZ S H0) [rowE 3 nS (nums (K.take 0) : List Int), bE g13 #[I (0), I (0), nS, I (0)] 60, bE g10 #[vK] 72, bE g7 #[I (n.Op), vk, I (n.N), I (n.D), SB (n.Name)] 52, bE g4 #[vM] 29, bE g1 #[vD, vN, vH] 26, rdE vD a.Decls, rdE vN a.Nodes, rdE vH a.Hold, rdE vM w.Means, rdE vk n.Kids, rdE vK K] H14 from hS135)⟩
 intro m136 f136 H136 hI136
 clear y12 y5 y9
 obtain ⟨j, vo, hm136, hj, y5, y9, y12, y21, y174, y175, y176, hS136⟩ := hI136
 refine wpF_seq ?_
 refine wpF_region ?_
 refine lq rfl (q_lss rfl y176 y175) ?_
 refine wpL_nil ?_
 refine wpF_seq ?_
 refine wpF_condP rfl (fun hltj => ?t171) (fun hltj => ?e171)
 case t171 =>
  refine wpF_skip ?_
  refine wpF_seq ?_
  refine wpF_block ?_
  refine wpF_seq ?_
  refine wpF_region ?_
  refine lq rfl (q_indexRd (k := j) rfl Tryz.underlying72 el_Val_60_MeanC4 y174 y176 (hS136.rdl 11 rfl) (by omega) (by omega)) ?_
  obtain ⟨u139, huu139, hlu139⟩ := (Rd.list.1 (hS136.rdS 11 rfl)).elem j (by omega)
  obtain ⟨u139n2, rfl, hu1390, hu1391, hu1392, hu1393⟩ := Rd.val.1 huu139
  have hS140 := hS136.rd hu1392
  refine lq rfl (q_loadE rfl rfl (hlu139 Tryz.prog 60 _ el_Val_60_MeanC4 (fun _ h => False.elim h))) ?_
  refine lo rfl ?_
  refine e_alloc rfl Tryz.zeroValue60 hS140 (fun g141 H142 hS143 hxx => ?_)
  refine lo rfl ?_
  refine e_storeBlkA (cs' := #[I ((nth K j).VNum), I ((nth K j).VDen), u139n2, I ((nth K j).Rest)]) rfl rfl rfl Tryz.sizeOf60 rfl rfl (fa rfl (fa rfl (fa ((oneCell_rdL (hS143.rdl 1 rfl))) (fa rfl fe)))) hS143 (fun H144 hS145 hxx => ?_)
  refine wpL_nil ?_
  refine wpF_region ?_
  refine lm (v := vo) rfl rfl y21 ?_
  refine lq rfl (q_fieldAddr rfl Tryz.underlying60 rfl Tryz.sizeOf57 rfl) ?_
  refine lq rfl (q_fieldAddr rfl Tryz.underlying57 rfl Tryz.sizeOf3 rfl) ?_
  refine lq rfl (q_loadBlk rfl rfl Tryz.isAgg3 (hS145.blk 0 rfl) rfl (fun h => h)) ?_
  refine lo rfl ?_
  refine e_buildSlice (vs := [I ((nth K j).VNum)]) (xs := ([(nth K j).VNum] : List Int)) rfl Tryz.underlying24 Tryz.zeroValue3 rfl Tryz.sizeOf3 (par1 (v0 := I ((nth K j).VNum)) rfl) rfl hS145 (RdVs.cons (Rd.int.2 ⟨rfl, by first | assumption | (constructor <;> omega)⟩) (RdVs.nil)) (by decide) (by decide) (fun v146 H147 hS148 hxx hvv146 => ?_)
  have hS149 : St H0 NoB (SZ S H0) [rdE v146 ([(nth K j).VNum] : List Int), bE g141 #[I ((nth K j).VNum), I ((nth K j).VDen), u139n2, I ((nth K j).Rest)] 60, rdE u139n2 ((nth K j).Cells), rowE 3 vo (nums (K.take j) : List Int), bE g13 #[I (0), I (0), nS, I (0)] 60, bE g10 #[vK] 72, bE g7 #[I (n.Op), vk, I (n.N), I (n.D), SB (n.Name)] 52, bE g4 #[vM] 29, bE g1 #[vD, vN, vH] 26, rdE vD a.Decls, rdE vN a.Nodes, rdE vH a.Hold, rdE vM w.Means, rdE vk n.Kids, rdE vK K] H147 := St.fin hS148
  have hS150 := (hS149.front 3 rfl)
  refine lo rfl ?_
  refine e_append rfl Tryz.underlying24 em_Int_3_MeanC4 rfl rfl hS150 (hS150.rdS 1 rfl) (fun _ h => h) (by have hb : GoT.bytes Int = 8 := rfl; rw [hb]; simp only [List.length_append, nums_len, List.length_take, List.length_cons, List.length_nil]; omega) (by decide) (fun v151 H152 hS153 hxx => ?_)
  have hS154 : St H0 NoB (SZ S H0) [rowE 3 v151 (nums (K.take (j + 1)) : List Int), rdE v146 ([(nth K j).VNum] : List Int), bE g141 #[I ((nth K j).VNum), I ((nth K j).VDen), u139n2, I ((nth K j).Rest)] 60, rdE u139n2 ((nth K j).Cells), bE g13 #[I (0), I (0), nS, I (0)] 60, bE g10 #[vK] 72, bE g7 #[I (n.Op), vk, I (n.N), I (n.D), SB (n.Name)] 52, bE g4 #[vM] 29, bE g1 #[vD, vN, vH] 26, rdE vD a.Decls, rdE vN a.Nodes, rdE vH a.Hold, rdE vM w.Means, rdE vk n.Kids, rdE vK K] H152 := by rw [show (nums (K.take (j + 1))) = ((nums (K.take j)) ++ ([(nth K j).VNum])) from (nums_next (by omega)).symm]; exact hS153
  refine la (v := v151) rfl rfl rfl ?_
  refine wpL_nil ?_
  refine wpF_region ?_
  refine lq rfl (q_add rfl y176 rfl (by constructor <;> omega)) ?_
  refine lm (v := I ((j : Int) + 1)) rfl rfl rfl ?_
  refine wpL_nil ?_
  refine ⟨_, ?_, j + 1, v151, rfl, (by omega), y5, y9, y12, rfl, y174, y175, (Eq.trans rfl (congrArg I (by omega))), (hS154.drop (sk (sn (sn (sn (sk (sk (sk (sk (sk (sk (sk (sk (sk (sk (sk (List.Sublist.slnil)))))))))))))))))⟩
  omega
 have hS138 : St H0 NoB (SZ S H0) [rowE 3 vo (nums K : List Int), bE g13 #[I (0), I (0), nS, I (0)] 60, bE g10 #[vK] 72, bE g7 #[I (n.Op), vk, I (n.N), I (n.D), SB (n.Name)] 52, bE g4 #[vM] 29, bE g1 #[vD, vN, vH] 26, rdE vD a.Decls, rdE vN a.Nodes, rdE vH a.Hold, rdE vM w.Means, rdE vk n.Kids, rdE vK K] H136 := by have h__ := hS136; rw [List.take_of_length_le (show K.length ≤ j by omega)] at h__; exact h__
 refine wpF_exit ?_
 refine atX_here ?_
 refine wpF_seq ?_
 refine wpF_region ?_
 refine lq rfl (q_fieldAddr rfl Tryz.underlying52 rfl Tryz.sizeOf3 y9) ?_
 refine lq rfl (q_loadBlk rfl rfl Tryz.isAgg3 (hS138.blk 3 rfl) rfl (fun h => h)) ?_
 refine lm (v := I (b)) rfl rfl y5 ?_
 refine lm (v := vo) rfl rfl y21 ?_
 refine lq rfl (q_fieldAddr rfl Tryz.underlying52 rfl Tryz.sizeOf3 y9) ?_
 refine lq rfl (q_loadBlk rfl rfl Tryz.isAgg3 (hS138.blk 3 rfl) rfl (fun h => h)) ?_
 have hS155 : St H0 NoB (SZ S H0) [rdE vo (nums K), bE g13 #[I (0), I (0), nS, I (0)] 60, bE g10 #[vK] 72, bE g7 #[I (n.Op), vk, I (n.N), I (n.D), SB (n.Name)] 52, bE g4 #[vM] 29, bE g1 #[vD, vN, vH] 26, rdE vD a.Decls, rdE vN a.Nodes, rdE vH a.Hold, rdE vM w.Means, rdE vk n.Kids, rdE vK K] H136 := St.fin hS138
 refine lo rfl ?_
 refine e_call rfl Tryz.call79 (arr4 (v0 := I (n.Op)) (v1 := I (b)) (v2 := vo) (v3 := I (n.N)) rfl rfl rfl rfl) (Do_W vo n.Op b (nums K) n.N (hS155.rdN 0 rfl)) ?_
 rintro _ H158 ⟨hxx, z156, z157, rfl, h6z156⟩
 have hS159 := hS155.ext hxx
 refine lm (v := Value.tuple #[I (wordV n.Op b (nums K) n.N), Vg #[I (z156), I (z157)]]) rfl rfl rfl ?_
 refine lq rfl (q_extract (vs := #[I (wordV n.Op b (nums K) n.N), Vg #[I (z156), I (z157)]]) (v := I (wordV n.Op b (nums K) n.N)) rfl rfl rfl) ?_
 refine lq rfl (q_extract (vs := #[I (wordV n.Op b (nums K) n.N), Vg #[I (z156), I (z157)]]) (v := Vg #[I (z156), I (z157)]) rfl rfl rfl) ?_
 refine lo rfl ?_
 refine e_alloc rfl Tryz.zeroValue32 hS159 (fun g161 H162 hS163 hxx => ?_)
 refine la (v := I (wordV n.Op b (nums K) n.N)) rfl rfl rfl ?_
 refine lo rfl ?_
 refine e_storeBlkA (cs' := #[I (z156), I (z157)]) rfl rfl rfl Tryz.sizeOf32 rfl rfl (fa rfl (fa rfl fe)) hS163 (fun H164 hS165 hxx => ?_)
 refine wpL_nil ?_
 refine wpF_seq ?_
 refine wpF_region ?_
 refine lm (v := I (wordV n.Op b (nums K) n.N)) rfl rfl rfl ?_
 refine lo rfl ?_
 refine e_call rfl Tryz.call76 (arr1 (v0 := I (wordV n.Op b (nums K) n.N)) rfl) (num_M (wordV n.Op b (nums K) n.N)) ?_
 rintro _ H166 ⟨hxx, rfl⟩
 have hS167 := hS165.ext hxx
 refine lo rfl ?_
 refine e_storeBlkA (cs' := #[I (wordV n.Op b (nums K) n.N), I (1), nS, I (0)]) rfl y12 rfl Tryz.sizeOf60 rfl rfl (fa rfl (fa rfl (fa rfl (fa rfl fe)))) (hS167.front 2 rfl) (fun H169 hS170 hxx => ?_)
 refine la (v := B (true)) rfl rfl rfl ?_
 refine wpL_nil ?_
 refine wpF_ret ?_
 refine ⟨_, resC y12 (loadV_blkA Tryz.isAgg60 Tryz.sizeOf60 rfl (hS170.blk 0 rfl)) (resT rfl resN), hS170.frame, ?_⟩
 show ∃ w_, (Value.tuple #[Vg #[I (wordV n.Op b (nums K) n.N), I (1), nS, I (0)], B (true)]) = Value.tuple #[Vg #[I (valueV a w n K b).1.VNum, I (valueV a w n K b).1.VDen, w_, I (valueV a w n K b).1.Rest], B (valueV a w n K b).2] ∧ Rd (SZ S H0) H169 w_ (valueV a w n K b).1.Cells ∧ In64 (valueV a w n K b).1.VNum ∧ In64 (valueV a w n K b).1.VDen ∧ In64 (valueV a w n K b).1.Rest
 have hq_ := vv_w (a := a) (w := w) (K := K) (b := b) o1 o2 o3 o4 o5 o6 o7 o8 h85 o10 o11 o12 o13 o14 o24 o25
 rw [hq_]
 exact ⟨_, rfl, rdNil, (by first | assumption | exact bitP_in | exact (by constructor <;> decide : In64 0) | exact (by constructor <;> decide : In64 1)), (by first | assumption | exact bitP_in | exact (by constructor <;> decide : In64 0) | exact (by constructor <;> decide : In64 1)), (by first | assumption | exact bitP_in | exact (by constructor <;> decide : In64 0) | exact (by constructor <;> decide : In64 1))⟩
end Go.Um
