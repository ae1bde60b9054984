import Derived.Test.YtacphjgolmolmaaProg
import Derived.Test.YtacphjgolmolmaaMeanC3
import Derived.Test.YtacphjgolmolmaaUmArrDownC
namespace Go.Um
open Go.Proofs
open GoT (sz ag rdc)
open KeyT (kv)
theorem el_Meaning_71_MeanC4 : ElT Try.prog Meaning 71 := ⟨Try.isAgg71, Try.sizeOf71⟩
theorem el_Val_69_MeanC4 : ElT Try.prog Val 69 := ⟨Try.isAgg69, Try.sizeOf69⟩
theorem em_Int_3_MeanC4 : ElemOk Try.prog Int 3 := ⟨Try.t3, (.int .i64 0), by kernel_rfl, by kernel_rfl, by kernel_rfl, by kernel_rfl, by kernel_rfl⟩
theorem fl66_MeanC4 (a b c d : Int) (w : World) : (Op.equalIn 10000 66 (.agg #[I a, I b]) (.agg #[I c, I d])).run Try.prog w = .ok (decide (a = c ∧ b = d)) w := eq2_run Try.underlying66 Try.underlying3 Try.underlying3 (by decide) (by decide) rfl rfl Try.isAgg3 Try.isAgg3 Try.stoodInHeld66 a b c d w
set_option maxHeartbeats 1000000 in
set_option maxRecDepth 100000 in
theorem number_M {H0 : Heap} (vk vK : Value) (n : Node) (K : List Val) (h6nOp : In64 n.Op) (rvk : Rd NoB H0 vk n.Kids) (h6nN : In64 n.N) (h6nD : In64 n.D) (h6nName : n.Name.size ≤ maxLen) (rK : Rd NoB H0 vK K) (hK1 : n.Op = 12 → K.length = 1) : CallsH Try.prog 72 #[Vg #[I (n.Op), vk, I (n.N), I (n.D), SB (n.Name)], vK] H0 (fun rv_ H' => Ext NoB H0 H' ∧ rv_ = Value.tuple #[Vg #[I (numberV n K).1.VNum, I (numberV n K).1.VDen, Value.slice none 0 0, I 0], B (numberV n K).2] ∧ In64 (numberV n K).1.VNum ∧ In64 (numberV n K).1.VDen) := by
 have hsK : K.length * 48 ≤ 140737488355328 := (Rd.list.1 rK).bound
 have hS0 : St H0 NoB NoB [rdE vk n.Kids, rdE vK K] H0 := St.arg (St.arg (St.start (fun _ h => h.elim)) (Bl0.nil) rK (fun _ h => h)) (Bl0.cons (Bl0.nil)) rvk (fun _ h => h)
 refine callsH_of_wpF (args := [Vg #[I (n.Op), vk, I (n.N), I (n.D), SB (n.Name)], vK]) (rs := [.cell 4 69, .tmp 5]) Try.func72 rfl Try.ntmps72 Try.results72 (by kernel_rfl) (Nat.le_of_ble_eq_true rfl) ?_
 have y0 : argF [Vg #[I (n.Op), vk, I (n.N), I (n.D), SB (n.Name)], vK] 0 = Vg #[I (n.Op), vk, I (n.N), I (n.D), SB (n.Name)] := rfl
 have y1 : argF [Vg #[I (n.Op), vk, I (n.N), I (n.D), SB (n.Name)], vK] 1 = vK := rfl
 generalize argF [Vg #[I (n.Op), vk, I (n.N), I (n.D), SB (n.Name)], vK] = f0 at *
 refine fcr (fun f H => ∃ (g1 : Nat), ∃ (g4 : Nat), f 1 = vK ∧ f 2 = PT g1 0 ∧ f 4 = PT g4 0 ∧ St H0 NoB NoB [bE g4 #[I (0), I (0), nS, I (0)] 69, bE g1 #[I (n.Op), vk, I (n.N), I (n.D), SB (n.Name)] 37, rdE vk n.Kids, rdE vK K] H) ?_ ?_
 ·refine lo rfl ?_
  refine e_box (v := Vg #[I (n.Op), vk, I (n.N), I (n.D), SB (n.Name)]) rfl y0 hS0 (fun g1 H2 hS3 hxx => ?_)
  refine lo rfl ?_
  refine e_alloc rfl Try.zeroValue69 hS3 (fun g4 H5 hS6 hxx => ?_)
  refine la (v := B (false)) rfl rfl rfl ?_
  exact ⟨g1, g4, y1, rfl, rfl, hS6⟩
 clear y0 y1
 rintro f7 H7 ⟨g1, g4, y1, y2, y4, hS7⟩
 refine fcr (fun f H => ∃ (g8 : Nat), f 1 = vK ∧ f 2 = PT g1 0 ∧ f 4 = PT g4 0 ∧ f 6 = PT g8 0 ∧ St H0 NoB NoB [bE g8 #[I (0), I (1)] 66, bE g4 #[I (0), I (0), nS, I (0)] 69, bE g1 #[I (n.Op), vk, I (n.N), I (n.D), SB (n.Name)] 37, rdE vk n.Kids, rdE vK K] H) ?_ ?_
 ·refine lq rfl (q_build (v := Vg #[I (0), I (1)]) rfl (par1 (v0 := I (1)) rfl) (fun w__ => by kernel_rfl)) ?_
  refine lo rfl ?_
  refine e_alloc rfl Try.zeroValue66 hS7 (fun g8 H9 hS10 hxx => ?_)
  refine lo rfl ?_
  refine e_storeBlkA (cs' := #[I (0), I (1)]) rfl rfl rfl Try.sizeOf66 rfl rfl (fa rfl (fa rfl fe)) hS10 (fun H11 hS12 hxx => ?_)
  exact ⟨g8, y1, y2, y4, rfl, hS12⟩
 clear y1 y2 y4
 rintro f13 H13 ⟨g8, y1, y2, y4, y6, hS13⟩
 refine fcr (fun f H => ∃ (g14 : Nat), f 1 = vK ∧ f 2 = PT g1 0 ∧ f 4 = PT g4 0 ∧ f 6 = PT g8 0 ∧ f 7 = PT g14 0 ∧ St H0 NoB NoB [bE g14 #[I (0), I (0)] 28, bE g8 #[I (0), I (1)] 66, bE g4 #[I (0), I (0), nS, I (0)] 69, bE g1 #[I (n.Op), vk, I (n.N), I (n.D), SB (n.Name)] 37, rdE vk n.Kids, rdE vK K] H) ?_ ?_
 ·refine lo rfl ?_
  refine e_alloc rfl Try.zeroValue28 hS13 (fun g14 H15 hS16 hxx => ?_)
  exact ⟨g14, y1, y2, y4, y6, rfl, hS16⟩
 clear y1 y2 y4 y6
 rintro f17 H17 ⟨g14, y1, y2, y4, y6, y7, hS17⟩
 refine wpF_seq ?_
 refine fcr (fun f H => f 1 = vK ∧ f 2 = PT g1 0 ∧ f 4 = PT g4 0 ∧ f 6 = PT g8 0 ∧ f 7 = PT g14 0 ∧ f 13 = B (decide (n.Op = 12)) ∧ H17 = H) ?_ ?_
 ·refine lq rfl (q_fieldAddr rfl Try.underlying37 rfl Try.sizeOf3 y2) ?_
  refine lq rfl (q_loadBlk rfl rfl Try.isAgg3 (hS17.blk 3 rfl) rfl (fun h => h)) ?_
  refine lq rfl (q_eql rfl rfl rfl) ?_
  exact ⟨y1, y2, y4, y6, y7, rfl, rfl⟩
 clear y1 y2 y4 y6 y7
 rintro f18 _ ⟨y1, y2, y4, y6, y7, y13, rfl⟩
 refine wpF_condP y13 (fun h13 => ?t55) (fun h13 => ?e55)
 case t55 =>
  have hk1 := hK1 h13
  refine sc (fun f H => (In64 (nth K 0).VNum) ∧ (In64 (nth K 0).VDen) ∧ f 4 = PT g4 0 ∧ f 6 = PT g8 0 ∧ f 7 = PT g14 0 ∧ St H0 NoB NoB [bE g14 #[I ((timesF ((nth K 0).fr) (Frac.mk n.N n.D)).2.1), I ((timesF ((nth K 0).fr) (Frac.mk n.N n.D)).2.2)] 28, bE g8 #[I ((timesF ((nth K 0).fr) (Frac.mk n.N n.D)).1.Num), I ((timesF ((nth K 0).fr) (Frac.mk n.N n.D)).1.Den)] 66, bE g4 #[I (0), I (0), nS, I (0)] 69, bE g1 #[I (n.Op), vk, I (n.N), I (n.D), SB (n.Name)] 37, rdE vk n.Kids, rdE vK K] H) ?_ ?_
  ·refine wpF_drawn [none, none, none, none, none, none, none, none, none, none, none, none, none, some 0, some 1] [[], [], [], [], [], [], [], [], [], [], [], [], [0], [], []] (fun l b => match l with | 0 => b = g8 | 1 => True | _ => False) (by kernel_rfl) (by kernel_rfl) ?_
   refine rq 0 (by kernel_rfl) rfl rfl (q_move (v := vK) rfl y1) ?_
   refine rq 1 (by kernel_rfl) rfl rfl (q_indexRd (k := 0) rfl Try.underlying80 el_Val_69_MeanC4 rfl rfl (hS17.rdl 5 rfl) (by omega) (by omega)) ?_
   refine rq 2 (by kernel_rfl) rfl rfl (q_fieldE (k := 0) rfl Try.underlying69 rfl Try.sizeOf66 rfl rfl (hS17.rdl 5 rfl) (by omega)) ?_
   obtain ⟨_, hcu20o3, hFu20o3⟩ := RdL.cellsF (Rd.list.1 (hS17.rdS 5 rfl)) 0 (by omega)
   obtain ⟨u20o3n2, rfl, hu20o30, hu20o31, hu20o32, hu20o33⟩ := hcu20o3
   refine rq 3 (by kernel_rfl) rfl rfl (q_loadF rfl rfl (hFu20o3 0 2 [I ((nth K 0).VNum), I ((nth K 0).VDen)] Try.prog 66 _ rfl rfl Try.isAgg66 Try.sizeOf66 (labU_sub [] rfl (fe)))) ?_
   refine rq 4 (by kernel_rfl) rfl rfl (q_fieldAddr rfl Try.underlying37 rfl Try.sizeOf3 y2) ?_
   refine rq 5 (by kernel_rfl) rfl rfl (q_loadBlk rfl rfl Try.isAgg3 (hS17.blk 3 rfl) rfl (labU_not [] rfl (fe))) ?_
   refine rq 6 (by kernel_rfl) rfl rfl (q_fieldAddr rfl Try.underlying37 rfl Try.sizeOf3 y2) ?_
   refine rq 7 (by kernel_rfl) rfl rfl (q_loadBlk rfl rfl Try.isAgg3 (hS17.blk 3 rfl) rfl (labU_not [] rfl (fe))) ?_
   refine rq 8 (by kernel_rfl) rfl rfl (q_build (v := Vg #[I (n.N), I (n.D)]) rfl (par2 (v0 := I (n.N)) (v1 := I (n.D)) rfl rfl) (fun w__ => by kernel_rfl)) ?_
   refine wpR_n [9] (by kernel_rfl) ?_
   refine fa ?_ fe
   refine exE rfl rfl ?_
   refine e_call rfl Try.call82 (arr2 (v0 := Vg #[I ((nth K 0).VNum), I ((nth K 0).VDen)]) (v1 := Vg #[I (n.N), I (n.D)]) rfl rfl) (Times_F ((nth K 0).fr) (Frac.mk n.N n.D) (by first | assumption | (constructor <;> (try dsimp only) <;> omega)) (by first | assumption | (constructor <;> (try dsimp only) <;> omega)) (by first | assumption | (constructor <;> (try dsimp only) <;> omega)) (by first | assumption | (constructor <;> (try dsimp only) <;> omega))) ?_
   rintro _ H20o9 ⟨hxx, rfl⟩
   have hS20o9 := hS17.ext hxx
   refine ⟨Ext.mono hxx (fun _ h => h.elim), ?_⟩
   refine rq 10 (by kernel_rfl) rfl rfl (q_move (v := Value.tuple #[Vg #[I ((timesF ((nth K 0).fr) (Frac.mk n.N n.D)).1.Num), I ((timesF ((nth K 0).fr) (Frac.mk n.N n.D)).1.Den)], Vg #[I ((timesF ((nth K 0).fr) (Frac.mk n.N n.D)).2.1), I ((timesF ((nth K 0).fr) (Frac.mk n.N n.D)).2.2)]]) rfl rfl) ?_
   refine rq 11 (by kernel_rfl) rfl rfl (q_extract (vs := #[Vg #[I ((timesF ((nth K 0).fr) (Frac.mk n.N n.D)).1.Num), I ((timesF ((nth K 0).fr) (Frac.mk n.N n.D)).1.Den)], Vg #[I ((timesF ((nth K 0).fr) (Frac.mk n.N n.D)).2.1), I ((timesF ((nth K 0).fr) (Frac.mk n.N n.D)).2.2)]]) (v := Vg #[I ((timesF ((nth K 0).fr) (Frac.mk n.N n.D)).1.Num), I ((timesF ((nth K 0).fr) (Frac.mk n.N n.D)).1.Den)]) rfl rfl rfl) ?_
   refine rq 12 (by kernel_rfl) rfl rfl (q_extract (vs := #[Vg #[I ((timesF ((nth K 0).fr) (Frac.mk n.N n.D)).1.Num), I ((timesF ((nth K 0).fr) (Frac.mk n.N n.D)).1.Den)], Vg #[I ((timesF ((nth K 0).fr) (Frac.mk n.N n.D)).2.1), I ((timesF ((nth K 0).fr) (Frac.mk n.N n.D)).2.2)]]) (v := Vg #[I ((timesF ((nth K 0).fr) (Frac.mk n.N n.D)).2.1), I ((timesF ((nth K 0).fr) (Frac.mk n.N n.D)).2.2)]) rfl rfl rfl) ?_
   refine wpR_n [13] (by kernel_rfl) ?_
   refine fa ?_ fe
   refine exE rfl rfl ?_
   refine e_storeBlkA (cs' := #[I ((timesF ((nth K 0).fr) (Frac.mk n.N n.D)).1.Num), I ((timesF ((nth K 0).fr) (Frac.mk n.N n.D)).1.Den)]) rfl y6 rfl Try.sizeOf66 rfl rfl (fa rfl (fa rfl fe)) (hS20o9.front 1 rfl) (fun H20o13 hS20o13 hxx => ?_)
   refine ⟨Ext.mono hxx (labS_of 0 rfl (fun b hb => hb)), ?_⟩
   refine wpR_n [14] (by kernel_rfl) ?_
   refine fa ?_ fe
   refine exE rfl rfl ?_
   refine e_storeBlkA (cs' := #[I ((timesF ((nth K 0).fr) (Frac.mk n.N n.D)).2.1), I ((timesF ((nth K 0).fr) (Frac.mk n.N n.D)).2.2)]) rfl y7 rfl Try.sizeOf28 rfl rfl (fa rfl (fa rfl fe)) (hS20o13.front 1 rfl) (fun H20o14 hS20o14 hxx => ?_)
   refine ⟨Ext.mono hxx (labS_of 1 rfl (fun _ _ => trivial)), ?_⟩
   refine wpR_end (by kernel_rfl) ?_
   exact ⟨hu20o30, hu20o31, y4, y6, y7, hS20o14⟩
  clear y1 y13 y2 y4 y6 y7
  rintro f21 H21 ⟨hu20o30, hu20o31, y4, y6, y7, hS21⟩
  refine sc (fun f H => f 4 = PT g4 0 ∧ f 5 = B (decide (((timesF ((nth K 0).fr) (Frac.mk n.N n.D)).2.1) = 0)) ∧ St H0 NoB NoB [bE g4 #[I ((timesF ((nth K 0).fr) (Frac.mk n.N n.D)).1.Num), I ((timesF ((nth K 0).fr) (Frac.mk n.N n.D)).1.Den), nS, I (0)] 69, bE g14 #[I ((timesF ((nth K 0).fr) (Frac.mk n.N n.D)).2.1), I ((timesF ((nth K 0).fr) (Frac.mk n.N n.D)).2.2)] 28, bE g8 #[I ((timesF ((nth K 0).fr) (Frac.mk n.N n.D)).1.Num), I ((timesF ((nth K 0).fr) (Frac.mk n.N n.D)).1.Den)] 66, bE g1 #[I (n.Op), vk, I (n.N), I (n.D), SB (n.Name)] 37, rdE vk n.Kids, rdE vK K] H) ?_ ?_
  ·refine wpF_drawn [none, none, none, none, none, some 0, none] [[], [], [0], [0], [0], [], []] (fun l b => match l with | 0 => b = g4 | _ => False) (by kernel_rfl) (by kernel_rfl) ?_
   refine rq 0 (by kernel_rfl) rfl rfl (q_loadBlkA rfl y6 Try.isAgg66 Try.sizeOf66 rfl (hS21.blk 1 rfl) (labU_not [] rfl (fe))) ?_
   refine rq 1 (by kernel_rfl) rfl rfl (q_build (v := Vg #[I ((timesF ((nth K 0).fr) (Frac.mk n.N n.D)).1.Num), I ((timesF ((nth K 0).fr) (Frac.mk n.N n.D)).1.Den), nS, I (0)]) rfl (par1 (v0 := Vg #[I ((timesF ((nth K 0).fr) (Frac.mk n.N n.D)).1.Num), I ((timesF ((nth K 0).fr) (Frac.mk n.N n.D)).1.Den)]) rfl) (fun w__ => by kernel_rfl)) ?_
   refine rq 2 (by kernel_rfl) rfl rfl (q_fieldAddr rfl Try.underlying28 rfl Try.sizeOf3 y7) ?_
   refine rq 3 (by kernel_rfl) rfl rfl (q_loadBlk rfl rfl Try.isAgg3 (hS21.blk 0 rfl) rfl (labU_not [0] rfl (fa (fun hb => hS21.dis 0 2 (by decide) rfl rfl _ rfl hb) fe))) ?_
   refine rq 4 (by kernel_rfl) rfl rfl (q_eql rfl rfl rfl) ?_
   refine wpR_n [5] (by kernel_rfl) ?_
   refine fa ?_ fe
   refine exE rfl rfl ?_
   refine e_storeBlkA (cs' := #[I ((timesF ((nth K 0).fr) (Frac.mk n.N n.D)).1.Num), I ((timesF ((nth K 0).fr) (Frac.mk n.N n.D)).1.Den), nS, I (0)]) rfl y4 rfl Try.sizeOf69 rfl rfl (fa rfl (fa rfl (fa rfl (fa rfl fe)))) (hS21.front 2 rfl) (fun H22o5 hS22o5 hxx => ?_)
   refine ⟨Ext.mono hxx (labS_of 0 rfl (fun b hb => hb)), ?_⟩
   refine rq 6 (by kernel_rfl) rfl rfl (q_assign (v := B (decide (((timesF ((nth K 0).fr) (Frac.mk n.N n.D)).2.1) = 0))) rfl rfl) ?_
   refine wpR_end (by kernel_rfl) ?_
   exact ⟨y4, rfl, hS22o5⟩
  clear y4 y6 y7
  rintro f23 H23 ⟨y4, y5, hS23⟩
  refine wpF_ret ?_
  refine ⟨_, resC y4 (loadV_blkA Try.isAgg69 Try.sizeOf69 rfl (hS23.blk 0 rfl)) (resT y5 resN), hS23.frame, ?_⟩
  show (Value.tuple #[Vg #[I ((timesF ((nth K 0).fr) (Frac.mk n.N n.D)).1.Num), I ((timesF ((nth K 0).fr) (Frac.mk n.N n.D)).1.Den), nS, I (0)], B (decide (((timesF ((nth K 0).fr) (Frac.mk n.N n.D)).2.1) = 0))]) = Value.tuple #[Vg #[I (numberV n K).1.VNum, I (numberV n K).1.VDen, Value.slice none 0 0, I 0], B (numberV n K).2] ∧ In64 (numberV n K).1.VNum ∧ In64 (numberV n K).1.VDen
  have hq_ : numberV n K = _ := numberV_times h13
  rw [hq_]
  exact ⟨rfl, timesF_in⟩
 refine wpF_skip ?_
 refine wpF_seq ?_
 refine fcr (fun f H => f 4 = PT g4 0 ∧ f 6 = PT g8 0 ∧ f 7 = PT g14 0 ∧ f 32 = vK ∧ f 33 = I ((K.length : Int)) ∧ f 34 = I (0) ∧ H17 = H) ?_ ?_
 ·refine lm (v := vK) rfl rfl y1 ?_
  refine lq rfl (q_lenRd rfl Try.underlying80 rfl (hS17.rdl 5 rfl)) ?_
  refine lm (v := I (0)) rfl rfl rfl ?_
  exact ⟨y4, y6, y7, rfl, rfl, rfl, rfl⟩
 clear y1 y13 y2 y4 y6 y7
 rintro f24 _ ⟨y4, y6, y7, y32, y33, y34, rfl⟩
 refine wpF_block ?_
 refine wpF_loop (fun mz f H => ∃ (k : Nat), ∃ (c0 : Int), ∃ (d0 : Int), mz = K.length - k ∧ (k ≤ K.length) ∧ (∀ j, j < k → ¬ sumBad K j) ∧ f 4 = PT g4 0 ∧ f 6 = PT g8 0 ∧ f 7 = PT g14 0 ∧ f 32 = vK ∧ f 33 = I ((K.length : Int)) ∧ f 34 = I ((k : Int)) ∧ St H0 NoB NoB [bE g8 #[I ((sumTo K k).Num), I ((sumTo K k).Den)] 66, bE g14 #[I (c0), I (d0)] 28, bE g4 #[I (0), I (0), nS, I (0)] 69, bE g1 #[I (n.Op), vk, I (n.N), I (n.D), SB (n.Name)] 37, rdE vk n.Kids, rdE vK K] H) (K.length - 0) ?_ ?_
 ·exact ⟨0, 0, 0, rfl, Nat.zero_le _, (fun j hj => absurd hj (Nat.not_lt_zero j)), y4, y6, y7, y32, y33, (Eq.trans y34 (congrArg I (by omega))), (show St H0 NoB NoB [bE g8 #[I ((sumTo K 0).Num), I ((sumTo K 0).Den)] 66, bE g14 #[I (0), I (0)] 28, bE g4 #[I (0), I (0), nS, I (0)] 69, bE g1 #[I (n.Op), vk, I (n.N), I (n.D), SB (n.Name)] 37, rdE vk n.Kids, rdE vK K] H17 from (St.drop (show St H0 NoB NoB [bE g8 #[I (0), I (1)] 66, bE g14 #[I (0), I (0)] 28, bE g4 #[I (0), I (0), nS, I (0)] 69, bE g1 #[I (n.Op), vk, I (n.N), I (n.D), SB (n.Name)] 37, rdE vk n.Kids, rdE vK K] H17 from (hS17.front 1 rfl)) (sk (sk (sk (sk (sk (sk (List.Sublist.slnil)))))))))⟩
 intro m25 f25 H25 hI25
 clear y32 y33 y34 y4 y6 y7
 obtain ⟨k, c0, d0, hm25, hk, hp, y4, y6, y7, y32, y33, y34, hS25⟩ := hI25
 refine fcr (fun f H => f 4 = PT g4 0 ∧ f 6 = PT g8 0 ∧ f 7 = PT g14 0 ∧ f 32 = vK ∧ f 33 = I ((K.length : Int)) ∧ f 34 = I ((k : Int)) ∧ f 35 = B (decide ((k : Int) < (K.length : Int))) ∧ H25 = H) ?_ ?_
 ·refine lq rfl (q_lss rfl y34 y33) ?_
  exact ⟨y4, y6, y7, y32, y33, y34, rfl, rfl⟩
 clear y32 y33 y34 y4 y6 y7
 rintro f26 _ ⟨y4, y6, y7, y32, y33, y34, y35, rfl⟩
 refine wpF_seq ?_
 refine wpF_condP y35 (fun hlt => ?t54) (fun hlt => ?e54)
 case e54 =>
  refine wpF_exit ?_
  refine atX_here ?_
  refine fcr (fun f H => f 4 = PT g4 0 ∧ f 5 = B (true) ∧ St H0 NoB NoB [bE g4 #[I ((sumTo K k).Num), I ((sumTo K k).Den), nS, I (0)] 69, bE g8 #[I ((sumTo K k).Num), I ((sumTo K k).Den)] 66, bE g14 #[I (c0), I (d0)] 28, bE g1 #[I (n.Op), vk, I (n.N), I (n.D), SB (n.Name)] 37, rdE vk n.Kids, rdE vK K] H) ?_ ?_
  ·refine lq rfl (q_loadBlkA rfl y6 Try.isAgg66 Try.sizeOf66 rfl (hS25.blk 0 rfl) (fun h => h)) ?_
   refine lq rfl (q_build (v := Vg #[I ((sumTo K k).Num), I ((sumTo K k).Den), nS, I (0)]) rfl (par1 (v0 := Vg #[I ((sumTo K k).Num), I ((sumTo K k).Den)]) rfl) (fun w__ => by kernel_rfl)) ?_
   refine lo rfl ?_
   refine e_storeBlkA (cs' := #[I ((sumTo K k).Num), I ((sumTo K k).Den), nS, I (0)]) rfl y4 rfl Try.sizeOf69 rfl rfl (fa rfl (fa rfl (fa rfl (fa rfl fe)))) (hS25.front 2 rfl) (fun H51 hS52 hxx => ?_)
   refine la (v := B (true)) rfl rfl rfl ?_
   exact ⟨y4, rfl, hS52⟩
  clear y32 y33 y34 y35 y4 y6 y7
  rintro f53 H53 ⟨y4, y5, hS53⟩
  refine wpF_ret ?_
  refine ⟨_, resC y4 (loadV_blkA Try.isAgg69 Try.sizeOf69 rfl (hS53.blk 0 rfl)) (resT y5 resN), hS53.frame, ?_⟩
  show (Value.tuple #[Vg #[I ((sumTo K k).Num), I ((sumTo K k).Den), nS, I (0)], B (true)]) = Value.tuple #[Vg #[I (numberV n K).1.VNum, I (numberV n K).1.VDen, Value.slice none 0 0, I 0], B (numberV n K).2] ∧ In64 (numberV n K).1.VNum ∧ In64 (numberV n K).1.VDen
  have hkE : K.length = k := by omega
  have hq_ : numberV n K = _ := numberV_ok h13 fun j hj => hp j (by omega)
  rw [hq_]
  rw [hkE]
  exact ⟨rfl, sumTo_in k⟩
 obtain ⟨h6s1, h6s2⟩ := sumTo_in (K := K) k
 refine wpF_skip ?_
 refine wpF_seq ?_
 refine wpF_block ?_
 refine fcr (fun f H => ∃ (u28n2 : Value), ∃ (g30 : Nat), (In64 (nth K k).VNum) ∧ (In64 (nth K k).VDen) ∧ (In64 (nth K k).Rest) ∧ f 4 = PT g4 0 ∧ f 6 = PT g8 0 ∧ f 7 = PT g14 0 ∧ f 9 = PT g30 0 ∧ f 32 = vK ∧ f 33 = I ((K.length : Int)) ∧ f 34 = I ((k : Int)) ∧ St H0 NoB NoB [bE g30 #[I ((nth K k).VNum), I ((nth K k).VDen), u28n2, I ((nth K k).Rest)] 69, rdE u28n2 ((nth K k).Cells), bE g8 #[I ((sumTo K k).Num), I ((sumTo K k).Den)] 66, bE g14 #[I (c0), I (d0)] 28, bE g4 #[I (0), I (0), nS, I (0)] 69, bE g1 #[I (n.Op), vk, I (n.N), I (n.D), SB (n.Name)] 37, rdE vk n.Kids, rdE vK K] H) ?_ ?_
 ·refine lq rfl (q_indexRd (k := k) rfl Try.underlying80 el_Val_69_MeanC4 y32 y34 (hS25.rdl 5 rfl) (by omega) (by omega)) ?_
  obtain ⟨u28, huu28, hlu28⟩ := (Rd.list.1 (hS25.rdS 5 rfl)).elem k (by omega)
  obtain ⟨u28n2, rfl, hu280, hu281, hu282, hu283⟩ := Rd.val.1 huu28
  have hS29 := hS25.rd hu282
  refine lq rfl (q_loadE rfl rfl (hlu28 Try.prog 69 _ el_Val_69_MeanC4 (fun _ h => False.elim h))) ?_
  refine lo rfl ?_
  refine e_alloc rfl Try.zeroValue69 hS29 (fun g30 H31 hS32 hxx => ?_)
  refine lo rfl ?_
  refine e_storeBlkA (cs' := #[I ((nth K k).VNum), I ((nth K k).VDen), u28n2, I ((nth K k).Rest)]) rfl rfl rfl Try.sizeOf69 rfl rfl (fa rfl (fa rfl (fa ((oneCell_rdL (hS32.rdl 1 rfl))) (fa rfl fe)))) hS32 (fun H33 hS34 hxx => ?_)
  exact ⟨u28n2, g30, hu280, hu281, hu283, y4, y6, y7, rfl, y32, y33, y34, hS34⟩
 clear y32 y33 y34 y35 y4 y6 y7
 rintro f35 H35 ⟨u28n2, g30, hu280, hu281, hu283, y4, y6, y7, y9, y32, y33, y34, hS35⟩
 refine fcr (fun f H => f 4 = PT g4 0 ∧ f 6 = PT g8 0 ∧ f 7 = PT g14 0 ∧ f 32 = vK ∧ f 33 = I ((K.length : Int)) ∧ f 34 = I ((k : Int)) ∧ St H0 NoB NoB [bE g14 #[I ((addF (sumTo K k) ((nth K k).fr)).2.1), I ((addF (sumTo K k) ((nth K k).fr)).2.2)] 28, bE g8 #[I ((addF (sumTo K k) ((nth K k).fr)).1.Num), I ((addF (sumTo K k) ((nth K k).fr)).1.Den)] 66, bE g30 #[I ((nth K k).VNum), I ((nth K k).VDen), u28n2, I ((nth K k).Rest)] 69, rdE u28n2 ((nth K k).Cells), bE g4 #[I (0), I (0), nS, I (0)] 69, bE g1 #[I (n.Op), vk, I (n.N), I (n.D), SB (n.Name)] 37, rdE vk n.Kids, rdE vK K] H) ?_ ?_
 ·refine lq rfl (q_loadBlkA rfl y6 Try.isAgg66 Try.sizeOf66 rfl (hS35.blk 2 rfl) (fun h => h)) ?_
  refine lq rfl (q_fieldAddr rfl Try.underlying69 rfl Try.sizeOf66 y9) ?_
  refine lq rfl (q_loadBlkP (ds := [I ((nth K k).VNum), I ((nth K k).VDen)]) rfl rfl Try.isAgg66 Try.sizeOf66 rfl rfl (hS35.blk 0 rfl) (fun h => h)) ?_
  refine lo rfl ?_
  refine e_call rfl Try.call83 (arr2 (v0 := Vg #[I ((sumTo K k).Num), I ((sumTo K k).Den)]) (v1 := Vg #[I ((nth K k).VNum), I ((nth K k).VDen)]) rfl rfl) (Add_F (sumTo K k) ((nth K k).fr) (by first | assumption | (constructor <;> (try dsimp only) <;> omega)) (by first | assumption | (constructor <;> (try dsimp only) <;> omega)) (by first | assumption | (constructor <;> (try dsimp only) <;> omega)) (by first | assumption | (constructor <;> (try dsimp only) <;> omega))) ?_
  rintro _ H36 ⟨hxx, rfl⟩
  have hS37 := hS35.ext hxx
  refine lm (v := Value.tuple #[Vg #[I ((addF (sumTo K k) ((nth K k).fr)).1.Num), I ((addF (sumTo K k) ((nth K k).fr)).1.Den)], Vg #[I ((addF (sumTo K k) ((nth K k).fr)).2.1), I ((addF (sumTo K k) ((nth K k).fr)).2.2)]]) rfl rfl rfl ?_
  refine lq rfl (q_extract (vs := #[Vg #[I ((addF (sumTo K k) ((nth K k).fr)).1.Num), I ((addF (sumTo K k) ((nth K k).fr)).1.Den)], Vg #[I ((addF (sumTo K k) ((nth K k).fr)).2.1), I ((addF (sumTo K k) ((nth K k).fr)).2.2)]]) (v := Vg #[I ((addF (sumTo K k) ((nth K k).fr)).1.Num), I ((addF (sumTo K k) ((nth K k).fr)).1.Den)]) rfl rfl rfl) ?_
  refine lq rfl (q_extract (vs := #[Vg #[I ((addF (sumTo K k) ((nth K k).fr)).1.Num), I ((addF (sumTo K k) ((nth K k).fr)).1.Den)], Vg #[I ((addF (sumTo K k) ((nth K k).fr)).2.1), I ((addF (sumTo K k) ((nth K k).fr)).2.2)]]) (v := Vg #[I ((addF (sumTo K k) ((nth K k).fr)).2.1), I ((addF (sumTo K k) ((nth K k).fr)).2.2)]) rfl rfl rfl) ?_
  refine lo rfl ?_
  refine e_storeBlkA (cs' := #[I ((addF (sumTo K k) ((nth K k).fr)).1.Num), I ((addF (sumTo K k) ((nth K k).fr)).1.Den)]) rfl y6 rfl Try.sizeOf66 rfl rfl (fa rfl (fa rfl fe)) (hS37.front 2 rfl) (fun H39 hS40 hxx => ?_)
  refine lo rfl ?_
  refine e_storeBlkA (cs' := #[I ((addF (sumTo K k) ((nth K k).fr)).2.1), I ((addF (sumTo K k) ((nth K k).fr)).2.2)]) rfl y7 rfl Try.sizeOf28 rfl rfl (fa rfl (fa rfl fe)) (hS40.front 3 rfl) (fun H41 hS42 hxx => ?_)
  exact ⟨y4, y6, y7, y32, y33, y34, hS42⟩
 clear y32 y33 y34 y4 y6 y7 y9
 rintro f43 H43 ⟨y4, y6, y7, y32, y33, y34, hS43⟩
 refine fcr (fun f H => f 4 = PT g4 0 ∧ f 6 = PT g8 0 ∧ f 7 = PT g14 0 ∧ f 32 = vK ∧ f 33 = I ((K.length : Int)) ∧ f 34 = I ((k : Int)) ∧ f 47 = B (decide (((addF (sumTo K k) ((nth K k).fr)).2.1) ≠ 0)) ∧ H43 = H) ?_ ?_
 ·refine lq rfl (q_fieldAddr rfl Try.underlying28 rfl Try.sizeOf3 y7) ?_
  refine lq rfl (q_loadBlk rfl rfl Try.isAgg3 (hS43.blk 0 rfl) rfl (fun h => h)) ?_
  refine lq rfl (q_neq rfl rfl rfl) ?_
  exact ⟨y4, y6, y7, y32, y33, y34, rfl, rfl⟩
 clear y32 y33 y34 y4 y6 y7
 rintro f44 _ ⟨y4, y6, y7, y32, y33, y34, y47, rfl⟩
 refine wpF_condP y47 (fun h47 => ?t50) (fun h47 => ?e50)
 case e50 =>
  refine wpF_skip ?_
  refine wpF_cut (fun f H => f 4 = PT g4 0 ∧ f 6 = PT g8 0 ∧ f 7 = PT g14 0 ∧ f 32 = vK ∧ f 33 = I ((K.length : Int)) ∧ f 34 = I ((k : Int) + 1) ∧ H43 = H) ?_ ?_
  ·refine wpF_region ?_
   refine lq rfl (q_add rfl y34 rfl (by constructor <;> omega)) ?_
   refine lm (v := I ((k : Int) + 1)) rfl rfl rfl ?_
   exact ⟨y4, y6, y7, y32, y33, rfl, rfl⟩
  clear y32 y33 y34 y4 y47 y6 y7
  rintro f49 _ ⟨y4, y6, y7, y32, y33, y34, rfl⟩
  refine ⟨_, ?_, k + 1, (addF (sumTo K k) ((nth K k).fr)).2.1, (addF (sumTo K k) ((nth K k).fr)).2.2, rfl, (by omega), (all_succ hp h47), y4, y6, y7, y32, y33, (Eq.trans y34 (congrArg I (by omega))), (show St H0 NoB NoB [bE g8 #[I ((sumTo K (k + 1)).Num), I ((sumTo K (k + 1)).Den)] 66, bE g14 #[I (((addF (sumTo K k) ((nth K k).fr)).2.1)), I (((addF (sumTo K k) ((nth K k).fr)).2.2))] 28, bE g4 #[I (0), I (0), nS, I (0)] 69, bE g1 #[I (n.Op), vk, I (n.N), I (n.D), SB (n.Name)] 37, rdE vk n.Kids, rdE vK K] H43 from (St.drop (show St H0 NoB NoB [bE g8 #[I ((addF (sumTo K k) ((nth K k).fr)).1.Num), I ((addF (sumTo K k) ((nth K k).fr)).1.Den)] 66, bE g14 #[I ((addF (sumTo K k) ((nth K k).fr)).2.1), I ((addF (sumTo K k) ((nth K k).fr)).2.2)] 28, bE g30 #[I ((nth K k).VNum), I ((nth K k).VDen), u28n2, I ((nth K k).Rest)] 69, rdE u28n2 ((nth K k).Cells), bE g4 #[I (0), I (0), nS, I (0)] 69, bE g1 #[I (n.Op), vk, I (n.N), I (n.D), SB (n.Name)] 37, rdE vk n.Kids, rdE vK K] H43 from (hS43.front 1 rfl)) (sk (sk (sn (sn (sk (sk (sk (sk (List.Sublist.slnil)))))))))))⟩
  omega
 refine fcr (fun f H => f 4 = PT g4 0 ∧ f 5 = B (false) ∧ St H0 NoB NoB [bE g4 #[I (0), I (0), nS, I (0)] 69, bE g14 #[I ((addF (sumTo K k) ((nth K k).fr)).2.1), I ((addF (sumTo K k) ((nth K k).fr)).2.2)] 28, bE g8 #[I ((addF (sumTo K k) ((nth K k).fr)).1.Num), I ((addF (sumTo K k) ((nth K k).fr)).1.Den)] 66, bE g30 #[I ((nth K k).VNum), I ((nth K k).VDen), u28n2, I ((nth K k).Rest)] 69, rdE u28n2 ((nth K k).Cells), bE g1 #[I (n.Op), vk, I (n.N), I (n.D), SB (n.Name)] 37, rdE vk n.Kids, rdE vK K] H) ?_ ?_
 ·refine lq rfl (q_build (v := Vg #[I (0), I (0), nS, I (0)]) rfl par0 (fun w__ => by kernel_rfl)) ?_
  refine lo rfl ?_
  refine e_storeBlkA (cs' := #[I (0), I (0), nS, I (0)]) rfl y4 rfl Try.sizeOf69 rfl rfl (fa rfl (fa rfl (fa rfl (fa rfl fe)))) (hS43.front 4 rfl) (fun H46 hS47 hxx => ?_)
  refine la (v := B (false)) rfl rfl rfl ?_
  exact ⟨y4, rfl, hS47⟩
 clear y32 y33 y34 y4 y47 y6 y7
 rintro f48 H48 ⟨y4, y5, hS48⟩
 refine wpF_ret ?_
 refine ⟨_, resC y4 (loadV_blkA Try.isAgg69 Try.sizeOf69 rfl (hS48.blk 0 rfl)) (resT y5 resN), hS48.frame, ?_⟩
 show (Value.tuple #[Vg #[I (0), I (0), nS, I (0)], B (false)]) = Value.tuple #[Vg #[I (numberV n K).1.VNum, I (numberV n K).1.VDen, Value.slice none 0 0, I 0], B (numberV n K).2] ∧ In64 (numberV n K).1.VNum ∧ In64 (numberV n K).1.VDen
 have hq_ : numberV n K = _ := numberV_bad h13 (by omega) h47
 rw [hq_]
 exact ⟨rfl, ⟨(by constructor <;> decide : In64 0), (by constructor <;> decide : In64 0)⟩⟩
set_option maxRecDepth 100000 in
theorem is_M {H0 : Heap} (i gx : Nat) (vK : Value) (K : List Val) (hb : H0[gx]? = some (.cells #[vK] 80)) (rK : Rd NoB H0 vK K) (hi : i < K.length) : CallsH Try.prog 66 #[I ((i : Int)), PT gx 0] H0 (fun rv_ H' => Ext NoB H0 H' ∧ rv_ = B (decide (oneV K i))) := by
 have hS0 : St H0 NoB NoB [fixE gx (.cells #[vK] 80), rdE vK K] H0 := St.argFix (St.arg (St.start (fun _ h => h.elim)) (Bl0.nil) rK (fun _ h => h)) (Bl0.cons (Bl0.nil)) hb (fun h => h)
 refine callsH_of_wpF (args := [I ((i : Int)), PT gx 0]) (rs := [.tmp 3]) Try.func66 rfl Try.ntmps66 Try.results66 (by kernel_rfl) (Nat.le_of_ble_eq_true rfl) ?_
 have y0 : argF [I ((i : Int)), PT gx 0] 0 = I ((i : Int)) := rfl
 have y1 : argF [I ((i : Int)), PT gx 0] 1 = PT gx 0 := rfl
 generalize argF [I ((i : Int)), PT gx 0] = f0 at *
 refine fcr (fun f H => f 0 = I ((i : Int)) ∧ f 1 = PT gx 0 ∧ H0 = H) ?_ ?_
 ·refine la (v := B (false)) rfl rfl rfl ?_
  exact ⟨y0, y1, rfl⟩
 clear y0 y1
 rintro f1 _ ⟨y0, y1, rfl⟩
 refine fcr (fun f H => (In64 (nth K i).VNum) ∧ f 3 = B (decide (((nth K i).VNum) = 1)) ∧ H0 = H) ?_ ?_
 ·refine lq rfl (q_loadBlk rfl y1 Try.isAgg80 (hS0.fixd 0 rfl) rfl (fun h => h)) ?_
  refine lm (v := I ((i : Int))) rfl rfl y0 ?_
  refine lq rfl (q_indexRd (k := i) rfl Try.underlying80 el_Val_69_MeanC4 rfl rfl (hS0.rdl 1 rfl) (by omega) (by omega)) ?_
  refine lq rfl (q_fieldE (k := i) rfl Try.underlying69 rfl Try.sizeOf66 rfl rfl (hS0.rdl 1 rfl) (by omega)) ?_
  refine lq rfl (q_fieldF (k := i) rfl Try.underlying66 rfl Try.sizeOf3 rfl rfl (hS0.rdl 1 rfl) (by omega)) ?_
  obtain ⟨_, hcu2, hFu2⟩ := (Rd.list.1 (hS0.rdS 1 rfl)).cellF i (by omega)
  obtain ⟨u2n2, rfl, hu20, hu21, hu22, hu23⟩ := hcu2
  refine lq rfl (q_loadF rfl rfl (hFu2 0 _ Try.prog 3 _ rfl Try.isAgg3 (fun _ h => False.elim h))) ?_
  refine lq rfl (q_eql rfl rfl rfl) ?_
  refine la (v := B (decide (((nth K i).VNum) = 1))) rfl rfl rfl ?_
  exact ⟨hu20, rfl, rfl⟩
 clear y0 y1
 rintro f3 _ ⟨hu20, y3, rfl⟩
 refine wpF_ret ?_
 refine ⟨_, resT y3 resN, hS0.frame, ?_⟩
 show (B (decide (((nth K i).VNum) = 1))) = B (decide (oneV K i))
 rfl
set_option maxRecDepth 100000 in
theorem val_2 {H0 : Heap} (vc : Value) (v : Val) (h6vVNum : In64 v.VNum) (h6vVDen : In64 v.VDen) (rvc : Rd NoB H0 vc v.Cells) (h6vRest : In64 v.Rest) : CallsH Try.prog 67 #[Vg #[I (v.VNum), I (v.VDen), vc, I (v.Rest)]] H0 (fun rv_ H' => Ext NoB H0 H' ∧ rv_ = B (decide (v.VNum = 1))) := by
 have hsc : v.Cells.length * 16 ≤ 140737488355328 := (Rd.list.1 rvc).bound
 have hS0 : St H0 NoB NoB [rdE vc v.Cells] H0 := St.arg (St.start (fun _ h => h.elim)) (Bl0.nil) rvc (fun _ h => h)
 refine callsH_of_wpF (args := [Vg #[I (v.VNum), I (v.VDen), vc, I (v.Rest)]]) (rs := [.tmp 2]) Try.func67 rfl Try.ntmps67 Try.results67 (by kernel_rfl) (Nat.le_of_ble_eq_true rfl) ?_
 have y0 : argF [Vg #[I (v.VNum), I (v.VDen), vc, I (v.Rest)]] 0 = Vg #[I (v.VNum), I (v.VDen), vc, I (v.Rest)] := rfl
 generalize argF [Vg #[I (v.VNum), I (v.VDen), vc, I (v.Rest)]] = f0 at *
 refine fcr (fun f H => ∃ (g1 : Nat), f 1 = PT g1 0 ∧ St H0 NoB NoB [bE g1 #[I (v.VNum), I (v.VDen), vc, I (v.Rest)] 69, rdE vc v.Cells] H) ?_ ?_
 ·refine lo rfl ?_
  refine e_box (v := Vg #[I (v.VNum), I (v.VDen), vc, I (v.Rest)]) rfl y0 hS0 (fun g1 H2 hS3 hxx => ?_)
  refine la (v := B (false)) rfl rfl rfl ?_
  exact ⟨g1, rfl, hS3⟩
 clear y0
 rintro f4 H4 ⟨g1, y1, hS4⟩
 refine fcr (fun f H => f 2 = B (decide (v.VNum = 1)) ∧ H4 = H) ?_ ?_
 ·refine lq rfl (q_fieldAddr rfl Try.underlying69 rfl Try.sizeOf66 y1) ?_
  refine lq rfl (q_fieldAddr rfl Try.underlying66 rfl Try.sizeOf3 rfl) ?_
  refine lq rfl (q_loadBlk rfl rfl Try.isAgg3 (hS4.blk 0 rfl) rfl (fun h => h)) ?_
  refine lq rfl (q_eql rfl rfl rfl) ?_
  refine la (v := B (decide (v.VNum = 1))) rfl rfl rfl ?_
  exact ⟨rfl, rfl⟩
 clear y1
 rintro f5 _ ⟨y2, rfl⟩
 refine wpF_ret ?_
 refine ⟨_, resT y2 resN, hS4.frame, ?_⟩
 show (B (decide (v.VNum = 1))) = B (decide (v.VNum = 1))
 rfl
set_option maxRecDepth 100000 in
theorem val_3 {H0 : Heap} (vc : Value) (v : Val) (h6vVNum : In64 v.VNum) (h6vVDen : In64 v.VDen) (rvc : Rd NoB H0 vc v.Cells) (h6vRest : In64 v.Rest) : CallsH Try.prog 68 #[Vg #[I (v.VNum), I (v.VDen), vc, I (v.Rest)]] H0 (fun rv_ H' => Ext NoB H0 H' ∧ rv_ = B (decide (v.VNum = 0))) := by
 have hsc : v.Cells.length * 16 ≤ 140737488355328 := (Rd.list.1 rvc).bound
 have hS0 : St H0 NoB NoB [rdE vc v.Cells] H0 := St.arg (St.start (fun _ h => h.elim)) (Bl0.nil) rvc (fun _ h => h)
 refine callsH_of_wpF (args := [Vg #[I (v.VNum), I (v.VDen), vc, I (v.Rest)]]) (rs := [.tmp 2]) Try.func68 rfl Try.ntmps68 Try.results68 (by kernel_rfl) (Nat.le_of_ble_eq_true rfl) ?_
 have y0 : argF [Vg #[I (v.VNum), I (v.VDen), vc, I (v.Rest)]] 0 = Vg #[I (v.VNum), I (v.VDen), vc, I (v.Rest)] := rfl
 generalize argF [Vg #[I (v.VNum), I (v.VDen), vc, I (v.Rest)]] = f0 at *
 refine fcr (fun f H => ∃ (g1 : Nat), f 1 = PT g1 0 ∧ St H0 NoB NoB [bE g1 #[I (v.VNum), I (v.VDen), vc, I (v.Rest)] 69, rdE vc v.Cells] H) ?_ ?_
 ·refine lo rfl ?_
  refine e_box (v := Vg #[I (v.VNum), I (v.VDen), vc, I (v.Rest)]) rfl y0 hS0 (fun g1 H2 hS3 hxx => ?_)
  refine la (v := B (false)) rfl rfl rfl ?_
  exact ⟨g1, rfl, hS3⟩
 clear y0
 rintro f4 H4 ⟨g1, y1, hS4⟩
 refine fcr (fun f H => f 2 = B (decide (v.VNum = 0)) ∧ H4 = H) ?_ ?_
 ·refine lq rfl (q_fieldAddr rfl Try.underlying69 rfl Try.sizeOf66 y1) ?_
  refine lq rfl (q_fieldAddr rfl Try.underlying66 rfl Try.sizeOf3 rfl) ?_
  refine lq rfl (q_loadBlk rfl rfl Try.isAgg3 (hS4.blk 0 rfl) rfl (fun h => h)) ?_
  refine lq rfl (q_eql rfl rfl rfl) ?_
  refine la (v := B (decide (v.VNum = 0))) rfl rfl rfl ?_
  exact ⟨rfl, rfl⟩
 clear y1
 rintro f5 _ ⟨y2, rfl⟩
 refine wpF_ret ?_
 refine ⟨_, resT y2 resN, hS4.frame, ?_⟩
 show (B (decide (v.VNum = 0))) = B (decide (v.VNum = 0))
 rfl
set_option maxRecDepth 100000 in
theorem IndexFuncV {H0 : Heap} (vs vf : Value) (l : List Val) (gp : Val → Bool) (rs : Rd NoB H0 vs l) (hf : ∀ u x, x ∈ l → ∀ H, Ext NoB H0 H → Rd NoB H u x → FnH Try.prog vf #[u] H (fun rv H' => Ext NoB H H' ∧ rv = B (gp x))) : CallsH Try.prog 81 #[vs, vf] H0 (fun rv_ H' => Ext NoB H0 H' ∧ rv_ = I (idxOf gp l)) := by
 have hsm : l.length * 48 ≤ 140737488355328 := (Rd.list.1 rs).bound
 have hS0 : St H0 NoB NoB [rdE vs l] H0 := St.arg (St.start (fun _ h => h.elim)) (Bl0.nil) rs (fun _ h => h)
 refine callsH_of_wpF (args := [vs, vf]) (rs := [.tmp 4]) Try.func81 rfl Try.ntmps81 Try.results81 (by kernel_rfl) (Nat.le_of_ble_eq_true rfl) ?_
 have y0 : argF [vs, vf] 0 = vs := rfl
 have y1 : argF [vs, vf] 1 = vf := rfl
 generalize argF [vs, vf] = f0 at *
 refine fcr (fun f H => f 0 = vs ∧ f 1 = vf ∧ H0 = H) ?_ ?_
 ·refine la (v := I (0)) rfl rfl rfl ?_
  exact ⟨y0, y1, rfl⟩
 clear y0 y1
 rintro f1 _ ⟨y0, y1, rfl⟩
 refine wpF_seq ?_
 refine fcr (fun f H => f 0 = vs ∧ f 1 = vf ∧ f 7 = I ((l.length : Int)) ∧ f 8 = I (0) ∧ H0 = H) ?_ ?_
 ·refine lm (v := vs) rfl rfl y0 ?_
  refine lq rfl (q_lenRd rfl Try.underlying80 rfl (hS0.rdl 0 rfl)) ?_
  refine lm (v := I (0)) rfl rfl rfl ?_
  exact ⟨y0, y1, rfl, rfl, rfl⟩
 clear y0 y1
 rintro f2 _ ⟨y0, y1, y7, y8, rfl⟩
 refine wpF_block ?_
 refine wpF_loop (fun mz f H => ∃ (k : Nat), mz = l.length - k ∧ (k ≤ l.length) ∧ (∀ j, j < k → gp (nth l j) = false) ∧ f 0 = vs ∧ f 1 = vf ∧ f 7 = I ((l.length : Int)) ∧ f 8 = I ((k : Int)) ∧ St H0 NoB NoB [rdE vs l] H) (l.length - 0) ?_ ?_
 ·exact ⟨0, rfl, Nat.zero_le _, (fun j hj => absurd hj (Nat.not_lt_zero j)), y0, y1, y7, (Eq.trans y8 (congrArg I (by omega))), hS0⟩
 intro m3 f3 H3 hI3
 clear y0 y1 y7 y8
 obtain ⟨k, hm3, hk, hno, y0, y1, y7, y8, hS3⟩ := hI3
 refine fcr (fun f H => f 0 = vs ∧ f 1 = vf ∧ f 7 = I ((l.length : Int)) ∧ f 8 = I ((k : Int)) ∧ f 9 = B (decide ((k : Int) < (l.length : Int))) ∧ H3 = H) ?_ ?_
 ·refine lq rfl (q_lss rfl y8 y7) ?_
  exact ⟨y0, y1, y7, y8, rfl, rfl⟩
 clear y0 y1 y7 y8
 rintro f4 _ ⟨y0, y1, y7, y8, y9, rfl⟩
 refine wpF_seq ?_
 refine wpF_condP y9 (fun hlt => ?t18) (fun hlt => ?e18)
 case e18 =>
  refine wpF_exit ?_
  refine atX_here ?_
  refine fcr (fun f H => f 4 = I (-1) ∧ H3 = H) ?_ ?_
  ·refine la (v := I (-1)) rfl rfl rfl ?_
   exact ⟨rfl, rfl⟩
  clear y0 y1 y7 y8 y9
  rintro f17 _ ⟨y4, rfl⟩
  refine wpF_ret ?_
  refine ⟨_, resT y4 resN, hS3.frame, ?_⟩
  show (I (-1)) = I (idxOf gp l)
  exact congrArg I (idxOf_no fun j hj => hno j (by omega)).symm
 refine wpF_skip ?_
 refine wpF_seq ?_
 refine wpF_block ?_
 refine fcr (fun f H => f 0 = vs ∧ f 1 = vf ∧ f 5 = I ((k : Int)) ∧ f 7 = I ((l.length : Int)) ∧ f 8 = I ((k : Int)) ∧ H3 = H) ?_ ?_
 ·refine lm (v := I ((k : Int))) rfl rfl y8 ?_
  refine la (v := I ((k : Int))) rfl rfl rfl ?_
  exact ⟨y0, y1, rfl, y7, y8, rfl⟩
 clear y0 y1 y7 y8 y9
 rintro f6 _ ⟨y0, y1, y5, y7, y8, rfl⟩
 refine fcr (fun f H => (In64 (nth l k).VNum) ∧ (In64 (nth l k).VDen) ∧ (In64 (nth l k).Rest) ∧ f 0 = vs ∧ f 1 = vf ∧ f 5 = I ((k : Int)) ∧ f 7 = I ((l.length : Int)) ∧ f 8 = I ((k : Int)) ∧ f 16 = B (gp (nth l k)) ∧ St H0 NoB NoB [rdE vs l] H) ?_ ?_
 ·refine lm (v := vf) rfl rfl y1 ?_
  refine lm (v := vs) rfl rfl y0 ?_
  refine lm (v := I ((k : Int))) rfl rfl y5 ?_
  refine lq rfl (q_indexRd (k := k) rfl Try.underlying80 el_Val_69_MeanC4 rfl rfl (hS3.rdl 0 rfl) (by omega) (by omega)) ?_
  obtain ⟨u7, huu7, hlu7⟩ := (Rd.list.1 (hS3.rdS 0 rfl)).elem k (by omega)
  obtain ⟨u7n2, rfl, hu70, hu71, hu72, hu73⟩ := Rd.val.1 huu7
  have hS8 := hS3.rd hu72
  refine lq rfl (q_loadE rfl rfl (hlu7 Try.prog 69 _ el_Val_69_MeanC4 (fun _ h => False.elim h))) ?_
  refine lo rfl ?_
  refine e_callF rfl rfl (arr1 (v0 := Vg #[I ((nth l k).VNum), I ((nth l k).VDen), u7n2, I ((nth l k).Rest)]) rfl) (hf _ _ (nth_mem (by omega)) _ hS8.frame (Rd.val.2 ⟨_, rfl, (by assumption), (by assumption), (hS8.rdN 0 rfl), (by assumption)⟩)) ?_
  rintro _ H9 ⟨hxx, rfl⟩
  have hS10 := hS8.ext hxx
  exact ⟨hu70, hu71, hu73, y0, y1, y5, y7, y8, rfl, (hS10.drop (sn (sk (List.Sublist.slnil))))⟩
 clear y0 y1 y5 y7 y8
 rintro f12 H12 ⟨hu70, hu71, hu73, y0, y1, y5, y7, y8, y16, hS12⟩
 refine wpF_cond y16 (fun hg => ?t16) (fun hg => ?e16)
 case e16 =>
  refine wpF_skip ?_
  refine wpF_cut (fun f H => f 0 = vs ∧ f 1 = vf ∧ f 7 = I ((l.length : Int)) ∧ f 8 = I ((k : Int) + 1) ∧ H12 = H) ?_ ?_
  ·refine wpF_region ?_
   refine lq rfl (q_add rfl y8 rfl (by constructor <;> omega)) ?_
   refine lm (v := I ((k : Int) + 1)) rfl rfl rfl ?_
   exact ⟨y0, y1, y7, rfl, rfl⟩
  clear y0 y1 y16 y5 y7 y8
  rintro f15 _ ⟨y0, y1, y7, y8, rfl⟩
  refine ⟨_, ?_, k + 1, rfl, (by omega), (all_succ hno (by simpa using hg)), y0, y1, y7, (Eq.trans y8 (congrArg I (by omega))), hS12⟩
  omega
 refine fcr (fun f H => f 4 = I ((k : Int)) ∧ H12 = H) ?_ ?_
 ·refine lm (v := I ((k : Int))) rfl rfl y5 ?_
  refine la (v := I ((k : Int))) rfl rfl rfl ?_
  exact ⟨rfl, rfl⟩
 clear y0 y1 y16 y5 y7 y8
 rintro f14 _ ⟨y4, rfl⟩
 refine wpF_ret ?_
 refine ⟨_, resT y4 resN, hS12.frame, ?_⟩
 show (I ((k : Int))) = I (idxOf gp l)
 exact congrArg I (idxOf_at (by omega) hno (by simpa using hg)).symm
set_option maxRecDepth 100000 in
theorem ContainsFuncV {H0 : Heap} (vs vf : Value) (l : List Val) (gp : Val → Bool) (rs : Rd NoB H0 vs l) (hf : ∀ u x, x ∈ l → ∀ H, Ext NoB H0 H → Rd NoB H u x → FnH Try.prog vf #[u] H (fun rv H' => Ext NoB H H' ∧ rv = B (gp x))) : CallsH Try.prog 70 #[vs, vf] H0 (fun rv_ H' => Ext NoB H0 H' ∧ rv_ = B (l.any gp)) := by
 have hS0 : St H0 NoB NoB [rdE vs l] H0 := St.arg (St.start (fun _ h => h.elim)) (Bl0.nil) rs (fun _ h => h)
 refine callsH_of_wpF (args := [vs, vf]) (rs := [.tmp 4]) Try.func70 rfl Try.ntmps70 Try.results70 (by kernel_rfl) (Nat.le_of_ble_eq_true rfl) ?_
 have y0 : argF [vs, vf] 0 = vs := rfl
 have y1 : argF [vs, vf] 1 = vf := rfl
 generalize argF [vs, vf] = f0 at *
 refine fcr (fun f H => f 0 = vs ∧ f 1 = vf ∧ H0 = H) ?_ ?_
 ·refine la (v := B (false)) rfl rfl rfl ?_
  exact ⟨y0, y1, rfl⟩
 clear y0 y1
 rintro f1 _ ⟨y0, y1, rfl⟩
 refine fcr (fun f H => f 4 = B (decide (0 ≤ (idxOf gp l))) ∧ St H0 NoB NoB [] H) ?_ ?_
 ·refine lm (v := vs) rfl rfl y0 ?_
  refine lm (v := vf) rfl rfl y1 ?_
  refine lo rfl ?_
  refine e_call rfl Try.call81 (arr2 (v0 := vs) (v1 := vf) rfl rfl) (IndexFuncV vs vf l gp (hS0.rdN 0 rfl) (fun u x hx H hE hr => hf u x hx H (hS0.frame.trans hE) hr)) ?_
  rintro _ H2 ⟨hxx, rfl⟩
  have hS3 := hS0.ext hxx
  refine lq rfl (q_geq rfl rfl rfl) ?_
  refine la (v := B (decide (0 ≤ (idxOf gp l)))) rfl rfl rfl ?_
  exact ⟨rfl, (hS3.drop (sn (List.Sublist.slnil)))⟩
 clear y0 y1
 rintro f5 H5 ⟨y4, hS5⟩
 refine wpF_ret ?_
 refine ⟨_, resT y4 resN, hS5.frame, ?_⟩
 show (B (decide (0 ≤ (idxOf gp l)))) = B (l.any gp)
 exact congrArg B (bool_congr_of idxOf_any.symm).symm
set_option maxHeartbeats 8000000 in
set_option maxRecDepth 100000 in
theorem value_M {H0 : Heap} {S : Nat → Prop} (vD vN vH vM vk vK : Value) (a : Ask) (w : Wld) (s : Int) (n : Node) (K : List Val) (b : Int) (rvD : Rd S H0 vD a.Decls) (rvN : Rd S H0 vN a.Nodes) (rvH : Rd S H0 vH a.Hold) (rvM : Rd S H0 vM w.Means) (h6nOp : In64 n.Op) (rvk : Rd S H0 vk n.Kids) (h6nN : In64 n.N) (h6nD : In64 n.D) (h6nName : n.Name.size ≤ maxLen) (rK : Rd S H0 vK K) (hV : VOk a w n K) : CallsH Try.prog 52 #[Vg #[vD, vN, vH], Vg #[vM], I (s), Vg #[I (n.Op), vk, I (n.N), I (n.D), SB (n.Name)], vK, I (b)] H0 (fun rv_ H' => Ext NoB H0 H' ∧ ∃ w_, rv_ = Value.tuple #[Vg #[I (valueV a w n K b).1.VNum, I (valueV a w n K b).1.VDen, w_, I (valueV a w n K b).1.Rest], B (valueV a w n K b).2] ∧ Rd (SZ S H0) H' w_ (valueV a w n K b).1.Cells ∧ In64 (valueV a w n K b).1.VNum ∧ In64 (valueV a w n K b).1.VDen ∧ In64 (valueV a w n K b).1.Rest) := by
 have hsD : a.Decls.length * 48 ≤ 140737488355328 := (Rd.list.1 rvD).bound
 have hsN : a.Nodes.length * 64 ≤ 140737488355328 := (Rd.list.1 rvN).bound
 have hsM : w.Means.length * 72 ≤ 140737488355328 := (Rd.list.1 rvM).bound
 have hsK : K.length * 48 ≤ 140737488355328 := (Rd.list.1 rK).bound
 obtain ⟨hk3, hk1, hk2⟩ := kidsLen2 hV.len
 have hks := hV.small 0
 have hS0 : St H0 NoB (SZ S H0) [rdE vD a.Decls, rdE vN a.Nodes, rdE vH a.Hold, rdE vM w.Means, rdE vk n.Kids, rdE vK K] H0 := St.arg (St.arg (St.arg (St.arg (St.arg (St.arg (St.start (fun _ h => h.2)) (Bl0.nil) rK (fun _ h => h.1)) (Bl0.cons (Bl0.nil)) rvk (fun _ h => h.1)) (Bl0.cons (Bl0.cons (Bl0.nil))) rvM (fun _ h => h.1)) (Bl0.cons (Bl0.cons (Bl0.cons (Bl0.nil)))) rvH (fun _ h => h.1)) (Bl0.cons (Bl0.cons (Bl0.cons (Bl0.cons (Bl0.nil))))) rvN (fun _ h => h.1)) (Bl0.cons (Bl0.cons (Bl0.cons (Bl0.cons (Bl0.cons (Bl0.nil)))))) rvD (fun _ h => h.1)
 refine callsH_of_wpF (args := [Vg #[vD, vN, vH], Vg #[vM], I (s), Vg #[I (n.Op), vk, I (n.N), I (n.D), SB (n.Name)], vK, I (b)]) (rs := [.cell 12 69, .tmp 13]) Try.func52 rfl Try.ntmps52 Try.results52 (by kernel_rfl) (Nat.le_of_ble_eq_true rfl) ?_
 have y0 : argF [Vg #[vD, vN, vH], Vg #[vM], I (s), Vg #[I (n.Op), vk, I (n.N), I (n.D), SB (n.Name)], vK, I (b)] 0 = Vg #[vD, vN, vH] := rfl
 have y1 : argF [Vg #[vD, vN, vH], Vg #[vM], I (s), Vg #[I (n.Op), vk, I (n.N), I (n.D), SB (n.Name)], vK, I (b)] 1 = Vg #[vM] := rfl
 have y2 : argF [Vg #[vD, vN, vH], Vg #[vM], I (s), Vg #[I (n.Op), vk, I (n.N), I (n.D), SB (n.Name)], vK, I (b)] 2 = I (s) := rfl
 have y3 : argF [Vg #[vD, vN, vH], Vg #[vM], I (s), Vg #[I (n.Op), vk, I (n.N), I (n.D), SB (n.Name)], vK, I (b)] 3 = Vg #[I (n.Op), vk, I (n.N), I (n.D), SB (n.Name)] := rfl
 have y4 : argF [Vg #[vD, vN, vH], Vg #[vM], I (s), Vg #[I (n.Op), vk, I (n.N), I (n.D), SB (n.Name)], vK, I (b)] 4 = vK := rfl
 have y5 : argF [Vg #[vD, vN, vH], Vg #[vM], I (s), Vg #[I (n.Op), vk, I (n.N), I (n.D), SB (n.Name)], vK, I (b)] 5 = I (b) := rfl
 generalize argF [Vg #[vD, vN, vH], Vg #[vM], I (s), Vg #[I (n.Op), vk, I (n.N), I (n.D), SB (n.Name)], vK, I (b)] = f0 at *
 refine fcr (fun f H => ∃ (g1 : Nat), ∃ (g4 : Nat), ∃ (g7 : Nat), ∃ (g10 : Nat), ∃ (g13 : Nat), f 5 = I (b) ∧ f 6 = PT g1 0 ∧ f 7 = PT g4 0 ∧ f 9 = PT g7 0 ∧ f 10 = PT g10 0 ∧ f 12 = PT g13 0 ∧ St H0 NoB (SZ S H0) [bE g13 #[I (0), I (0), nS, I (0)] 69, bE g10 #[vK] 80, bE g7 #[I (n.Op), vk, I (n.N), I (n.D), SB (n.Name)] 37, bE g4 #[vM] 47, bE g1 #[vD, vN, vH] 26, rdE vD a.Decls, rdE vN a.Nodes, rdE vH a.Hold, rdE vM w.Means, rdE vk n.Kids, rdE vK K] H) ?_ ?_
 ·refine lo rfl ?_
  refine e_box (v := Vg #[vD, vN, vH]) rfl y0 hS0 (fun g1 H2 hS3 hxx => ?_)
  refine lo rfl ?_
  refine e_box (v := Vg #[vM]) rfl y1 hS3 (fun g4 H5 hS6 hxx => ?_)
  refine lo rfl ?_
  refine e_box (v := Vg #[I (n.Op), vk, I (n.N), I (n.D), SB (n.Name)]) rfl y3 hS6 (fun g7 H8 hS9 hxx => ?_)
  refine lo rfl ?_
  refine e_box (v := vK) rfl y4 hS9 (fun g10 H11 hS12 hxx => ?_)
  rw [cells_rdL (hS9.rdl 8 rfl)] at hS12
  refine lo rfl ?_
  refine e_alloc rfl Try.zeroValue69 hS12 (fun g13 H14 hS15 hxx => ?_)
  refine la (v := B (false)) rfl rfl rfl ?_
  exact ⟨g1, g4, g7, g10, g13, y5, rfl, rfl, rfl, rfl, rfl, hS15⟩
 clear y0 y1 y2 y3 y4 y5
 rintro f16 H16 ⟨g1, g4, g7, g10, g13, y5, y6, y7, y9, y10, y12, hS16⟩
 refine fcr (fun f H => f 5 = I (b) ∧ f 6 = PT g1 0 ∧ f 7 = PT g4 0 ∧ f 9 = PT g7 0 ∧ f 10 = PT g10 0 ∧ f 12 = PT g13 0 ∧ f 14 = Value.func (.func 66) #[] #[PT g10 0] ∧ H16 = H) ?_ ?_
 ·refine lq rfl (q_makeFunc (fi' := #[]) rfl (by simp) (arr1 (v0 := PT g10 0) y10)) ?_
  refine la (v := Value.func (.func 66) #[] #[PT g10 0]) rfl rfl rfl ?_
  exact ⟨y5, y6, y7, y9, y10, y12, rfl, rfl⟩
 clear y10 y12 y5 y6 y7 y9
 rintro f17 _ ⟨y5, y6, y7, y9, y10, y12, y14, rfl⟩
 refine fcr (fun f H => f 5 = I (b) ∧ f 6 = PT g1 0 ∧ f 7 = PT g4 0 ∧ f 9 = PT g7 0 ∧ f 10 = PT g10 0 ∧ f 12 = PT g13 0 ∧ f 14 = Value.func (.func 66) #[] #[PT g10 0] ∧ f 15 = Value.func (.func 67) #[] #[] ∧ H16 = H) ?_ ?_
 ·refine la (v := Value.func (.func 67) #[] #[]) rfl rfl rfl ?_
  exact ⟨y5, y6, y7, y9, y10, y12, y14, rfl, rfl⟩
 clear y10 y12 y14 y5 y6 y7 y9
 rintro f18 _ ⟨y5, y6, y7, y9, y10, y12, y14, y15, rfl⟩
 refine fcr (fun f H => f 5 = I (b) ∧ f 6 = PT g1 0 ∧ f 7 = PT g4 0 ∧ f 9 = PT g7 0 ∧ f 10 = PT g10 0 ∧ f 12 = PT g13 0 ∧ f 14 = Value.func (.func 66) #[] #[PT g10 0] ∧ f 15 = Value.func (.func 67) #[] #[] ∧ f 16 = Value.func (.func 68) #[] #[] ∧ H16 = H) ?_ ?_
 ·refine la (v := Value.func (.func 68) #[] #[]) rfl rfl rfl ?_
  exact ⟨y5, y6, y7, y9, y10, y12, y14, y15, rfl, rfl⟩
 clear y10 y12 y14 y15 y5 y6 y7 y9
 rintro f19 _ ⟨y5, y6, y7, y9, y10, y12, y14, y15, y16, rfl⟩
 refine wpF_seq ?_
 refine fcr (fun f H => f 5 = I (b) ∧ f 6 = PT g1 0 ∧ f 7 = PT g4 0 ∧ f 9 = PT g7 0 ∧ f 10 = PT g10 0 ∧ f 12 = PT g13 0 ∧ f 14 = Value.func (.func 66) #[] #[PT g10 0] ∧ f 15 = Value.func (.func 67) #[] #[] ∧ f 16 = Value.func (.func 68) #[] #[] ∧ f 28 = I (n.Op) ∧ H16 = H) ?_ ?_
 ·refine lq rfl (q_fieldAddr rfl Try.underlying37 rfl Try.sizeOf3 y9) ?_
  refine lq rfl (q_loadBlk rfl rfl Try.isAgg3 (hS16.blk 2 rfl) rfl (fun h => h)) ?_
  exact ⟨y5, y6, y7, y9, y10, y12, y14, y15, y16, rfl, rfl⟩
 clear y10 y12 y14 y15 y16 y5 y6 y7 y9
 rintro f20 _ ⟨y5, y6, y7, y9, y10, y12, y14, y15, y16, y28, rfl⟩
 refine wpF_block ?_
 refine wpF_seq ?_
 refine fcr (fun f H => f 5 = I (b) ∧ f 6 = PT g1 0 ∧ f 7 = PT g4 0 ∧ f 9 = PT g7 0 ∧ f 10 = PT g10 0 ∧ f 12 = PT g13 0 ∧ f 14 = Value.func (.func 66) #[] #[PT g10 0] ∧ f 15 = Value.func (.func 67) #[] #[] ∧ f 16 = Value.func (.func 68) #[] #[] ∧ f 28 = I (n.Op) ∧ f 29 = B (decide (n.Op = 1)) ∧ H16 = H) ?_ ?_
 ·refine lq rfl (q_eql rfl y28 rfl) ?_
  refine la (v := B (decide (n.Op = 1))) rfl rfl rfl ?_
  exact ⟨y5, y6, y7, y9, y10, y12, y14, y15, y16, y28, rfl, rfl⟩
 clear y10 y12 y14 y15 y16 y28 y5 y6 y7 y9
 rintro f21 _ ⟨y5, y6, y7, y9, y10, y12, y14, y15, y16, y28, y29, rfl⟩
 refine wpF_condP y29 (fun o1 => ?t230) (fun o1 => ?e230)
 case t230 =>
  refine wpF_skip ?_
  refine wpF_condT (Eq.trans y29 (congrArg B (decide_eq_true o1))) ?_
  refine fcr (fun f H => f 12 = PT g13 0 ∧ f 13 = B (true) ∧ St H0 NoB (SZ S H0) [bE g13 #[I (bitP (n.Op = 1)), I (1), nS, I (0)] 69, bE g10 #[vK] 80, bE g7 #[I (n.Op), vk, I (n.N), I (n.D), SB (n.Name)] 37, bE g4 #[vM] 47, bE g1 #[vD, vN, vH] 26, rdE vD a.Decls, rdE vN a.Nodes, rdE vH a.Hold, rdE vM w.Means, rdE vk n.Kids, rdE vK K] H) ?_ ?_
  ·refine lq rfl (q_fieldAddr rfl Try.underlying37 rfl Try.sizeOf3 y9) ?_
   refine lq rfl (q_loadBlk rfl rfl Try.isAgg3 (hS16.blk 2 rfl) rfl (fun h => h)) ?_
   refine lq rfl (q_eql rfl rfl rfl) ?_
   refine lo rfl ?_
   refine e_call rfl Try.call69 (arr1 (v0 := B (decide (n.Op = 1))) rfl) (truth_M (n.Op = 1)) ?_
   rintro _ H23 ⟨hxx, rfl⟩
   have hS24 := hS16.ext hxx
   refine lo rfl ?_
   refine e_storeBlkA (cs' := #[I (bitP (n.Op = 1)), I (1), nS, I (0)]) rfl y12 rfl Try.sizeOf69 rfl rfl (fa rfl (fa rfl (fa rfl (fa rfl fe)))) hS24 (fun H26 hS27 hxx => ?_)
   refine la (v := B (true)) rfl rfl rfl ?_
   exact ⟨y12, rfl, hS27⟩
  clear y10 y12 y14 y15 y16 y28 y29 y5 y6 y7 y9
  rintro f28 H28 ⟨y12, y13, hS28⟩
  refine wpF_ret ?_
  refine ⟨_, resC y12 (loadV_blkA Try.isAgg69 Try.sizeOf69 rfl (hS28.blk 0 rfl)) (resT y13 resN), hS28.frame, ?_⟩
  show ∃ w_, (Value.tuple #[Vg #[I (bitP (n.Op = 1)), I (1), nS, I (0)], B (true)]) = Value.tuple #[Vg #[I (valueV a w n K b).1.VNum, I (valueV a w n K b).1.VDen, w_, I (valueV a w n K b).1.Rest], B (valueV a w n K b).2] ∧ Rd (SZ S H0) H28 w_ (valueV a w n K b).1.Cells ∧ In64 (valueV a w n K b).1.VNum ∧ In64 (valueV a w n K b).1.VDen ∧ In64 (valueV a w n K b).1.Rest
  have hq_ := vv_1 (a := a) (w := w) (K := K) (b := b) o1
  rw [hq_]
  exact ⟨_, rfl, rdNil, (by first | assumption | exact bitP_in | exact (by constructor <;> decide : In64 0) | exact (by constructor <;> decide : In64 1)), (by first | assumption | exact bitP_in | exact (by constructor <;> decide : In64 0) | exact (by constructor <;> decide : In64 1)), (by first | assumption | exact bitP_in | exact (by constructor <;> decide : In64 0) | exact (by constructor <;> decide : In64 1))⟩
 refine wpF_cut (fun f H => f 5 = I (b) ∧ f 6 = PT g1 0 ∧ f 7 = PT g4 0 ∧ f 9 = PT g7 0 ∧ f 10 = PT g10 0 ∧ f 12 = PT g13 0 ∧ f 14 = Value.func (.func 66) #[] #[PT g10 0] ∧ f 15 = Value.func (.func 67) #[] #[] ∧ f 16 = Value.func (.func 68) #[] #[] ∧ f 28 = I (n.Op) ∧ f 29 = B (decide (n.Op = 2)) ∧ H16 = H) ?_ ?_
 ·refine wpF_region ?_
  refine lq rfl (q_eql rfl y28 rfl) ?_
  refine la (v := B (decide (n.Op = 2))) rfl rfl rfl ?_
  exact ⟨y5, y6, y7, y9, y10, y12, y14, y15, y16, y28, rfl, rfl⟩
 clear y10 y12 y14 y15 y16 y28 y29 y5 y6 y7 y9
 rintro f29 _ ⟨y5, y6, y7, y9, y10, y12, y14, y15, y16, y28, y29, rfl⟩
 refine wpF_condP y29 (fun o2 => ?t229) (fun o2 => ?e229)
 case t229 =>
  refine fcr (fun f H => f 12 = PT g13 0 ∧ f 13 = B (true) ∧ St H0 NoB (SZ S H0) [bE g13 #[I (bitP (n.Op = 1)), I (1), nS, I (0)] 69, bE g10 #[vK] 80, bE g7 #[I (n.Op), vk, I (n.N), I (n.D), SB (n.Name)] 37, bE g4 #[vM] 47, bE g1 #[vD, vN, vH] 26, rdE vD a.Decls, rdE vN a.Nodes, rdE vH a.Hold, rdE vM w.Means, rdE vk n.Kids, rdE vK K] H) ?_ ?_
  ·refine lq rfl (q_fieldAddr rfl Try.underlying37 rfl Try.sizeOf3 y9) ?_
   refine lq rfl (q_loadBlk rfl rfl Try.isAgg3 (hS16.blk 2 rfl) rfl (fun h => h)) ?_
   refine lq rfl (q_eql rfl rfl rfl) ?_
   refine lo rfl ?_
   refine e_call rfl Try.call69 (arr1 (v0 := B (decide (n.Op = 1))) rfl) (truth_M (n.Op = 1)) ?_
   rintro _ H31 ⟨hxx, rfl⟩
   have hS32 := hS16.ext hxx
   refine lo rfl ?_
   refine e_storeBlkA (cs' := #[I (bitP (n.Op = 1)), I (1), nS, I (0)]) rfl y12 rfl Try.sizeOf69 rfl rfl (fa rfl (fa rfl (fa rfl (fa rfl fe)))) hS32 (fun H34 hS35 hxx => ?_)
   refine la (v := B (true)) rfl rfl rfl ?_
   exact ⟨y12, rfl, hS35⟩
  clear y10 y12 y14 y15 y16 y28 y29 y5 y6 y7 y9
  rintro f36 H36 ⟨y12, y13, hS36⟩
  refine wpF_ret ?_
  refine ⟨_, resC y12 (loadV_blkA Try.isAgg69 Try.sizeOf69 rfl (hS36.blk 0 rfl)) (resT y13 resN), hS36.frame, ?_⟩
  show ∃ w_, (Value.tuple #[Vg #[I (bitP (n.Op = 1)), I (1), nS, I (0)], B (true)]) = Value.tuple #[Vg #[I (valueV a w n K b).1.VNum, I (valueV a w n K b).1.VDen, w_, I (valueV a w n K b).1.Rest], B (valueV a w n K b).2] ∧ Rd (SZ S H0) H36 w_ (valueV a w n K b).1.Cells ∧ In64 (valueV a w n K b).1.VNum ∧ In64 (valueV a w n K b).1.VDen ∧ In64 (valueV a w n K b).1.Rest
  have hq_ := vv_2 (a := a) (w := w) (K := K) (b := b) o2
  rw [hq_]
  exact ⟨_, rfl, rdNil, (by first | assumption | exact bitP_in | exact (by constructor <;> decide : In64 0) | exact (by constructor <;> decide : In64 1)), (by first | assumption | exact bitP_in | exact (by constructor <;> decide : In64 0) | exact (by constructor <;> decide : In64 1)), (by first | assumption | exact bitP_in | exact (by constructor <;> decide : In64 0) | exact (by constructor <;> decide : In64 1))⟩
 refine fcr (fun f H => f 5 = I (b) ∧ f 6 = PT g1 0 ∧ f 7 = PT g4 0 ∧ f 9 = PT g7 0 ∧ f 10 = PT g10 0 ∧ f 12 = PT g13 0 ∧ f 14 = Value.func (.func 66) #[] #[PT g10 0] ∧ f 15 = Value.func (.func 67) #[] #[] ∧ f 16 = Value.func (.func 68) #[] #[] ∧ f 28 = I (n.Op) ∧ f 36 = B (decide (n.Op = 3)) ∧ H16 = H) ?_ ?_
 ·refine lq rfl (q_eql rfl y28 rfl) ?_
  refine la (v := B (decide (n.Op = 3))) rfl rfl rfl ?_
  exact ⟨y5, y6, y7, y9, y10, y12, y14, y15, y16, y28, rfl, rfl⟩
 clear y10 y12 y14 y15 y16 y28 y29 y5 y6 y7 y9
 rintro f37 _ ⟨y5, y6, y7, y9, y10, y12, y14, y15, y16, y28, y36, rfl⟩
 refine wpF_condP y36 (fun o3 => ?t228) (fun o3 => ?e228)
 case t228 =>
  refine fcr (fun f H => f 12 = PT g13 0 ∧ f 13 = B (true) ∧ St H0 NoB (SZ S H0) [bE g13 #[I (bitP (¬ (oneV K 0))), I (1), nS, I (0)] 69, bE g10 #[vK] 80, bE g7 #[I (n.Op), vk, I (n.N), I (n.D), SB (n.Name)] 37, bE g4 #[vM] 47, bE g1 #[vD, vN, vH] 26, rdE vD a.Decls, rdE vN a.Nodes, rdE vH a.Hold, rdE vM w.Means, rdE vk n.Kids, rdE vK K] H) ?_ ?_
  ·refine lm (v := Value.func (.func 66) #[] #[PT g10 0]) rfl rfl y14 ?_
   refine lo rfl ?_
   refine e_callV rfl rfl Try.call66 (arr1 (v0 := I (0)) rfl) (is_M 0 g10 vK K (hS16.blk 1 rfl) (hS16.rdN 10 rfl) (by omega)) ?_
   rintro _ H39 ⟨hxx, rfl⟩
   have hS40 := hS16.ext hxx
   refine lq rfl (q_notP rfl rfl) ?_
   refine lo rfl ?_
   refine e_call rfl Try.call69 (arr1 (v0 := B (decide (¬ (oneV K 0)))) rfl) (truth_M (¬ (oneV K 0))) ?_
   rintro _ H42 ⟨hxx, rfl⟩
   have hS43 := hS40.ext hxx
   refine lo rfl ?_
   refine e_storeBlkA (cs' := #[I (bitP (¬ (oneV K 0))), I (1), nS, I (0)]) rfl y12 rfl Try.sizeOf69 rfl rfl (fa rfl (fa rfl (fa rfl (fa rfl fe)))) hS43 (fun H45 hS46 hxx => ?_)
   refine la (v := B (true)) rfl rfl rfl ?_
   exact ⟨y12, rfl, hS46⟩
  clear y10 y12 y14 y15 y16 y28 y36 y5 y6 y7 y9
  rintro f47 H47 ⟨y12, y13, hS47⟩
  refine wpF_ret ?_
  refine ⟨_, resC y12 (loadV_blkA Try.isAgg69 Try.sizeOf69 rfl (hS47.blk 0 rfl)) (resT y13 resN), hS47.frame, ?_⟩
  show ∃ w_, (Value.tuple #[Vg #[I (bitP (¬ (oneV K 0))), I (1), nS, I (0)], B (true)]) = Value.tuple #[Vg #[I (valueV a w n K b).1.VNum, I (valueV a w n K b).1.VDen, w_, I (valueV a w n K b).1.Rest], B (valueV a w n K b).2] ∧ Rd (SZ S H0) H47 w_ (valueV a w n K b).1.Cells ∧ In64 (valueV a w n K b).1.VNum ∧ In64 (valueV a w n K b).1.VDen ∧ In64 (valueV a w n K b).1.Rest
  have hq_ := vv_3 (a := a) (w := w) (K := K) (b := b) o3
  rw [hq_]
  exact ⟨_, rfl, rdNil, (by first | assumption | exact bitP_in | exact (by constructor <;> decide : In64 0) | exact (by constructor <;> decide : In64 1)), (by first | assumption | exact bitP_in | exact (by constructor <;> decide : In64 0) | exact (by constructor <;> decide : In64 1)), (by first | assumption | exact bitP_in | exact (by constructor <;> decide : In64 0) | exact (by constructor <;> decide : In64 1))⟩
 refine fcr (fun f H => f 5 = I (b) ∧ f 6 = PT g1 0 ∧ f 7 = PT g4 0 ∧ f 9 = PT g7 0 ∧ f 10 = PT g10 0 ∧ f 12 = PT g13 0 ∧ f 14 = Value.func (.func 66) #[] #[PT g10 0] ∧ f 15 = Value.func (.func 67) #[] #[] ∧ f 16 = Value.func (.func 68) #[] #[] ∧ f 28 = I (n.Op) ∧ f 42 = B (decide (n.Op = 4)) ∧ H16 = H) ?_ ?_
 ·refine lq rfl (q_eql rfl y28 rfl) ?_
  refine la (v := B (decide (n.Op = 4))) rfl rfl rfl ?_
  exact ⟨y5, y6, y7, y9, y10, y12, y14, y15, y16, y28, rfl, rfl⟩
 clear y10 y12 y14 y15 y16 y28 y36 y5 y6 y7 y9
 rintro f48 _ ⟨y5, y6, y7, y9, y10, y12, y14, y15, y16, y28, y42, rfl⟩
 refine wpF_condP y42 (fun o4 => ?t227) (fun o4 => ?e227)
 case t227 =>
  refine fcr (fun f H => f 12 = PT g13 0 ∧ f 13 = B (true) ∧ St H0 NoB (SZ S H0) [bE g13 #[I (bitP ((!(K.any (fun v => decide (v.VNum = 0)))) = true)), I (1), nS, I (0)] 69, bE g10 #[vK] 80, bE g7 #[I (n.Op), vk, I (n.N), I (n.D), SB (n.Name)] 37, bE g4 #[vM] 47, bE g1 #[vD, vN, vH] 26, rdE vD a.Decls, rdE vN a.Nodes, rdE vH a.Hold, rdE vM w.Means, rdE vk n.Kids, rdE vK K] H) ?_ ?_
  ·refine lq rfl (q_loadBlk rfl y10 Try.isAgg80 (hS16.blk 1 rfl) rfl (fun h => h)) ?_
   refine lm (v := Value.func (.func 68) #[] #[]) rfl rfl y16 ?_
   refine lo rfl ?_
   refine e_call rfl Try.call70 (arr2 (v0 := vK) (v1 := Value.func (.func 68) #[] #[]) rfl rfl) (ContainsFuncV vK (Value.func (.func 68) #[] #[]) K (fun v => decide (v.VNum = 0)) (hS16.rdN 10 rfl) (fun u x hx H hE hr => by obtain ⟨_, rfl, hv1, hv2, hv3, hv4⟩ := Rd.val.1 hr; exact ⟨_, _, rfl, Try.call68, val_3 _ x hv1 hv2 hv3 hv4⟩)) ?_
   rintro _ H50 ⟨hxx, rfl⟩
   have hS51 := hS16.ext hxx
   refine lq rfl (q_not rfl rfl) ?_
   refine lo rfl ?_
   refine e_call rfl Try.call69 (arr1 (v0 := B (!(K.any (fun v => decide (v.VNum = 0))))) rfl) (truth_MB (!(K.any (fun v => decide (v.VNum = 0))))) ?_
   rintro _ H53 ⟨hxx, rfl⟩
   have hS54 := hS51.ext hxx
   refine lo rfl ?_
   refine e_storeBlkA (cs' := #[I (bitP ((!(K.any (fun v => decide (v.VNum = 0)))) = true)), I (1), nS, I (0)]) rfl y12 rfl Try.sizeOf69 rfl rfl (fa rfl (fa rfl (fa rfl (fa rfl fe)))) hS54 (fun H56 hS57 hxx => ?_)
   refine la (v := B (true)) rfl rfl rfl ?_
   exact ⟨y12, rfl, hS57⟩
  clear y10 y12 y14 y15 y16 y28 y42 y5 y6 y7 y9
  rintro f58 H58 ⟨y12, y13, hS58⟩
  refine wpF_ret ?_
  refine ⟨_, resC y12 (loadV_blkA Try.isAgg69 Try.sizeOf69 rfl (hS58.blk 0 rfl)) (resT y13 resN), hS58.frame, ?_⟩
  show ∃ w_, (Value.tuple #[Vg #[I (bitP ((!(K.any (fun v => decide (v.VNum = 0)))) = true)), I (1), nS, I (0)], B (true)]) = Value.tuple #[Vg #[I (valueV a w n K b).1.VNum, I (valueV a w n K b).1.VDen, w_, I (valueV a w n K b).1.Rest], B (valueV a w n K b).2] ∧ Rd (SZ S H0) H58 w_ (valueV a w n K b).1.Cells ∧ In64 (valueV a w n K b).1.VNum ∧ In64 (valueV a w n K b).1.VDen ∧ In64 (valueV a w n K b).1.Rest
  have hq_ := vv_4 (a := a) (w := w) (K := K) (b := b) o4
  rw [hq_]
  exact ⟨_, rfl, rdNil, (by first | assumption | exact bitP_in | exact (by constructor <;> decide : In64 0) | exact (by constructor <;> decide : In64 1)), (by first | assumption | exact bitP_in | exact (by constructor <;> decide : In64 0) | exact (by constructor <;> decide : In64 1)), (by first | assumption | exact bitP_in | exact (by constructor <;> decide : In64 0) | exact (by constructor <;> decide : In64 1))⟩
 refine fcr (fun f H => f 5 = I (b) ∧ f 6 = PT g1 0 ∧ f 7 = PT g4 0 ∧ f 9 = PT g7 0 ∧ f 10 = PT g10 0 ∧ f 12 = PT g13 0 ∧ f 14 = Value.func (.func 66) #[] #[PT g10 0] ∧ f 15 = Value.func (.func 67) #[] #[] ∧ f 28 = I (n.Op) ∧ f 49 = B (decide (n.Op = 5)) ∧ H16 = H) ?_ ?_
 ·refine lq rfl (q_eql rfl y28 rfl) ?_
  refine la (v := B (decide (n.Op = 5))) rfl rfl rfl ?_
  exact ⟨y5, y6, y7, y9, y10, y12, y14, y15, y28, rfl, rfl⟩
 clear y10 y12 y14 y15 y16 y28 y42 y5 y6 y7 y9
 rintro f59 _ ⟨y5, y6, y7, y9, y10, y12, y14, y15, y28, y49, rfl⟩
 refine wpF_condP y49 (fun o5 => ?t226) (fun o5 => ?e226)
 case t226 =>
  refine fcr (fun f H => f 12 = PT g13 0 ∧ f 13 = B (true) ∧ St H0 NoB (SZ S H0) [bE g13 #[I (bitP ((K.any (fun v => decide (v.VNum = 1))) = true)), I (1), nS, I (0)] 69, bE g10 #[vK] 80, bE g7 #[I (n.Op), vk, I (n.N), I (n.D), SB (n.Name)] 37, bE g4 #[vM] 47, bE g1 #[vD, vN, vH] 26, rdE vD a.Decls, rdE vN a.Nodes, rdE vH a.Hold, rdE vM w.Means, rdE vk n.Kids, rdE vK K] H) ?_ ?_
  ·refine lq rfl (q_loadBlk rfl y10 Try.isAgg80 (hS16.blk 1 rfl) rfl (fun h => h)) ?_
   refine lm (v := Value.func (.func 67) #[] #[]) rfl rfl y15 ?_
   refine lo rfl ?_
   refine e_call rfl Try.call70 (arr2 (v0 := vK) (v1 := Value.func (.func 67) #[] #[]) rfl rfl) (ContainsFuncV vK (Value.func (.func 67) #[] #[]) K (fun v => decide (v.VNum = 1)) (hS16.rdN 10 rfl) (fun u x hx H hE hr => by obtain ⟨_, rfl, hv1, hv2, hv3, hv4⟩ := Rd.val.1 hr; exact ⟨_, _, rfl, Try.call67, val_2 _ x hv1 hv2 hv3 hv4⟩)) ?_
   rintro _ H61 ⟨hxx, rfl⟩
   have hS62 := hS16.ext hxx
   refine lo rfl ?_
   refine e_call rfl Try.call69 (arr1 (v0 := B (K.any (fun v => decide (v.VNum = 1)))) rfl) (truth_MB (K.any (fun v => decide (v.VNum = 1)))) ?_
   rintro _ H64 ⟨hxx, rfl⟩
   have hS65 := hS62.ext hxx
   refine lo rfl ?_
   refine e_storeBlkA (cs' := #[I (bitP ((K.any (fun v => decide (v.VNum = 1))) = true)), I (1), nS, I (0)]) rfl y12 rfl Try.sizeOf69 rfl rfl (fa rfl (fa rfl (fa rfl (fa rfl fe)))) hS65 (fun H67 hS68 hxx => ?_)
   refine la (v := B (true)) rfl rfl rfl ?_
   exact ⟨y12, rfl, hS68⟩
  clear y10 y12 y14 y15 y28 y49 y5 y6 y7 y9
  rintro f69 H69 ⟨y12, y13, hS69⟩
  refine wpF_ret ?_
  refine ⟨_, resC y12 (loadV_blkA Try.isAgg69 Try.sizeOf69 rfl (hS69.blk 0 rfl)) (resT y13 resN), hS69.frame, ?_⟩
  show ∃ w_, (Value.tuple #[Vg #[I (bitP ((K.any (fun v => decide (v.VNum = 1))) = true)), I (1), nS, I (0)], B (true)]) = Value.tuple #[Vg #[I (valueV a w n K b).1.VNum, I (valueV a w n K b).1.VDen, w_, I (valueV a w n K b).1.Rest], B (valueV a w n K b).2] ∧ Rd (SZ S H0) H69 w_ (valueV a w n K b).1.Cells ∧ In64 (valueV a w n K b).1.VNum ∧ In64 (valueV a w n K b).1.VDen ∧ In64 (valueV a w n K b).1.Rest
  have hq_ := vv_5 (a := a) (w := w) (K := K) (b := b) o5
  rw [hq_]
  exact ⟨_, rfl, rdNil, (by first | assumption | exact bitP_in | exact (by constructor <;> decide : In64 0) | exact (by constructor <;> decide : In64 1)), (by first | assumption | exact bitP_in | exact (by constructor <;> decide : In64 0) | exact (by constructor <;> decide : In64 1)), (by first | assumption | exact bitP_in | exact (by constructor <;> decide : In64 0) | exact (by constructor <;> decide : In64 1))⟩
 refine fcr (fun f H => f 5 = I (b) ∧ f 6 = PT g1 0 ∧ f 7 = PT g4 0 ∧ f 9 = PT g7 0 ∧ f 10 = PT g10 0 ∧ f 12 = PT g13 0 ∧ f 14 = Value.func (.func 66) #[] #[PT g10 0] ∧ f 28 = I (n.Op) ∧ f 55 = B (decide (n.Op = 6)) ∧ H16 = H) ?_ ?_
 ·refine lq rfl (q_eql rfl y28 rfl) ?_
  refine la (v := B (decide (n.Op = 6))) rfl rfl rfl ?_
  exact ⟨y5, y6, y7, y9, y10, y12, y14, y28, rfl, rfl⟩
 clear y10 y12 y14 y15 y28 y49 y5 y6 y7 y9
 rintro f70 _ ⟨y5, y6, y7, y9, y10, y12, y14, y28, y55, rfl⟩
 refine wpF_condP y55 (fun o6 => ?t225) (fun o6 => ?e225)
 case t225 =>
  refine fcr (fun f H => f 12 = PT g13 0 ∧ f 13 = B (true) ∧ St H0 NoB (SZ S H0) [bE g13 #[I (bitP ((decide (oneV K 0)) = (decide (oneV K 1)))), I (1), nS, I (0)] 69, bE g10 #[vK] 80, bE g7 #[I (n.Op), vk, I (n.N), I (n.D), SB (n.Name)] 37, bE g4 #[vM] 47, bE g1 #[vD, vN, vH] 26, rdE vD a.Decls, rdE vN a.Nodes, rdE vH a.Hold, rdE vM w.Means, rdE vk n.Kids, rdE vK K] H) ?_ ?_
  ·refine lm (v := Value.func (.func 66) #[] #[PT g10 0]) rfl rfl y14 ?_
   refine lo rfl ?_
   refine e_callV rfl rfl Try.call66 (arr1 (v0 := I (0)) rfl) (is_M 0 g10 vK K (hS16.blk 1 rfl) (hS16.rdN 10 rfl) (by omega)) ?_
   rintro _ H72 ⟨hxx, rfl⟩
   have hS73 := hS16.ext hxx
   refine lm (v := Value.func (.func 66) #[] #[PT g10 0]) rfl rfl y14 ?_
   refine lo rfl ?_
   refine e_callV rfl rfl Try.call66 (arr1 (v0 := I (1)) rfl) (is_M 1 g10 vK K (hS73.blk 1 rfl) (hS73.rdN 10 rfl) (by omega)) ?_
   rintro _ H75 ⟨hxx, rfl⟩
   have hS76 := hS73.ext hxx
   refine lq rfl (q_eqlB rfl Try.underlying4 rfl rfl) ?_
   refine lo rfl ?_
   refine e_call rfl Try.call69 (arr1 (v0 := B (decide ((decide (oneV K 0)) = (decide (oneV K 1))))) rfl) (truth_M ((decide (oneV K 0)) = (decide (oneV K 1)))) ?_
   rintro _ H78 ⟨hxx, rfl⟩
   have hS79 := hS76.ext hxx
   refine lo rfl ?_
   refine e_storeBlkA (cs' := #[I (bitP ((decide (oneV K 0)) = (decide (oneV K 1)))), I (1), nS, I (0)]) rfl y12 rfl Try.sizeOf69 rfl rfl (fa rfl (fa rfl (fa rfl (fa rfl fe)))) hS79 (fun H81 hS82 hxx => ?_)
   refine la (v := B (true)) rfl rfl rfl ?_
   exact ⟨y12, rfl, hS82⟩
  clear y10 y12 y14 y28 y5 y55 y6 y7 y9
  rintro f83 H83 ⟨y12, y13, hS83⟩
  refine wpF_ret ?_
  refine ⟨_, resC y12 (loadV_blkA Try.isAgg69 Try.sizeOf69 rfl (hS83.blk 0 rfl)) (resT y13 resN), hS83.frame, ?_⟩
  show ∃ w_, (Value.tuple #[Vg #[I (bitP ((decide (oneV K 0)) = (decide (oneV K 1)))), I (1), nS, I (0)], B (true)]) = Value.tuple #[Vg #[I (valueV a w n K b).1.VNum, I (valueV a w n K b).1.VDen, w_, I (valueV a w n K b).1.Rest], B (valueV a w n K b).2] ∧ Rd (SZ S H0) H83 w_ (valueV a w n K b).1.Cells ∧ In64 (valueV a w n K b).1.VNum ∧ In64 (valueV a w n K b).1.VDen ∧ In64 (valueV a w n K b).1.Rest
  have hq_ := vv_6 (a := a) (w := w) (K := K) (b := b) o6
  rw [hq_]
  exact ⟨_, rfl, rdNil, (by first | assumption | exact bitP_in | exact (by constructor <;> decide : In64 0) | exact (by constructor <;> decide : In64 1)), (by first | assumption | exact bitP_in | exact (by constructor <;> decide : In64 0) | exact (by constructor <;> decide : In64 1)), (by first | assumption | exact bitP_in | exact (by constructor <;> decide : In64 0) | exact (by constructor <;> decide : In64 1))⟩
 refine fcr (fun f H => f 5 = I (b) ∧ f 6 = PT g1 0 ∧ f 7 = PT g4 0 ∧ f 9 = PT g7 0 ∧ f 10 = PT g10 0 ∧ f 12 = PT g13 0 ∧ f 14 = Value.func (.func 66) #[] #[PT g10 0] ∧ f 28 = I (n.Op) ∧ f 63 = B (decide (n.Op = 7)) ∧ H16 = H) ?_ ?_
 ·refine lq rfl (q_eql rfl y28 rfl) ?_
  refine la (v := B (decide (n.Op = 7))) rfl rfl rfl ?_
  exact ⟨y5, y6, y7, y9, y10, y12, y14, y28, rfl, rfl⟩
 clear y10 y12 y14 y28 y5 y55 y6 y7 y9
 rintro f84 _ ⟨y5, y6, y7, y9, y10, y12, y14, y28, y63, rfl⟩
 refine wpF_condP y63 (fun o7 => ?t224) (fun o7 => ?e224)
 case t224 =>
  refine wpF_seq ?_
  refine fcr (fun f H => f 10 = PT g10 0 ∧ f 12 = PT g13 0 ∧ f 66 = B (decide (oneV K 0)) ∧ St H0 NoB (SZ S H0) [bE g13 #[I (0), I (0), nS, I (0)] 69, bE g10 #[vK] 80, bE g7 #[I (n.Op), vk, I (n.N), I (n.D), SB (n.Name)] 37, bE g4 #[vM] 47, bE g1 #[vD, vN, vH] 26, rdE vD a.Decls, rdE vN a.Nodes, rdE vH a.Hold, rdE vM w.Means, rdE vk n.Kids, rdE vK K] H) ?_ ?_
  ·refine lm (v := Value.func (.func 66) #[] #[PT g10 0]) rfl rfl y14 ?_
   refine lo rfl ?_
   refine e_callV rfl rfl Try.call66 (arr1 (v0 := I (0)) rfl) (is_M 0 g10 vK K (hS16.blk 1 rfl) (hS16.rdN 10 rfl) (by omega)) ?_
   rintro _ H86 ⟨hxx, rfl⟩
   have hS87 := hS16.ext hxx
   exact ⟨y10, y12, rfl, hS87⟩
  clear y10 y12 y14 y28 y5 y6 y63 y7 y9
  rintro f89 H89 ⟨y10, y12, y66, hS89⟩
  refine wpF_condP y66 (fun h66 => ?t101) (fun h66 => ?e101)
  case t101 =>
   refine fcr (fun f H => ∃ (u91n2 : Value), (In64 (nth K 1).VNum) ∧ (In64 (nth K 1).VDen) ∧ (In64 (nth K 1).Rest) ∧ f 12 = PT g13 0 ∧ f 13 = B (true) ∧ St H0 NoB (SZ S H0) [bE g13 #[I ((nth K 1).VNum), I ((nth K 1).VDen), u91n2, I ((nth K 1).Rest)] 69, rdE u91n2 ((nth K 1).Cells), bE g10 #[vK] 80, bE g7 #[I (n.Op), vk, I (n.N), I (n.D), SB (n.Name)] 37, bE g4 #[vM] 47, bE g1 #[vD, vN, vH] 26, rdE vD a.Decls, rdE vN a.Nodes, rdE vH a.Hold, rdE vM w.Means, rdE vk n.Kids, rdE vK K] H) ?_ ?_
   ·refine lq rfl (q_loadBlk rfl y10 Try.isAgg80 (hS89.blk 1 rfl) rfl (fun h => h)) ?_
    refine lq rfl (q_indexRd (k := 1) rfl Try.underlying80 el_Val_69_MeanC4 rfl rfl (hS89.rdl 10 rfl) (by omega) (by omega)) ?_
    obtain ⟨u91, huu91, hlu91⟩ := (Rd.list.1 (hS89.rdS 10 rfl)).elem 1 (by omega)
    obtain ⟨u91n2, rfl, hu910, hu911, hu912, hu913⟩ := Rd.val.1 huu91
    have hS92 := hS89.rd hu912
    refine lq rfl (q_loadE rfl rfl (hlu91 Try.prog 69 _ el_Val_69_MeanC4 (fun _ h => False.elim h))) ?_
    refine lo rfl ?_
    refine e_storeBlkA (cs' := #[I ((nth K 1).VNum), I ((nth K 1).VDen), u91n2, I ((nth K 1).Rest)]) rfl y12 rfl Try.sizeOf69 rfl rfl (fa rfl (fa rfl (fa ((oneCell_rdL (hS92.rdl 0 rfl))) (fa rfl fe)))) (hS92.front 1 rfl) (fun H93 hS94 hxx => ?_)
    refine la (v := B (true)) rfl rfl rfl ?_
    exact ⟨u91n2, hu910, hu911, hu913, y12, rfl, hS94⟩
   clear y10 y12 y66
   rintro f95 H95 ⟨u91n2, hu910, hu911, hu913, y12, y13, hS95⟩
   refine wpF_ret ?_
   refine ⟨_, resC y12 (loadV_blkA Try.isAgg69 Try.sizeOf69 rfl (hS95.blk 0 rfl)) (resT y13 resN), hS95.frame, ?_⟩
   show ∃ w_, (Value.tuple #[Vg #[I ((nth K 1).VNum), I ((nth K 1).VDen), u91n2, I ((nth K 1).Rest)], B (true)]) = Value.tuple #[Vg #[I (valueV a w n K b).1.VNum, I (valueV a w n K b).1.VDen, w_, I (valueV a w n K b).1.Rest], B (valueV a w n K b).2] ∧ Rd (SZ S H0) H95 w_ (valueV a w n K b).1.Cells ∧ In64 (valueV a w n K b).1.VNum ∧ In64 (valueV a w n K b).1.VDen ∧ In64 (valueV a w n K b).1.Rest
   have hq_ := vv_7 (a := a) (w := w) (K := K) (b := b) o7
   rw [hq_, if_pos h66]
   exact ⟨_, rfl, (hS95.result (hS95.rdS 1 rfl)), (by first | assumption | exact bitP_in | exact (by constructor <;> decide : In64 0) | exact (by constructor <;> decide : In64 1)), (by first | assumption | exact bitP_in | exact (by constructor <;> decide : In64 0) | exact (by constructor <;> decide : In64 1)), (by first | assumption | exact bitP_in | exact (by constructor <;> decide : In64 0) | exact (by constructor <;> decide : In64 1))⟩
  refine wpF_skip ?_
  refine fcr (fun f H => ∃ (u96n2 : Value), (In64 (nth K 2).VNum) ∧ (In64 (nth K 2).VDen) ∧ (In64 (nth K 2).Rest) ∧ f 12 = PT g13 0 ∧ f 13 = B (true) ∧ St H0 NoB (SZ S H0) [bE g13 #[I ((nth K 2).VNum), I ((nth K 2).VDen), u96n2, I ((nth K 2).Rest)] 69, rdE u96n2 ((nth K 2).Cells), bE g10 #[vK] 80, bE g7 #[I (n.Op), vk, I (n.N), I (n.D), SB (n.Name)] 37, bE g4 #[vM] 47, bE g1 #[vD, vN, vH] 26, rdE vD a.Decls, rdE vN a.Nodes, rdE vH a.Hold, rdE vM w.Means, rdE vk n.Kids, rdE vK K] H) ?_ ?_
  ·refine lq rfl (q_loadBlk rfl y10 Try.isAgg80 (hS89.blk 1 rfl) rfl (fun h => h)) ?_
   refine lq rfl (q_indexRd (k := 2) rfl Try.underlying80 el_Val_69_MeanC4 rfl rfl (hS89.rdl 10 rfl) (by omega) (by omega)) ?_
   obtain ⟨u96, huu96, hlu96⟩ := (Rd.list.1 (hS89.rdS 10 rfl)).elem 2 (by omega)
   obtain ⟨u96n2, rfl, hu960, hu961, hu962, hu963⟩ := Rd.val.1 huu96
   have hS97 := hS89.rd hu962
   refine lq rfl (q_loadE rfl rfl (hlu96 Try.prog 69 _ el_Val_69_MeanC4 (fun _ h => False.elim h))) ?_
   refine lo rfl ?_
   refine e_storeBlkA (cs' := #[I ((nth K 2).VNum), I ((nth K 2).VDen), u96n2, I ((nth K 2).Rest)]) rfl y12 rfl Try.sizeOf69 rfl rfl (fa rfl (fa rfl (fa ((oneCell_rdL (hS97.rdl 0 rfl))) (fa rfl fe)))) (hS97.front 1 rfl) (fun H98 hS99 hxx => ?_)
   refine la (v := B (true)) rfl rfl rfl ?_
   exact ⟨u96n2, hu960, hu961, hu963, y12, rfl, hS99⟩
  clear y10 y12 y66
  rintro f100 H100 ⟨u96n2, hu960, hu961, hu963, y12, y13, hS100⟩
  refine wpF_ret ?_
  refine ⟨_, resC y12 (loadV_blkA Try.isAgg69 Try.sizeOf69 rfl (hS100.blk 0 rfl)) (resT y13 resN), hS100.frame, ?_⟩
  show ∃ w_, (Value.tuple #[Vg #[I ((nth K 2).VNum), I ((nth K 2).VDen), u96n2, I ((nth K 2).Rest)], B (true)]) = Value.tuple #[Vg #[I (valueV a w n K b).1.VNum, I (valueV a w n K b).1.VDen, w_, I (valueV a w n K b).1.Rest], B (valueV a w n K b).2] ∧ Rd (SZ S H0) H100 w_ (valueV a w n K b).1.Cells ∧ In64 (valueV a w n K b).1.VNum ∧ In64 (valueV a w n K b).1.VDen ∧ In64 (valueV a w n K b).1.Rest
  have hq_ := vv_7 (a := a) (w := w) (K := K) (b := b) o7
  rw [hq_, if_neg h66]
  exact ⟨_, rfl, (hS100.result (hS100.rdS 1 rfl)), (by first | assumption | exact bitP_in | exact (by constructor <;> decide : In64 0) | exact (by constructor <;> decide : In64 1)), (by first | assumption | exact bitP_in | exact (by constructor <;> decide : In64 0) | exact (by constructor <;> decide : In64 1)), (by first | assumption | exact bitP_in | exact (by constructor <;> decide : In64 0) | exact (by constructor <;> decide : In64 1))⟩
 refine fcr (fun f H => f 5 = I (b) ∧ f 6 = PT g1 0 ∧ f 7 = PT g4 0 ∧ f 9 = PT g7 0 ∧ f 10 = PT g10 0 ∧ f 12 = PT g13 0 ∧ f 28 = I (n.Op) ∧ f 73 = B (decide (n.Op = 8)) ∧ H16 = H) ?_ ?_
 ·refine lq rfl (q_eql rfl y28 rfl) ?_
  refine la (v := B (decide (n.Op = 8))) rfl rfl rfl ?_
  exact ⟨y5, y6, y7, y9, y10, y12, y28, rfl, rfl⟩
 clear y10 y12 y14 y28 y5 y6 y63 y7 y9
 rintro f102 _ ⟨y5, y6, y7, y9, y10, y12, y28, y73, rfl⟩
 refine wpF_condP y73 (fun o8 => ?t223) (fun o8 => ?e223)
 case t223 =>
  refine sc (fun f H => (In64 (nth K 0).VNum) ∧ (In64 (nth K 0).VDen) ∧ (In64 (nth K 1).VNum) ∧ (In64 (nth K 1).VDen) ∧ f 12 = PT g13 0 ∧ f 13 = B (true) ∧ St H0 NoB (SZ S H0) [bE g13 #[I (bitP (((nth K 0).VNum) = ((nth K 1).VNum) ∧ ((nth K 0).VDen) = ((nth K 1).VDen))), I (1), nS, I (0)] 69, bE g10 #[vK] 80, bE g7 #[I (n.Op), vk, I (n.N), I (n.D), SB (n.Name)] 37, bE g4 #[vM] 47, bE g1 #[vD, vN, vH] 26, rdE vD a.Decls, rdE vN a.Nodes, rdE vH a.Hold, rdE vM w.Means, rdE vk n.Kids, rdE vK K] H) ?_ ?_
  ·refine wpF_drawn [none, none, none, none, none, none, none, none, none, none, some 0, none] [[], [], [], [], [], [], [], [], [], [], [], []] (fun l b => match l with | 0 => True | _ => False) (by kernel_rfl) (by kernel_rfl) ?_
   refine rq 0 (by kernel_rfl) rfl rfl (q_loadBlk rfl y10 Try.isAgg80 (hS16.blk 1 rfl) rfl (labU_not [] rfl (fe))) ?_
   refine rq 1 (by kernel_rfl) rfl rfl (q_indexRd (k := 0) rfl Try.underlying80 el_Val_69_MeanC4 rfl rfl (hS16.rdl 10 rfl) (by omega) (by omega)) ?_
   refine rq 2 (by kernel_rfl) rfl rfl (q_fieldE (k := 0) rfl Try.underlying69 rfl Try.sizeOf66 rfl rfl (hS16.rdl 10 rfl) (by omega)) ?_
   obtain ⟨_, hcu104o3, hFu104o3⟩ := RdL.cellsF (Rd.list.1 (hS16.rdS 10 rfl)) 0 (by omega)
   obtain ⟨u104o3n2, rfl, hu104o30, hu104o31, hu104o32, hu104o33⟩ := hcu104o3
   refine rq 3 (by kernel_rfl) rfl rfl (q_loadF rfl rfl (hFu104o3 0 2 [I ((nth K 0).VNum), I ((nth K 0).VDen)] Try.prog 66 _ rfl rfl Try.isAgg66 Try.sizeOf66 (labU_sub [] rfl (fe)))) ?_
   refine rq 4 (by kernel_rfl) rfl rfl (q_loadBlk rfl y10 Try.isAgg80 (hS16.blk 1 rfl) rfl (labU_not [] rfl (fe))) ?_
   refine rq 5 (by kernel_rfl) rfl rfl (q_indexRd (k := 1) rfl Try.underlying80 el_Val_69_MeanC4 rfl rfl (hS16.rdl 10 rfl) (by omega) (by omega)) ?_
   refine rq 6 (by kernel_rfl) rfl rfl (q_fieldE (k := 1) rfl Try.underlying69 rfl Try.sizeOf66 rfl rfl (hS16.rdl 10 rfl) (by omega)) ?_
   obtain ⟨_, hcu104o7, hFu104o7⟩ := RdL.cellsF (Rd.list.1 (hS16.rdS 10 rfl)) 1 (by omega)
   obtain ⟨u104o7n2, rfl, hu104o70, hu104o71, hu104o72, hu104o73⟩ := hcu104o7
   refine rq 7 (by kernel_rfl) rfl rfl (q_loadF rfl rfl (hFu104o7 0 2 [I ((nth K 1).VNum), I ((nth K 1).VDen)] Try.prog 66 _ rfl rfl Try.isAgg66 Try.sizeOf66 (labU_sub [] rfl (fe)))) ?_
   refine rq 8 (by kernel_rfl) rfl rfl (q_eqlF2 rfl Try.eqGuardType66 (fl66_MeanC4 _ _ _ _) rfl rfl) ?_
   refine wpR_n [9] (by kernel_rfl) ?_
   refine fa ?_ fe
   refine exE rfl rfl ?_
   refine e_call rfl Try.call69 (arr1 (v0 := B (decide (((nth K 0).VNum) = ((nth K 1).VNum) ∧ ((nth K 0).VDen) = ((nth K 1).VDen)))) rfl) (truth_M (((nth K 0).VNum) = ((nth K 1).VNum) ∧ ((nth K 0).VDen) = ((nth K 1).VDen))) ?_
   rintro _ H104o9 ⟨hxx, rfl⟩
   have hS104o9 := hS16.ext hxx
   refine ⟨Ext.mono hxx (fun _ h => h.elim), ?_⟩
   refine wpR_n [10] (by kernel_rfl) ?_
   refine fa ?_ fe
   refine exE rfl rfl ?_
   refine e_storeBlkA (cs' := #[I (bitP (((nth K 0).VNum) = ((nth K 1).VNum) ∧ ((nth K 0).VDen) = ((nth K 1).VDen))), I (1), nS, I (0)]) rfl y12 rfl Try.sizeOf69 rfl rfl (fa rfl (fa rfl (fa rfl (fa rfl fe)))) hS104o9 (fun H104o10 hS104o10 hxx => ?_)
   refine ⟨Ext.mono hxx (labS_of 0 rfl (fun _ _ => trivial)), ?_⟩
   refine rq 11 (by kernel_rfl) rfl rfl (q_assign (v := B (true)) rfl rfl) ?_
   refine wpR_end (by kernel_rfl) ?_
   exact ⟨hu104o30, hu104o31, hu104o70, hu104o71, y12, rfl, hS104o10⟩
  clear y10 y12 y28 y5 y6 y7 y73 y9
  rintro f105 H105 ⟨hu104o30, hu104o31, hu104o70, hu104o71, y12, y13, hS105⟩
  refine wpF_ret ?_
  refine ⟨_, resC y12 (loadV_blkA Try.isAgg69 Try.sizeOf69 rfl (hS105.blk 0 rfl)) (resT y13 resN), hS105.frame, ?_⟩
  show ∃ w_, (Value.tuple #[Vg #[I (bitP (((nth K 0).VNum) = ((nth K 1).VNum) ∧ ((nth K 0).VDen) = ((nth K 1).VDen))), I (1), nS, I (0)], B (true)]) = Value.tuple #[Vg #[I (valueV a w n K b).1.VNum, I (valueV a w n K b).1.VDen, w_, I (valueV a w n K b).1.Rest], B (valueV a w n K b).2] ∧ Rd (SZ S H0) H105 w_ (valueV a w n K b).1.Cells ∧ In64 (valueV a w n K b).1.VNum ∧ In64 (valueV a w n K b).1.VDen ∧ In64 (valueV a w n K b).1.Rest
  have hq_ := vv_8 (a := a) (w := w) (K := K) (b := b) o8
  rw [hq_]
  exact ⟨_, rfl, rdNil, (by first | assumption | exact bitP_in | exact (by constructor <;> decide : In64 0) | exact (by constructor <;> decide : In64 1)), (by first | assumption | exact bitP_in | exact (by constructor <;> decide : In64 0) | exact (by constructor <;> decide : In64 1)), (by first | assumption | exact bitP_in | exact (by constructor <;> decide : In64 0) | exact (by constructor <;> decide : In64 1))⟩
 refine fcr (fun f H => f 5 = I (b) ∧ f 6 = PT g1 0 ∧ f 7 = PT g4 0 ∧ f 9 = PT g7 0 ∧ f 10 = PT g10 0 ∧ f 12 = PT g13 0 ∧ f 28 = I (n.Op) ∧ f 85 = B (decide (n.Op = 9)) ∧ H16 = H) ?_ ?_
 ·refine lq rfl (q_eql rfl y28 rfl) ?_
  refine la (v := B (decide (n.Op = 9))) rfl rfl rfl ?_
  exact ⟨y5, y6, y7, y9, y10, y12, y28, rfl, rfl⟩
 clear y10 y12 y28 y5 y6 y7 y73 y9
 rintro f106 _ ⟨y5, y6, y7, y9, y10, y12, y28, y85, rfl⟩
 refine wpF_condP y85 (fun h85 => ?t222) (fun h85 => ?e222)
 case t222 =>
  obtain ⟨hf0, hf1, hf2⟩ := hV.found h85
  refine sc (fun f H => ∃ (r108o9 : Value), (In64 (nth w.Means ((findD a.Decls n.Name).toNat)).MNum) ∧ (In64 (nth w.Means ((findD a.Decls n.Name).toNat)).MDen) ∧ (In64 (nth w.Means ((findD a.Decls n.Name).toNat)).MRest) ∧ (In64 (toldV (nth w.Means ((findD a.Decls n.Name).toNat)) K).VNum) ∧ (In64 (toldV (nth w.Means ((findD a.Decls n.Name).toNat)) K).VDen) ∧ (In64 (toldV (nth w.Means ((findD a.Decls n.Name).toNat)) K).Rest) ∧ f 12 = PT g13 0 ∧ f 13 = B (true) ∧ St H0 NoB (SZ S H0) [bE g13 #[I ((toldV (nth w.Means ((findD a.Decls n.Name).toNat)) K).VNum), I ((toldV (nth w.Means ((findD a.Decls n.Name).toNat)) K).VDen), r108o9, I ((toldV (nth w.Means ((findD a.Decls n.Name).toNat)) K).Rest)] 69, rdE r108o9 ((toldV (nth w.Means ((findD a.Decls n.Name).toNat)) K).Cells), bE g10 #[vK] 80, bE g7 #[I (n.Op), vk, I (n.N), I (n.D), SB (n.Name)] 37, bE g4 #[vM] 47, bE g1 #[vD, vN, vH] 26, rdE vD a.Decls, rdE vN a.Nodes, rdE vH a.Hold, rdE vM w.Means, rdE vk n.Kids, rdE vK K] H) ?_ ?_
  ·refine wpF_drawn [none, none, none, none, none, none, none, none, none, none, some 0, none] [[], [], [], [], [], [], [], [], [], [], [], []] (fun l b => match l with | 0 => True | _ => False) (by kernel_rfl) (by kernel_rfl) ?_
   refine rq 0 (by kernel_rfl) rfl rfl (q_fieldAddr rfl Try.underlying47 rfl Try.sizeOf45 y7) ?_
   refine rq 1 (by kernel_rfl) rfl rfl (q_loadBlk rfl rfl Try.isAgg45 (hS16.blk 3 rfl) rfl (labU_not [] rfl (fe))) ?_
   refine rq 2 (by kernel_rfl) rfl rfl (q_loadBlkA rfl y6 Try.isAgg26 Try.sizeOf26 rfl (hS16.blk 4 rfl) (labU_not [] rfl (fe))) ?_
   refine rq 3 (by kernel_rfl) rfl rfl (q_fieldAddr rfl Try.underlying37 rfl Try.sizeOf9 y9) ?_
   refine rq 4 (by kernel_rfl) rfl rfl (q_loadBlk rfl rfl Try.isAgg9 (hS16.blk 2 rfl) rfl (labU_not [] rfl (fe))) ?_
   refine rq 8 (by kernel_rfl) rfl rfl (q_loadBlk rfl y10 Try.isAgg80 (hS16.blk 1 rfl) rfl (labU_not [] rfl (fe))) ?_
   refine wpR_n [5] (by kernel_rfl) ?_
   refine fa ?_ fe
   refine exE rfl rfl ?_
   refine e_call rfl Try.call36 (arr2 (v0 := Vg #[vD, vN, vH]) (v1 := SB (n.Name)) rfl rfl) (Find_L vD vN vH a n.Name (hS16.rdN 5 rfl) (hS16.rdN 6 rfl) (hS16.rdN 7 rfl)) ?_
   rintro _ H108o5 ⟨hxx, rfl⟩
   have hS108o5 := hS16.ext hxx
   refine ⟨Ext.mono hxx (fun _ h => h.elim), ?_⟩
   refine rq 6 (by kernel_rfl) rfl rfl (q_indexRd (k := (findD a.Decls n.Name).toNat) rfl Try.underlying45 el_Meaning_71_MeanC4 rfl rfl (hS108o5.rdl 8 rfl) (by omega) (by omega)) ?_
   obtain ⟨u108o7, huu108o7, hlu108o7⟩ := (Rd.list.1 (hS108o5.rdS 8 rfl)).elem ((findD a.Decls n.Name).toNat) (by omega)
   obtain ⟨u108o7n0, u108o7n3, rfl, hu108o70, hu108o71, hu108o72, hu108o73, hu108o74⟩ := Rd.meaning.1 huu108o7
   have hS108o7 := hS108o5.rd hu108o70
   have hS108o7x2 : St H0 NoB (SZ S H0) [rdE u108o7n3 ((nth w.Means ((findD a.Decls n.Name).toNat)).MCells), rdE u108o7n0 ((nth w.Means ((findD a.Decls n.Name).toNat)).Rows), bE g13 #[I (0), I (0), nS, I (0)] 69, bE g10 #[vK] 80, bE g7 #[I (n.Op), vk, I (n.N), I (n.D), SB (n.Name)] 37, bE g4 #[vM] 47, bE g1 #[vD, vN, vH] 26, rdE vD a.Decls, rdE vN a.Nodes, rdE vH a.Hold, rdE vM w.Means, rdE vk n.Kids, rdE vK K] H108o5 := hS108o7.rd (hu108o73.sub fun _ hb => SL_rd hb)
   refine rq 7 (by kernel_rfl) rfl rfl (q_loadE rfl rfl (hlu108o7 Try.prog 71 _ el_Meaning_71_MeanC4 (labU_sub [] rfl (fe)))) ?_
   refine wpR_n [9] (by kernel_rfl) ?_
   refine fa ?_ fe
   refine exE rfl rfl ?_
   refine e_call rfl Try.call71 (arr2 (v0 := Vg #[u108o7n0, I ((nth w.Means ((findD a.Decls n.Name).toNat)).MNum), I ((nth w.Means ((findD a.Decls n.Name).toNat)).MDen), u108o7n3, I ((nth w.Means ((findD a.Decls n.Name).toNat)).MRest)]) (v1 := vK) rfl rfl) (told_M u108o7n0 u108o7n3 vK (nth w.Means ((findD a.Decls n.Name).toNat)) K (hS108o7x2.rdS 1 rfl) (by first | assumption | exact bitP_in | exact wrap_in64 | (constructor <;> (dsimp only; omega)) | (constructor <;> omega)) (by first | assumption | exact bitP_in | exact wrap_in64 | (constructor <;> (dsimp only; omega)) | (constructor <;> omega)) (hS108o7x2.rdS 0 rfl) (by first | assumption | exact bitP_in | exact wrap_in64 | (constructor <;> (dsimp only; omega)) | (constructor <;> omega)) (hS108o7x2.rdS 12 rfl) hf2) ?_
   rintro _ H108o9 ⟨hxx, r108o9, rfl, hrr108o9, h6r108o9a, h6r108o9b, h6r108o9c⟩
   have hS108o9 := hS108o7x2.res hxx hrr108o9
   refine ⟨Ext.mono hxx (fun _ h => h.elim), ?_⟩
   refine wpR_n [10] (by kernel_rfl) ?_
   refine fa ?_ fe
   refine exE rfl rfl ?_
   refine e_storeBlkA (cs' := #[I ((toldV (nth w.Means ((findD a.Decls n.Name).toNat)) K).VNum), I ((toldV (nth w.Means ((findD a.Decls n.Name).toNat)) K).VDen), r108o9, I ((toldV (nth w.Means ((findD a.Decls n.Name).toNat)) K).Rest)]) rfl y12 rfl Try.sizeOf69 rfl rfl (fa rfl (fa rfl (fa ((oneCell_rdL (hS108o9.rdl 0 rfl))) (fa rfl fe)))) (hS108o9.front 3 rfl) (fun H108o10 hS108o10 hxx => ?_)
   refine ⟨Ext.mono hxx (labS_of 0 rfl (fun _ _ => trivial)), ?_⟩
   refine rq 11 (by kernel_rfl) rfl rfl (q_assign (v := B (true)) rfl rfl) ?_
   refine wpR_end (by kernel_rfl) ?_
   exact ⟨r108o9, hu108o71, hu108o72, hu108o74, h6r108o9a, h6r108o9b, h6r108o9c, y12, rfl, (hS108o10.drop (sk (sk (sn (sn (sk (sk (sk (sk (sk (sk (sk (sk (sk (sk (List.Sublist.slnil))))))))))))))))⟩
  clear y10 y12 y28 y5 y6 y7 y85 y9
  rintro f109 H109 ⟨r108o9, hu108o71, hu108o72, hu108o74, h6r108o9a, h6r108o9b, h6r108o9c, y12, y13, hS109⟩
  refine wpF_ret ?_
  refine ⟨_, resC y12 (loadV_blkA Try.isAgg69 Try.sizeOf69 rfl (hS109.blk 0 rfl)) (resT y13 resN), hS109.frame, ?_⟩
  show ∃ w_, (Value.tuple #[Vg #[I ((toldV (nth w.Means ((findD a.Decls n.Name).toNat)) K).VNum), I ((toldV (nth w.Means ((findD a.Decls n.Name).toNat)) K).VDen), r108o9, I ((toldV (nth w.Means ((findD a.Decls n.Name).toNat)) K).Rest)], B (true)]) = Value.tuple #[Vg #[I (valueV a w n K b).1.VNum, I (valueV a w n K b).1.VDen, w_, I (valueV a w n K b).1.Rest], B (valueV a w n K b).2] ∧ Rd (SZ S H0) H109 w_ (valueV a w n K b).1.Cells ∧ In64 (valueV a w n K b).1.VNum ∧ In64 (valueV a w n K b).1.VDen ∧ In64 (valueV a w n K b).1.Rest
  have hq_ := vv_9 (a := a) (w := w) (K := K) (b := b) h85
  rw [hq_]
  exact ⟨_, rfl, (hS109.result (hS109.rdS 1 rfl)), (by first | assumption | exact bitP_in | exact (by constructor <;> decide : In64 0) | exact (by constructor <;> decide : In64 1)), (by first | assumption | exact bitP_in | exact (by constructor <;> decide : In64 0) | exact (by constructor <;> decide : In64 1)), (by first | assumption | exact bitP_in | exact (by constructor <;> decide : In64 0) | exact (by constructor <;> decide : In64 1))⟩
 refine fcr (fun f H => f 5 = I (b) ∧ f 9 = PT g7 0 ∧ f 10 = PT g10 0 ∧ f 12 = PT g13 0 ∧ f 28 = I (n.Op) ∧ f 97 = B (decide (n.Op = 10)) ∧ H16 = H) ?_ ?_
 ·refine lq rfl (q_eql rfl y28 rfl) ?_
  refine la (v := B (decide (n.Op = 10))) rfl rfl rfl ?_
  exact ⟨y5, y9, y10, y12, y28, rfl, rfl⟩
 clear y10 y12 y28 y5 y6 y7 y85 y9
 rintro f110 _ ⟨y5, y9, y10, y12, y28, y97, rfl⟩
 refine wpF_condP y97 (fun o10 => ?t221) (fun o10 => ?e221)
 case t221 =>
  refine fcr (fun f H => f 12 = PT g13 0 ∧ f 13 = B (true) ∧ St H0 NoB (SZ S H0) [bE g13 #[I (n.N), I (n.D), nS, I (0)] 69, bE g10 #[vK] 80, bE g7 #[I (n.Op), vk, I (n.N), I (n.D), SB (n.Name)] 37, bE g4 #[vM] 47, bE g1 #[vD, vN, vH] 26, rdE vD a.Decls, rdE vN a.Nodes, rdE vH a.Hold, rdE vM w.Means, rdE vk n.Kids, rdE vK K] H) ?_ ?_
  ·refine lq rfl (q_fieldAddr rfl Try.underlying37 rfl Try.sizeOf3 y9) ?_
   refine lq rfl (q_loadBlk rfl rfl Try.isAgg3 (hS16.blk 2 rfl) rfl (fun h => h)) ?_
   refine lq rfl (q_fieldAddr rfl Try.underlying37 rfl Try.sizeOf3 y9) ?_
   refine lq rfl (q_loadBlk rfl rfl Try.isAgg3 (hS16.blk 2 rfl) rfl (fun h => h)) ?_
   refine lq rfl (q_build (v := Vg #[I (n.N), I (n.D)]) rfl (par2 (v0 := I (n.N)) (v1 := I (n.D)) rfl rfl) (fun w__ => by kernel_rfl)) ?_
   refine lq rfl (q_build (v := Vg #[I (n.N), I (n.D), nS, I (0)]) rfl (par1 (v0 := Vg #[I (n.N), I (n.D)]) rfl) (fun w__ => by kernel_rfl)) ?_
   refine lo rfl ?_
   refine e_storeBlkA (cs' := #[I (n.N), I (n.D), nS, I (0)]) rfl y12 rfl Try.sizeOf69 rfl rfl (fa rfl (fa rfl (fa rfl (fa rfl fe)))) hS16 (fun H112 hS113 hxx => ?_)
   refine la (v := B (true)) rfl rfl rfl ?_
   exact ⟨y12, rfl, hS113⟩
  clear y10 y12 y28 y5 y9 y97
  rintro f114 H114 ⟨y12, y13, hS114⟩
  refine wpF_ret ?_
  refine ⟨_, resC y12 (loadV_blkA Try.isAgg69 Try.sizeOf69 rfl (hS114.blk 0 rfl)) (resT y13 resN), hS114.frame, ?_⟩
  show ∃ w_, (Value.tuple #[Vg #[I (n.N), I (n.D), nS, I (0)], B (true)]) = Value.tuple #[Vg #[I (valueV a w n K b).1.VNum, I (valueV a w n K b).1.VDen, w_, I (valueV a w n K b).1.Rest], B (valueV a w n K b).2] ∧ Rd (SZ S H0) H114 w_ (valueV a w n K b).1.Cells ∧ In64 (valueV a w n K b).1.VNum ∧ In64 (valueV a w n K b).1.VDen ∧ In64 (valueV a w n K b).1.Rest
  have hq_ := vv_10 (a := a) (w := w) (K := K) (b := b) o10
  rw [hq_]
  exact ⟨_, rfl, rdNil, (by first | assumption | exact bitP_in | exact (by constructor <;> decide : In64 0) | exact (by constructor <;> decide : In64 1)), (by first | assumption | exact bitP_in | exact (by constructor <;> decide : In64 0) | exact (by constructor <;> decide : In64 1)), (by first | assumption | exact bitP_in | exact (by constructor <;> decide : In64 0) | exact (by constructor <;> decide : In64 1))⟩
 refine wpF_seq ?_
 refine fcr (fun f H => f 5 = I (b) ∧ f 9 = PT g7 0 ∧ f 10 = PT g10 0 ∧ f 12 = PT g13 0 ∧ f 28 = I (n.Op) ∧ f 105 = B (decide (n.Op = 11)) ∧ H16 = H) ?_ ?_
 ·refine lq rfl (q_eql rfl y28 rfl) ?_
  refine la (v := B (decide (n.Op = 11))) rfl rfl rfl ?_
  exact ⟨y5, y9, y10, y12, y28, rfl, rfl⟩
 clear y10 y12 y28 y5 y9 y97
 rintro f115 _ ⟨y5, y9, y10, y12, y28, y105, rfl⟩
 refine wpF_condP y105 (fun o11 => ?t220) (fun o11 => ?e220)
 case t220 =>
  refine wpF_skip ?_
  refine wpF_condT (Eq.trans y105 (congrArg B (decide_eq_true o11))) ?_
  refine fcr (fun f H => (In64 (numberV n K).1.VNum) ∧ (In64 (numberV n K).1.VDen) ∧ f 12 = PT g13 0 ∧ f 13 = B ((numberV n K).2) ∧ St H0 NoB (SZ S H0) [bE g13 #[I ((numberV n K).1.VNum), I ((numberV n K).1.VDen), nS, I (0)] 69, bE g10 #[vK] 80, bE g7 #[I (n.Op), vk, I (n.N), I (n.D), SB (n.Name)] 37, bE g4 #[vM] 47, bE g1 #[vD, vN, vH] 26, rdE vD a.Decls, rdE vN a.Nodes, rdE vH a.Hold, rdE vM w.Means, rdE vk n.Kids, rdE vK K] H) ?_ ?_
  ·refine lq rfl (q_loadBlkA rfl y9 Try.isAgg37 Try.sizeOf37 rfl (hS16.blk 2 rfl) (fun h => h)) ?_
   refine lq rfl (q_loadBlk rfl y10 Try.isAgg80 (hS16.blk 1 rfl) rfl (fun h => h)) ?_
   refine lo rfl ?_
   refine e_call rfl Try.call72 (arr2 (v0 := Vg #[I (n.Op), vk, I (n.N), I (n.D), SB (n.Name)]) (v1 := vK) rfl rfl) (number_M vk vK n K (by first | assumption | exact bitP_in | exact wrap_in64 | (constructor <;> (dsimp only; omega)) | (constructor <;> omega)) (hS16.rdN 9 rfl) (by first | assumption | exact bitP_in | exact wrap_in64 | (constructor <;> (dsimp only; omega)) | (constructor <;> omega)) (by first | assumption | exact bitP_in | exact wrap_in64 | (constructor <;> (dsimp only; omega)) | (constructor <;> omega)) (by first | assumption | exact Nat.zero_le _) (hS16.rdN 10 rfl) (fun h => hk1 (.inr h))) ?_
   rintro _ H118 ⟨hxx, rfl, h6z117a, h6z117b⟩
   have hS119 := hS16.ext hxx
   refine lq rfl (q_extract (vs := #[Vg #[I ((numberV n K).1.VNum), I ((numberV n K).1.VDen), nS, I (0)], B ((numberV n K).2)]) (v := Vg #[I ((numberV n K).1.VNum), I ((numberV n K).1.VDen), nS, I (0)]) rfl rfl rfl) ?_
   refine lq rfl (q_extract (vs := #[Vg #[I ((numberV n K).1.VNum), I ((numberV n K).1.VDen), nS, I (0)], B ((numberV n K).2)]) (v := B ((numberV n K).2)) rfl rfl rfl) ?_
   refine lo rfl ?_
   refine e_storeBlkA (cs' := #[I ((numberV n K).1.VNum), I ((numberV n K).1.VDen), nS, I (0)]) rfl y12 rfl Try.sizeOf69 rfl rfl (fa rfl (fa rfl (fa rfl (fa rfl fe)))) hS119 (fun H121 hS122 hxx => ?_)
   refine la (v := B ((numberV n K).2)) rfl rfl rfl ?_
   exact ⟨h6z117a, h6z117b, y12, rfl, hS122⟩
  clear y10 y105 y12 y28 y5 y9
  rintro f123 H123 ⟨h6z117a, h6z117b, y12, y13, hS123⟩
  refine wpF_ret ?_
  refine ⟨_, resC y12 (loadV_blkA Try.isAgg69 Try.sizeOf69 rfl (hS123.blk 0 rfl)) (resT y13 resN), hS123.frame, ?_⟩
  show ∃ w_, (Value.tuple #[Vg #[I ((numberV n K).1.VNum), I ((numberV n K).1.VDen), nS, I (0)], B ((numberV n K).2)]) = Value.tuple #[Vg #[I (valueV a w n K b).1.VNum, I (valueV a w n K b).1.VDen, w_, I (valueV a w n K b).1.Rest], B (valueV a w n K b).2] ∧ Rd (SZ S H0) H123 w_ (valueV a w n K b).1.Cells ∧ In64 (valueV a w n K b).1.VNum ∧ In64 (valueV a w n K b).1.VDen ∧ In64 (valueV a w n K b).1.Rest
  have hq_ := vv_11 (a := a) (w := w) (K := K) (b := b) o11
  rw [hq_]
  obtain ⟨hn1_, hn2_⟩ := numberV_flat (n := n) (K := K)
  rw [hn1_, hn2_]
  exact ⟨_, rfl, rdNil, by assumption, by assumption, (by constructor <;> decide : In64 0)⟩
 refine wpF_cut (fun f H => f 5 = I (b) ∧ f 9 = PT g7 0 ∧ f 10 = PT g10 0 ∧ f 12 = PT g13 0 ∧ f 28 = I (n.Op) ∧ f 105 = B (decide (n.Op = 12)) ∧ H16 = H) ?_ ?_
 ·refine wpF_region ?_
  refine lq rfl (q_eql rfl y28 rfl) ?_
  refine la (v := B (decide (n.Op = 12))) rfl rfl rfl ?_
  exact ⟨y5, y9, y10, y12, y28, rfl, rfl⟩
 clear y10 y105 y12 y28 y5 y9
 rintro f124 _ ⟨y5, y9, y10, y12, y28, y105, rfl⟩
 refine wpF_condP y105 (fun o12 => ?t219) (fun o12 => ?e219)
 case t219 =>
  refine fcr (fun f H => (In64 (numberV n K).1.VNum) ∧ (In64 (numberV n K).1.VDen) ∧ f 12 = PT g13 0 ∧ f 13 = B ((numberV n K).2) ∧ St H0 NoB (SZ S H0) [bE g13 #[I ((numberV n K).1.VNum), I ((numberV n K).1.VDen), nS, I (0)] 69, bE g10 #[vK] 80, bE g7 #[I (n.Op), vk, I (n.N), I (n.D), SB (n.Name)] 37, bE g4 #[vM] 47, bE g1 #[vD, vN, vH] 26, rdE vD a.Decls, rdE vN a.Nodes, rdE vH a.Hold, rdE vM w.Means, rdE vk n.Kids, rdE vK K] H) ?_ ?_
  ·refine lq rfl (q_loadBlkA rfl y9 Try.isAgg37 Try.sizeOf37 rfl (hS16.blk 2 rfl) (fun h => h)) ?_
   refine lq rfl (q_loadBlk rfl y10 Try.isAgg80 (hS16.blk 1 rfl) rfl (fun h => h)) ?_
   refine lo rfl ?_
   refine e_call rfl Try.call72 (arr2 (v0 := Vg #[I (n.Op), vk, I (n.N), I (n.D), SB (n.Name)]) (v1 := vK) rfl rfl) (number_M vk vK n K (by first | assumption | exact bitP_in | exact wrap_in64 | (constructor <;> (dsimp only; omega)) | (constructor <;> omega)) (hS16.rdN 9 rfl) (by first | assumption | exact bitP_in | exact wrap_in64 | (constructor <;> (dsimp only; omega)) | (constructor <;> omega)) (by first | assumption | exact bitP_in | exact wrap_in64 | (constructor <;> (dsimp only; omega)) | (constructor <;> omega)) (by first | assumption | exact Nat.zero_le _) (hS16.rdN 10 rfl) (fun h => hk1 (.inr h))) ?_
   rintro _ H127 ⟨hxx, rfl, h6z126a, h6z126b⟩
   have hS128 := hS16.ext hxx
   refine lq rfl (q_extract (vs := #[Vg #[I ((numberV n K).1.VNum), I ((numberV n K).1.VDen), nS, I (0)], B ((numberV n K).2)]) (v := Vg #[I ((numberV n K).1.VNum), I ((numberV n K).1.VDen), nS, I (0)]) rfl rfl rfl) ?_
   refine lq rfl (q_extract (vs := #[Vg #[I ((numberV n K).1.VNum), I ((numberV n K).1.VDen), nS, I (0)], B ((numberV n K).2)]) (v := B ((numberV n K).2)) rfl rfl rfl) ?_
   refine lo rfl ?_
   refine e_storeBlkA (cs' := #[I ((numberV n K).1.VNum), I ((numberV n K).1.VDen), nS, I (0)]) rfl y12 rfl Try.sizeOf69 rfl rfl (fa rfl (fa rfl (fa rfl (fa rfl fe)))) hS128 (fun H130 hS131 hxx => ?_)
   refine la (v := B ((numberV n K).2)) rfl rfl rfl ?_
   exact ⟨h6z126a, h6z126b, y12, rfl, hS131⟩
  clear y10 y105 y12 y28 y5 y9
  rintro f132 H132 ⟨h6z126a, h6z126b, y12, y13, hS132⟩
  refine wpF_ret ?_
  refine ⟨_, resC y12 (loadV_blkA Try.isAgg69 Try.sizeOf69 rfl (hS132.blk 0 rfl)) (resT y13 resN), hS132.frame, ?_⟩
  show ∃ w_, (Value.tuple #[Vg #[I ((numberV n K).1.VNum), I ((numberV n K).1.VDen), nS, I (0)], B ((numberV n K).2)]) = Value.tuple #[Vg #[I (valueV a w n K b).1.VNum, I (valueV a w n K b).1.VDen, w_, I (valueV a w n K b).1.Rest], B (valueV a w n K b).2] ∧ Rd (SZ S H0) H132 w_ (valueV a w n K b).1.Cells ∧ In64 (valueV a w n K b).1.VNum ∧ In64 (valueV a w n K b).1.VDen ∧ In64 (valueV a w n K b).1.Rest
  have hq_ := vv_12 (a := a) (w := w) (K := K) (b := b) o12
  rw [hq_]
  obtain ⟨hn1_, hn2_⟩ := numberV_flat (n := n) (K := K)
  rw [hn1_, hn2_]
  exact ⟨_, rfl, rdNil, by assumption, by assumption, (by constructor <;> decide : In64 0)⟩
 refine fcr (fun f H => f 5 = I (b) ∧ f 9 = PT g7 0 ∧ f 10 = PT g10 0 ∧ f 12 = PT g13 0 ∧ f 28 = I (n.Op) ∧ f 113 = B (decide (n.Op = 13)) ∧ H16 = H) ?_ ?_
 ·refine lq rfl (q_eql rfl y28 rfl) ?_
  refine la (v := B (decide (n.Op = 13))) rfl rfl rfl ?_
  exact ⟨y5, y9, y10, y12, y28, rfl, rfl⟩
 clear y10 y105 y12 y28 y5 y9
 rintro f133 _ ⟨y5, y9, y10, y12, y28, y113, rfl⟩
 refine wpF_condP y113 (fun o13 => ?t218) (fun o13 => ?e218)
 case t218 =>
  refine sc (fun f H => (In64 (nth K 0).VNum) ∧ (In64 (nth K 0).VDen) ∧ (In64 (nth K 1).VNum) ∧ (In64 (nth K 1).VDen) ∧ f 12 = PT g13 0 ∧ f 17 = B (lessB ((nth K 0).fr) ((nth K 1).fr)) ∧ St H0 NoB (SZ S H0) [bE g13 #[I (0), I (0), nS, I (0)] 69, bE g10 #[vK] 80, bE g7 #[I (n.Op), vk, I (n.N), I (n.D), SB (n.Name)] 37, bE g4 #[vM] 47, bE g1 #[vD, vN, vH] 26, rdE vD a.Decls, rdE vN a.Nodes, rdE vH a.Hold, rdE vM w.Means, rdE vk n.Kids, rdE vK K] H) ?_ ?_
  ·refine wpF_drawn [none, none, none, none, none, none, none, none, none, none, none, none, none, none, some 0] [[], [], [], [], [], [], [], [], [], [], [], [], [], [], []] (fun l b => match l with | 0 => True | _ => False) (by kernel_rfl) (by kernel_rfl) ?_
   refine rq 0 (by kernel_rfl) rfl rfl (q_loadBlk rfl y10 Try.isAgg80 (hS16.blk 1 rfl) rfl (labU_not [] rfl (fe))) ?_
   refine rq 1 (by kernel_rfl) rfl rfl (q_indexRd (k := 0) rfl Try.underlying80 el_Val_69_MeanC4 rfl rfl (hS16.rdl 10 rfl) (by omega) (by omega)) ?_
   refine rq 2 (by kernel_rfl) rfl rfl (q_fieldE (k := 0) rfl Try.underlying69 rfl Try.sizeOf66 rfl rfl (hS16.rdl 10 rfl) (by omega)) ?_
   obtain ⟨_, hcu135o3, hFu135o3⟩ := RdL.cellsF (Rd.list.1 (hS16.rdS 10 rfl)) 0 (by omega)
   obtain ⟨u135o3n2, rfl, hu135o30, hu135o31, hu135o32, hu135o33⟩ := hcu135o3
   refine rq 3 (by kernel_rfl) rfl rfl (q_loadF rfl rfl (hFu135o3 0 2 [I ((nth K 0).VNum), I ((nth K 0).VDen)] Try.prog 66 _ rfl rfl Try.isAgg66 Try.sizeOf66 (labU_sub [] rfl (fe)))) ?_
   refine rq 4 (by kernel_rfl) rfl rfl (q_loadBlk rfl y10 Try.isAgg80 (hS16.blk 1 rfl) rfl (labU_not [] rfl (fe))) ?_
   refine rq 5 (by kernel_rfl) rfl rfl (q_indexRd (k := 1) rfl Try.underlying80 el_Val_69_MeanC4 rfl rfl (hS16.rdl 10 rfl) (by omega) (by omega)) ?_
   refine rq 6 (by kernel_rfl) rfl rfl (q_fieldE (k := 1) rfl Try.underlying69 rfl Try.sizeOf66 rfl rfl (hS16.rdl 10 rfl) (by omega)) ?_
   obtain ⟨_, hcu135o7, hFu135o7⟩ := RdL.cellsF (Rd.list.1 (hS16.rdS 10 rfl)) 1 (by omega)
   obtain ⟨u135o7n2, rfl, hu135o70, hu135o71, hu135o72, hu135o73⟩ := hcu135o7
   refine rq 7 (by kernel_rfl) rfl rfl (q_loadF rfl rfl (hFu135o7 0 2 [I ((nth K 1).VNum), I ((nth K 1).VDen)] Try.prog 66 _ rfl rfl Try.isAgg66 Try.sizeOf66 (labU_sub [] rfl (fe)))) ?_
   refine wpR_n [8, 12] (by kernel_rfl) ?_
   refine fa ?_ (fa ?_ fe)
   ·refine exE rfl rfl ?_
    refine e_call rfl Try.call73 (arr2 (v0 := Vg #[I ((nth K 0).VNum), I ((nth K 0).VDen)]) (v1 := Vg #[I ((nth K 1).VNum), I ((nth K 1).VDen)]) rfl rfl) (Less_F ((nth K 0).fr) ((nth K 1).fr) (by first | assumption | (constructor <;> (try dsimp only) <;> omega)) (by first | assumption | (constructor <;> (try dsimp only) <;> omega)) (by first | assumption | (constructor <;> (try dsimp only) <;> omega)) (by first | assumption | (constructor <;> (try dsimp only) <;> omega))) ?_
    rintro _ H135o8 ⟨hxx, z136, z137, rfl⟩
    have hS135o8 := hS16.ext hxx
    refine ⟨Ext.mono hxx (fun _ h => h.elim), ?_⟩
    refine rq 9 (by kernel_rfl) rfl rfl (q_move (v := Value.tuple #[B (lessB ((nth K 0).fr) ((nth K 1).fr)), Vg #[I (z136), I (z137)]]) rfl rfl) ?_
    refine rq 10 (by kernel_rfl) rfl rfl (q_extract (vs := #[B (lessB ((nth K 0).fr) ((nth K 1).fr)), Vg #[I (z136), I (z137)]]) (v := B (lessB ((nth K 0).fr) ((nth K 1).fr))) rfl rfl rfl) ?_
    refine rq 11 (by kernel_rfl) rfl rfl (q_extract (vs := #[B (lessB ((nth K 0).fr) ((nth K 1).fr)), Vg #[I (z136), I (z137)]]) (v := Vg #[I (z136), I (z137)]) rfl rfl rfl) ?_
    refine wpR_n [12] (by kernel_rfl) ?_
    refine fa ?_ fe
    refine exE rfl rfl ?_
    refine e_alloc rfl Try.zeroValue28 hS135o8 (fun g135o12 H135o12 hS135o12 hxx => ?_)
    refine ⟨Ext.mono hxx (fun _ h => h.elim), ?_⟩
    refine rq 13 (by kernel_rfl) rfl rfl (q_assign (v := B (lessB ((nth K 0).fr) ((nth K 1).fr))) rfl rfl) ?_
    refine wpR_n [14] (by kernel_rfl) ?_
    refine fa ?_ fe
    refine exE rfl rfl ?_
    refine e_storeBlkA (cs' := #[I (z136), I (z137)]) rfl rfl rfl Try.sizeOf28 rfl rfl (fa rfl (fa rfl fe)) hS135o12 (fun H135o14 hS135o14 hxx => ?_)
    refine ⟨Ext.mono hxx (labS_of 0 rfl (fun _ _ => trivial)), ?_⟩
    refine wpR_end (by kernel_rfl) ?_
    exact ⟨hu135o30, hu135o31, hu135o70, hu135o71, y12, rfl, (hS135o14.drop (sn (sk (sk (sk (sk (sk (sk (sk (sk (sk (sk (sk (List.Sublist.slnil))))))))))))))⟩
   ·refine exE rfl rfl ?_
    refine e_alloc rfl Try.zeroValue28 hS16 (fun g135o12 H135o12 hS135o12 hxx => ?_)
    refine ⟨Ext.mono hxx (fun _ h => h.elim), ?_⟩
    refine wpR_n [8] (by kernel_rfl) ?_
    refine fa ?_ fe
    refine exE rfl rfl ?_
    refine e_call rfl Try.call73 (arr2 (v0 := Vg #[I ((nth K 0).VNum), I ((nth K 0).VDen)]) (v1 := Vg #[I ((nth K 1).VNum), I ((nth K 1).VDen)]) rfl rfl) (Less_F ((nth K 0).fr) ((nth K 1).fr) (by first | assumption | (constructor <;> (try dsimp only) <;> omega)) (by first | assumption | (constructor <;> (try dsimp only) <;> omega)) (by first | assumption | (constructor <;> (try dsimp only) <;> omega)) (by first | assumption | (constructor <;> (try dsimp only) <;> omega))) ?_
    rintro _ H135o8 ⟨hxx, z138, z139, rfl⟩
    have hS135o8 := hS135o12.ext hxx
    refine ⟨Ext.mono hxx (fun _ h => h.elim), ?_⟩
    refine rq 9 (by kernel_rfl) rfl rfl (q_move (v := Value.tuple #[B (lessB ((nth K 0).fr) ((nth K 1).fr)), Vg #[I (z138), I (z139)]]) rfl rfl) ?_
    refine rq 10 (by kernel_rfl) rfl rfl (q_extract (vs := #[B (lessB ((nth K 0).fr) ((nth K 1).fr)), Vg #[I (z138), I (z139)]]) (v := B (lessB ((nth K 0).fr) ((nth K 1).fr))) rfl rfl rfl) ?_
    refine rq 11 (by kernel_rfl) rfl rfl (q_extract (vs := #[B (lessB ((nth K 0).fr) ((nth K 1).fr)), Vg #[I (z138), I (z139)]]) (v := Vg #[I (z138), I (z139)]) rfl rfl rfl) ?_
    refine rq 13 (by kernel_rfl) rfl rfl (q_assign (v := B (lessB ((nth K 0).fr) ((nth K 1).fr))) rfl rfl) ?_
    refine wpR_n [14] (by kernel_rfl) ?_
    refine fa ?_ fe
    refine exE rfl rfl ?_
    refine e_storeBlkA (cs' := #[I (z138), I (z139)]) rfl rfl rfl Try.sizeOf28 rfl rfl (fa rfl (fa rfl fe)) hS135o8 (fun H135o14 hS135o14 hxx => ?_)
    refine ⟨Ext.mono hxx (labS_of 0 rfl (fun _ _ => trivial)), ?_⟩
    refine wpR_end (by kernel_rfl) ?_
    exact ⟨hu135o30, hu135o31, hu135o70, hu135o71, y12, rfl, (hS135o14.drop (sn (sk (sk (sk (sk (sk (sk (sk (sk (sk (sk (sk (List.Sublist.slnil))))))))))))))⟩
  clear y10 y113 y12 y28 y5 y9
  rintro f140 H140 ⟨hu135o30, hu135o31, hu135o70, hu135o71, y12, y17, hS140⟩
  refine fcr (fun f H => f 12 = PT g13 0 ∧ f 13 = B (true) ∧ St H0 NoB (SZ S H0) [bE g13 #[I (bitP ((lessB ((nth K 0).fr) ((nth K 1).fr)) = true)), I (1), nS, I (0)] 69, bE g10 #[vK] 80, bE g7 #[I (n.Op), vk, I (n.N), I (n.D), SB (n.Name)] 37, bE g4 #[vM] 47, bE g1 #[vD, vN, vH] 26, rdE vD a.Decls, rdE vN a.Nodes, rdE vH a.Hold, rdE vM w.Means, rdE vk n.Kids, rdE vK K] H) ?_ ?_
  ·refine lm (v := B (lessB ((nth K 0).fr) ((nth K 1).fr))) rfl rfl y17 ?_
   refine lo rfl ?_
   refine e_call rfl Try.call69 (arr1 (v0 := B (lessB ((nth K 0).fr) ((nth K 1).fr))) rfl) (truth_MB (lessB ((nth K 0).fr) ((nth K 1).fr))) ?_
   rintro _ H141 ⟨hxx, rfl⟩
   have hS142 := hS140.ext hxx
   refine lo rfl ?_
   refine e_storeBlkA (cs' := #[I (bitP ((lessB ((nth K 0).fr) ((nth K 1).fr)) = true)), I (1), nS, I (0)]) rfl y12 rfl Try.sizeOf69 rfl rfl (fa rfl (fa rfl (fa rfl (fa rfl fe)))) hS142 (fun H144 hS145 hxx => ?_)
   refine la (v := B (true)) rfl rfl rfl ?_
   exact ⟨y12, rfl, hS145⟩
  clear y12 y17
  rintro f146 H146 ⟨y12, y13, hS146⟩
  refine wpF_ret ?_
  refine ⟨_, resC y12 (loadV_blkA Try.isAgg69 Try.sizeOf69 rfl (hS146.blk 0 rfl)) (resT y13 resN), hS146.frame, ?_⟩
  show ∃ w_, (Value.tuple #[Vg #[I (bitP ((lessB ((nth K 0).fr) ((nth K 1).fr)) = true)), I (1), nS, I (0)], B (true)]) = Value.tuple #[Vg #[I (valueV a w n K b).1.VNum, I (valueV a w n K b).1.VDen, w_, I (valueV a w n K b).1.Rest], B (valueV a w n K b).2] ∧ Rd (SZ S H0) H146 w_ (valueV a w n K b).1.Cells ∧ In64 (valueV a w n K b).1.VNum ∧ In64 (valueV a w n K b).1.VDen ∧ In64 (valueV a w n K b).1.Rest
  have hq_ := vv_13 (a := a) (w := w) (K := K) (b := b) o13
  rw [hq_]
  exact ⟨_, rfl, rdNil, (by first | assumption | exact bitP_in | exact (by constructor <;> decide : In64 0) | exact (by constructor <;> decide : In64 1)), (by first | assumption | exact bitP_in | exact (by constructor <;> decide : In64 0) | exact (by constructor <;> decide : In64 1)), (by first | assumption | exact bitP_in | exact (by constructor <;> decide : In64 0) | exact (by constructor <;> decide : In64 1))⟩
 refine fcr (fun f H => f 5 = I (b) ∧ f 9 = PT g7 0 ∧ f 10 = PT g10 0 ∧ f 12 = PT g13 0 ∧ f 28 = I (n.Op) ∧ f 129 = B (decide (n.Op = 14)) ∧ H16 = H) ?_ ?_
 ·refine lq rfl (q_eql rfl y28 rfl) ?_
  refine la (v := B (decide (n.Op = 14))) rfl rfl rfl ?_
  exact ⟨y5, y9, y10, y12, y28, rfl, rfl⟩
 clear y10 y113 y12 y28 y5 y9
 rintro f147 _ ⟨y5, y9, y10, y12, y28, y129, rfl⟩
 refine wpF_condP y129 (fun o14 => ?t217) (fun o14 => ?e217)
 case t217 =>
  refine sc (fun f H => (In64 (nth K 1).VNum) ∧ (In64 (nth K 1).VDen) ∧ (In64 (nth K 0).VNum) ∧ (In64 (nth K 0).VDen) ∧ f 12 = PT g13 0 ∧ f 19 = B (lessB ((nth K 1).fr) ((nth K 0).fr)) ∧ St H0 NoB (SZ S H0) [bE g13 #[I (0), I (0), nS, I (0)] 69, bE g10 #[vK] 80, bE g7 #[I (n.Op), vk, I (n.N), I (n.D), SB (n.Name)] 37, bE g4 #[vM] 47, bE g1 #[vD, vN, vH] 26, rdE vD a.Decls, rdE vN a.Nodes, rdE vH a.Hold, rdE vM w.Means, rdE vk n.Kids, rdE vK K] H) ?_ ?_
  ·refine wpF_drawn [none, none, none, none, none, none, none, none, none, none, none, none, none, none, some 0] [[], [], [], [], [], [], [], [], [], [], [], [], [], [], []] (fun l b => match l with | 0 => True | _ => False) (by kernel_rfl) (by kernel_rfl) ?_
   refine rq 0 (by kernel_rfl) rfl rfl (q_loadBlk rfl y10 Try.isAgg80 (hS16.blk 1 rfl) rfl (labU_not [] rfl (fe))) ?_
   refine rq 1 (by kernel_rfl) rfl rfl (q_indexRd (k := 1) rfl Try.underlying80 el_Val_69_MeanC4 rfl rfl (hS16.rdl 10 rfl) (by omega) (by omega)) ?_
   refine rq 2 (by kernel_rfl) rfl rfl (q_fieldE (k := 1) rfl Try.underlying69 rfl Try.sizeOf66 rfl rfl (hS16.rdl 10 rfl) (by omega)) ?_
   obtain ⟨_, hcu149o3, hFu149o3⟩ := RdL.cellsF (Rd.list.1 (hS16.rdS 10 rfl)) 1 (by omega)
   obtain ⟨u149o3n2, rfl, hu149o30, hu149o31, hu149o32, hu149o33⟩ := hcu149o3
   refine rq 3 (by kernel_rfl) rfl rfl (q_loadF rfl rfl (hFu149o3 0 2 [I ((nth K 1).VNum), I ((nth K 1).VDen)] Try.prog 66 _ rfl rfl Try.isAgg66 Try.sizeOf66 (labU_sub [] rfl (fe)))) ?_
   refine rq 4 (by kernel_rfl) rfl rfl (q_loadBlk rfl y10 Try.isAgg80 (hS16.blk 1 rfl) rfl (labU_not [] rfl (fe))) ?_
   refine rq 5 (by kernel_rfl) rfl rfl (q_indexRd (k := 0) rfl Try.underlying80 el_Val_69_MeanC4 rfl rfl (hS16.rdl 10 rfl) (by omega) (by omega)) ?_
   refine rq 6 (by kernel_rfl) rfl rfl (q_fieldE (k := 0) rfl Try.underlying69 rfl Try.sizeOf66 rfl rfl (hS16.rdl 10 rfl) (by omega)) ?_
   obtain ⟨_, hcu149o7, hFu149o7⟩ := RdL.cellsF (Rd.list.1 (hS16.rdS 10 rfl)) 0 (by omega)
   obtain ⟨u149o7n2, rfl, hu149o70, hu149o71, hu149o72, hu149o73⟩ := hcu149o7
   refine rq 7 (by kernel_rfl) rfl rfl (q_loadF rfl rfl (hFu149o7 0 2 [I ((nth K 0).VNum), I ((nth K 0).VDen)] Try.prog 66 _ rfl rfl Try.isAgg66 Try.sizeOf66 (labU_sub [] rfl (fe)))) ?_
   refine wpR_n [8, 12] (by kernel_rfl) ?_
   refine fa ?_ (fa ?_ fe)
   ·refine exE rfl rfl ?_
    refine e_call rfl Try.call73 (arr2 (v0 := Vg #[I ((nth K 1).VNum), I ((nth K 1).VDen)]) (v1 := Vg #[I ((nth K 0).VNum), I ((nth K 0).VDen)]) rfl rfl) (Less_F ((nth K 1).fr) ((nth K 0).fr) (by first | assumption | (constructor <;> (try dsimp only) <;> omega)) (by first | assumption | (constructor <;> (try dsimp only) <;> omega)) (by first | assumption | (constructor <;> (try dsimp only) <;> omega)) (by first | assumption | (constructor <;> (try dsimp only) <;> omega))) ?_
    rintro _ H149o8 ⟨hxx, z150, z151, rfl⟩
    have hS149o8 := hS16.ext hxx
    refine ⟨Ext.mono hxx (fun _ h => h.elim), ?_⟩
    refine rq 9 (by kernel_rfl) rfl rfl (q_move (v := Value.tuple #[B (lessB ((nth K 1).fr) ((nth K 0).fr)), Vg #[I (z150), I (z151)]]) rfl rfl) ?_
    refine rq 10 (by kernel_rfl) rfl rfl (q_extract (vs := #[B (lessB ((nth K 1).fr) ((nth K 0).fr)), Vg #[I (z150), I (z151)]]) (v := B (lessB ((nth K 1).fr) ((nth K 0).fr))) rfl rfl rfl) ?_
    refine rq 11 (by kernel_rfl) rfl rfl (q_extract (vs := #[B (lessB ((nth K 1).fr) ((nth K 0).fr)), Vg #[I (z150), I (z151)]]) (v := Vg #[I (z150), I (z151)]) rfl rfl rfl) ?_
    refine wpR_n [12] (by kernel_rfl) ?_
    refine fa ?_ fe
    refine exE rfl rfl ?_
    refine e_alloc rfl Try.zeroValue28 hS149o8 (fun g149o12 H149o12 hS149o12 hxx => ?_)
    refine ⟨Ext.mono hxx (fun _ h => h.elim), ?_⟩
    refine rq 13 (by kernel_rfl) rfl rfl (q_assign (v := B (lessB ((nth K 1).fr) ((nth K 0).fr))) rfl rfl) ?_
    refine wpR_n [14] (by kernel_rfl) ?_
    refine fa ?_ fe
    refine exE rfl rfl ?_
    refine e_storeBlkA (cs' := #[I (z150), I (z151)]) rfl rfl rfl Try.sizeOf28 rfl rfl (fa rfl (fa rfl fe)) hS149o12 (fun H149o14 hS149o14 hxx => ?_)
    refine ⟨Ext.mono hxx (labS_of 0 rfl (fun _ _ => trivial)), ?_⟩
    refine wpR_end (by kernel_rfl) ?_
    exact ⟨hu149o30, hu149o31, hu149o70, hu149o71, y12, rfl, (hS149o14.drop (sn (sk (sk (sk (sk (sk (sk (sk (sk (sk (sk (sk (List.Sublist.slnil))))))))))))))⟩
   ·refine exE rfl rfl ?_
    refine e_alloc rfl Try.zeroValue28 hS16 (fun g149o12 H149o12 hS149o12 hxx => ?_)
    refine ⟨Ext.mono hxx (fun _ h => h.elim), ?_⟩
    refine wpR_n [8] (by kernel_rfl) ?_
    refine fa ?_ fe
    refine exE rfl rfl ?_
    refine e_call rfl Try.call73 (arr2 (v0 := Vg #[I ((nth K 1).VNum), I ((nth K 1).VDen)]) (v1 := Vg #[I ((nth K 0).VNum), I ((nth K 0).VDen)]) rfl rfl) (Less_F ((nth K 1).fr) ((nth K 0).fr) (by first | assumption | (constructor <;> (try dsimp only) <;> omega)) (by first | assumption | (constructor <;> (try dsimp only) <;> omega)) (by first | assumption | (constructor <;> (try dsimp only) <;> omega)) (by first | assumption | (constructor <;> (try dsimp only) <;> omega))) ?_
    rintro _ H149o8 ⟨hxx, z152, z153, rfl⟩
    have hS149o8 := hS149o12.ext hxx
    refine ⟨Ext.mono hxx (fun _ h => h.elim), ?_⟩
    refine rq 9 (by kernel_rfl) rfl rfl (q_move (v := Value.tuple #[B (lessB ((nth K 1).fr) ((nth K 0).fr)), Vg #[I (z152), I (z153)]]) rfl rfl) ?_
    refine rq 10 (by kernel_rfl) rfl rfl (q_extract (vs := #[B (lessB ((nth K 1).fr) ((nth K 0).fr)), Vg #[I (z152), I (z153)]]) (v := B (lessB ((nth K 1).fr) ((nth K 0).fr))) rfl rfl rfl) ?_
    refine rq 11 (by kernel_rfl) rfl rfl (q_extract (vs := #[B (lessB ((nth K 1).fr) ((nth K 0).fr)), Vg #[I (z152), I (z153)]]) (v := Vg #[I (z152), I (z153)]) rfl rfl rfl) ?_
    refine rq 13 (by kernel_rfl) rfl rfl (q_assign (v := B (lessB ((nth K 1).fr) ((nth K 0).fr))) rfl rfl) ?_
    refine wpR_n [14] (by kernel_rfl) ?_
    refine fa ?_ fe
    refine exE rfl rfl ?_
    refine e_storeBlkA (cs' := #[I (z152), I (z153)]) rfl rfl rfl Try.sizeOf28 rfl rfl (fa rfl (fa rfl fe)) hS149o8 (fun H149o14 hS149o14 hxx => ?_)
    refine ⟨Ext.mono hxx (labS_of 0 rfl (fun _ _ => trivial)), ?_⟩
    refine wpR_end (by kernel_rfl) ?_
    exact ⟨hu149o30, hu149o31, hu149o70, hu149o71, y12, rfl, (hS149o14.drop (sn (sk (sk (sk (sk (sk (sk (sk (sk (sk (sk (sk (List.Sublist.slnil))))))))))))))⟩
  clear y10 y12 y129 y28 y5 y9
  rintro f154 H154 ⟨hu149o30, hu149o31, hu149o70, hu149o71, y12, y19, hS154⟩
  refine fcr (fun f H => f 12 = PT g13 0 ∧ f 13 = B (true) ∧ St H0 NoB (SZ S H0) [bE g13 #[I (bitP ((!(lessB ((nth K 1).fr) ((nth K 0).fr))) = true)), I (1), nS, I (0)] 69, bE g10 #[vK] 80, bE g7 #[I (n.Op), vk, I (n.N), I (n.D), SB (n.Name)] 37, bE g4 #[vM] 47, bE g1 #[vD, vN, vH] 26, rdE vD a.Decls, rdE vN a.Nodes, rdE vH a.Hold, rdE vM w.Means, rdE vk n.Kids, rdE vK K] H) ?_ ?_
  ·refine lm (v := B (lessB ((nth K 1).fr) ((nth K 0).fr))) rfl rfl y19 ?_
   refine lq rfl (q_not rfl rfl) ?_
   refine lo rfl ?_
   refine e_call rfl Try.call69 (arr1 (v0 := B (!(lessB ((nth K 1).fr) ((nth K 0).fr)))) rfl) (truth_MB (!(lessB ((nth K 1).fr) ((nth K 0).fr)))) ?_
   rintro _ H155 ⟨hxx, rfl⟩
   have hS156 := hS154.ext hxx
   refine lo rfl ?_
   refine e_storeBlkA (cs' := #[I (bitP ((!(lessB ((nth K 1).fr) ((nth K 0).fr))) = true)), I (1), nS, I (0)]) rfl y12 rfl Try.sizeOf69 rfl rfl (fa rfl (fa rfl (fa rfl (fa rfl fe)))) hS156 (fun H158 hS159 hxx => ?_)
   refine la (v := B (true)) rfl rfl rfl ?_
   exact ⟨y12, rfl, hS159⟩
  clear y12 y19
  rintro f160 H160 ⟨y12, y13, hS160⟩
  refine wpF_ret ?_
  refine ⟨_, resC y12 (loadV_blkA Try.isAgg69 Try.sizeOf69 rfl (hS160.blk 0 rfl)) (resT y13 resN), hS160.frame, ?_⟩
  show ∃ w_, (Value.tuple #[Vg #[I (bitP ((!(lessB ((nth K 1).fr) ((nth K 0).fr))) = true)), I (1), nS, I (0)], B (true)]) = Value.tuple #[Vg #[I (valueV a w n K b).1.VNum, I (valueV a w n K b).1.VDen, w_, I (valueV a w n K b).1.Rest], B (valueV a w n K b).2] ∧ Rd (SZ S H0) H160 w_ (valueV a w n K b).1.Cells ∧ In64 (valueV a w n K b).1.VNum ∧ In64 (valueV a w n K b).1.VDen ∧ In64 (valueV a w n K b).1.Rest
  have hq_ := vv_14 (a := a) (w := w) (K := K) (b := b) o14
  rw [hq_]
  exact ⟨_, rfl, rdNil, (by first | assumption | exact bitP_in | exact (by constructor <;> decide : In64 0) | exact (by constructor <;> decide : In64 1)), (by first | assumption | exact bitP_in | exact (by constructor <;> decide : In64 0) | exact (by constructor <;> decide : In64 1)), (by first | assumption | exact bitP_in | exact (by constructor <;> decide : In64 0) | exact (by constructor <;> decide : In64 1))⟩
 refine fcr (fun f H => f 5 = I (b) ∧ f 9 = PT g7 0 ∧ f 10 = PT g10 0 ∧ f 12 = PT g13 0 ∧ f 28 = I (n.Op) ∧ f 146 = B (decide (n.Op = 24)) ∧ H16 = H) ?_ ?_
 ·refine lq rfl (q_eql rfl y28 rfl) ?_
  refine la (v := B (decide (n.Op = 24))) rfl rfl rfl ?_
  exact ⟨y5, y9, y10, y12, y28, rfl, rfl⟩
 clear y10 y12 y129 y28 y5 y9
 rintro f161 _ ⟨y5, y9, y10, y12, y28, y146, rfl⟩
 refine wpF_condP y146 (fun o24 => ?t216) (fun o24 => ?e216)
 case t216 =>
  refine sc (fun f H => (In64 (nth K 0).VNum) ∧ (In64 (nth K 0).VDen) ∧ (In64 (nth K 0).Rest) ∧ (In64 (nth K 1).VNum) ∧ (In64 (gotV (nth K 0) ((nth K 1).VNum))) ∧ f 12 = PT g13 0 ∧ f 13 = B (true) ∧ St H0 NoB (SZ S H0) [bE g13 #[I ((gotV (nth K 0) ((nth K 1).VNum))), I (1), nS, I (0)] 69, bE g10 #[vK] 80, bE g7 #[I (n.Op), vk, I (n.N), I (n.D), SB (n.Name)] 37, bE g4 #[vM] 47, bE g1 #[vD, vN, vH] 26, rdE vD a.Decls, rdE vN a.Nodes, rdE vH a.Hold, rdE vM w.Means, rdE vk n.Kids, rdE vK K] H) ?_ ?_
  ·refine wpF_drawn [none, none, none, none, none, none, none, none, none, none, some 0, none] [[], [], [], [], [], [], [], [], [], [], [], []] (fun l b => match l with | 0 => True | _ => False) (by kernel_rfl) (by kernel_rfl) ?_
   refine rq 0 (by kernel_rfl) rfl rfl (q_loadBlk rfl y10 Try.isAgg80 (hS16.blk 1 rfl) rfl (labU_not [] rfl (fe))) ?_
   refine rq 1 (by kernel_rfl) rfl rfl (q_indexRd (k := 0) rfl Try.underlying80 el_Val_69_MeanC4 rfl rfl (hS16.rdl 10 rfl) (by omega) (by omega)) ?_
   obtain ⟨u163o2, huu163o2, hlu163o2⟩ := (Rd.list.1 (hS16.rdS 10 rfl)).elem 0 (by omega)
   obtain ⟨u163o2n2, rfl, hu163o20, hu163o21, hu163o22, hu163o23⟩ := Rd.val.1 huu163o2
   have hS163o2 := hS16.rd hu163o22
   refine rq 2 (by kernel_rfl) rfl rfl (q_loadE rfl rfl (hlu163o2 Try.prog 69 _ el_Val_69_MeanC4 (labU_sub [] rfl (fe)))) ?_
   refine rq 3 (by kernel_rfl) rfl rfl (q_loadBlk rfl y10 Try.isAgg80 (hS163o2.blk 2 rfl) rfl (labU_not [] rfl (fe))) ?_
   refine rq 4 (by kernel_rfl) rfl rfl (q_indexRd (k := 1) rfl Try.underlying80 el_Val_69_MeanC4 rfl rfl (hS163o2.rdl 11 rfl) (by omega) (by omega)) ?_
   refine rq 5 (by kernel_rfl) rfl rfl (q_fieldE (k := 1) rfl Try.underlying69 rfl Try.sizeOf66 rfl rfl (hS163o2.rdl 11 rfl) (by omega)) ?_
   refine rq 6 (by kernel_rfl) rfl rfl (q_fieldF (k := 1) rfl Try.underlying66 rfl Try.sizeOf3 rfl rfl (hS163o2.rdl 11 rfl) (by omega)) ?_
   obtain ⟨_, hcu163o7, hFu163o7⟩ := (Rd.list.1 (hS163o2.rdS 11 rfl)).cellF 1 (by omega)
   obtain ⟨u163o7n2, rfl, hu163o70, hu163o71, hu163o72, hu163o73⟩ := hcu163o7
   refine rq 7 (by kernel_rfl) rfl rfl (q_loadF rfl rfl (hFu163o7 0 _ Try.prog 3 _ rfl Try.isAgg3 (labU_sub [] rfl (fe)))) ?_
   refine wpR_n [8] (by kernel_rfl) ?_
   refine fa ?_ fe
   refine exE rfl rfl ?_
   refine e_call rfl Try.call75 (arr2 (v0 := Vg #[I ((nth K 0).VNum), I ((nth K 0).VDen), u163o2n2, I ((nth K 0).Rest)]) (v1 := I ((nth K 1).VNum)) rfl rfl) (get_M u163o2n2 (nth K 0) ((nth K 1).VNum) (by first | assumption | exact bitP_in | exact wrap_in64 | (constructor <;> (dsimp only; omega)) | (constructor <;> omega)) (by first | assumption | exact bitP_in | exact wrap_in64 | (constructor <;> (dsimp only; omega)) | (constructor <;> omega)) (hS163o2.rdN 0 rfl) (by first | assumption | exact bitP_in | exact wrap_in64 | (constructor <;> (dsimp only; omega)) | (constructor <;> omega))) ?_
   rintro _ H163o8 ⟨hxx, rfl, h6z164⟩
   have hS163o8 := hS163o2.ext hxx
   refine ⟨Ext.mono hxx (fun _ h => h.elim), ?_⟩
   refine wpR_n [9] (by kernel_rfl) ?_
   refine fa ?_ fe
   refine exE rfl rfl ?_
   refine e_call rfl Try.call74 (arr1 (v0 := I ((gotV (nth K 0) ((nth K 1).VNum)))) rfl) (num_M (gotV (nth K 0) ((nth K 1).VNum))) ?_
   rintro _ H163o9 ⟨hxx, rfl⟩
   have hS163o9 := hS163o8.ext hxx
   refine ⟨Ext.mono hxx (fun _ h => h.elim), ?_⟩
   refine wpR_n [10] (by kernel_rfl) ?_
   refine fa ?_ fe
   refine exE rfl rfl ?_
   refine e_storeBlkA (cs' := #[I ((gotV (nth K 0) ((nth K 1).VNum))), I (1), nS, I (0)]) rfl y12 rfl Try.sizeOf69 rfl rfl (fa rfl (fa rfl (fa rfl (fa rfl fe)))) (hS163o9.front 1 rfl) (fun H163o10 hS163o10 hxx => ?_)
   refine ⟨Ext.mono hxx (labS_of 0 rfl (fun _ _ => trivial)), ?_⟩
   refine rq 11 (by kernel_rfl) rfl rfl (q_assign (v := B (true)) rfl rfl) ?_
   refine wpR_end (by kernel_rfl) ?_
   exact ⟨hu163o20, hu163o21, hu163o23, hu163o70, h6z164, y12, rfl, (hS163o10.drop (sk (sn (sk (sk (sk (sk (sk (sk (sk (sk (sk (sk (List.Sublist.slnil))))))))))))))⟩
  clear y10 y12 y146 y28 y5 y9
  rintro f165 H165 ⟨hu163o20, hu163o21, hu163o23, hu163o70, h6z164, y12, y13, hS165⟩
  refine wpF_ret ?_
  refine ⟨_, resC y12 (loadV_blkA Try.isAgg69 Try.sizeOf69 rfl (hS165.blk 0 rfl)) (resT y13 resN), hS165.frame, ?_⟩
  show ∃ w_, (Value.tuple #[Vg #[I ((gotV (nth K 0) ((nth K 1).VNum))), I (1), nS, I (0)], B (true)]) = Value.tuple #[Vg #[I (valueV a w n K b).1.VNum, I (valueV a w n K b).1.VDen, w_, I (valueV a w n K b).1.Rest], B (valueV a w n K b).2] ∧ Rd (SZ S H0) H165 w_ (valueV a w n K b).1.Cells ∧ In64 (valueV a w n K b).1.VNum ∧ In64 (valueV a w n K b).1.VDen ∧ In64 (valueV a w n K b).1.Rest
  have hq_ := vv_24 (a := a) (w := w) (K := K) (b := b) o24
  rw [hq_]
  exact ⟨_, rfl, rdNil, (by first | assumption | exact bitP_in | exact (by constructor <;> decide : In64 0) | exact (by constructor <;> decide : In64 1)), (by first | assumption | exact bitP_in | exact (by constructor <;> decide : In64 0) | exact (by constructor <;> decide : In64 1)), (by first | assumption | exact bitP_in | exact (by constructor <;> decide : In64 0) | exact (by constructor <;> decide : In64 1))⟩
 refine fcr (fun f H => f 5 = I (b) ∧ f 9 = PT g7 0 ∧ f 10 = PT g10 0 ∧ f 12 = PT g13 0 ∧ f 158 = B (decide (n.Op = 25)) ∧ H16 = H) ?_ ?_
 ·refine lq rfl (q_eql rfl y28 rfl) ?_
  refine la (v := B (decide (n.Op = 25))) rfl rfl rfl ?_
  exact ⟨y5, y9, y10, y12, rfl, rfl⟩
 clear y10 y12 y146 y28 y5 y9
 rintro f166 _ ⟨y5, y9, y10, y12, y158, rfl⟩
 refine wpF_condP y158 (fun o25 => ?t215) (fun o25 => ?e215)
 case t215 =>
  refine sc (fun f H => ∃ (r168o13 : Value), (In64 (nth K 0).VNum) ∧ (In64 (nth K 0).VDen) ∧ (In64 (nth K 0).Rest) ∧ (In64 (nth K 1).VNum) ∧ (In64 (nth K 2).VNum) ∧ (In64 (putV (nth K 0) ((nth K 1).VNum) ((nth K 2).VNum)).VNum) ∧ (In64 (putV (nth K 0) ((nth K 1).VNum) ((nth K 2).VNum)).VDen) ∧ (In64 (putV (nth K 0) ((nth K 1).VNum) ((nth K 2).VNum)).Rest) ∧ f 12 = PT g13 0 ∧ f 13 = B (true) ∧ St H0 NoB (SZ S H0) [bE g13 #[I ((putV (nth K 0) ((nth K 1).VNum) ((nth K 2).VNum)).VNum), I ((putV (nth K 0) ((nth K 1).VNum) ((nth K 2).VNum)).VDen), r168o13, I ((putV (nth K 0) ((nth K 1).VNum) ((nth K 2).VNum)).Rest)] 69, rdE r168o13 ((putV (nth K 0) ((nth K 1).VNum) ((nth K 2).VNum)).Cells), bE g10 #[vK] 80, bE g7 #[I (n.Op), vk, I (n.N), I (n.D), SB (n.Name)] 37, bE g4 #[vM] 47, bE g1 #[vD, vN, vH] 26, rdE vD a.Decls, rdE vN a.Nodes, rdE vH a.Hold, rdE vM w.Means, rdE vk n.Kids, rdE vK K] H) ?_ ?_
  ·refine wpF_drawn [none, none, none, none, none, none, none, none, none, none, none, none, none, none, some 0, none] [[], [], [], [], [], [], [], [], [], [], [], [], [], [], [], []] (fun l b => match l with | 0 => True | _ => False) (by kernel_rfl) (by kernel_rfl) ?_
   refine rq 0 (by kernel_rfl) rfl rfl (q_loadBlk rfl y10 Try.isAgg80 (hS16.blk 1 rfl) rfl (labU_not [] rfl (fe))) ?_
   refine rq 1 (by kernel_rfl) rfl rfl (q_indexRd (k := 0) rfl Try.underlying80 el_Val_69_MeanC4 rfl rfl (hS16.rdl 10 rfl) (by omega) (by omega)) ?_
   obtain ⟨u168o2, huu168o2, hlu168o2⟩ := (Rd.list.1 (hS16.rdS 10 rfl)).elem 0 (by omega)
   obtain ⟨u168o2n2, rfl, hu168o20, hu168o21, hu168o22, hu168o23⟩ := Rd.val.1 huu168o2
   have hS168o2 := hS16.rd hu168o22
   refine rq 2 (by kernel_rfl) rfl rfl (q_loadE rfl rfl (hlu168o2 Try.prog 69 _ el_Val_69_MeanC4 (labU_sub [] rfl (fe)))) ?_
   refine rq 3 (by kernel_rfl) rfl rfl (q_loadBlk rfl y10 Try.isAgg80 (hS168o2.blk 2 rfl) rfl (labU_not [] rfl (fe))) ?_
   refine rq 4 (by kernel_rfl) rfl rfl (q_indexRd (k := 1) rfl Try.underlying80 el_Val_69_MeanC4 rfl rfl (hS168o2.rdl 11 rfl) (by omega) (by omega)) ?_
   refine rq 5 (by kernel_rfl) rfl rfl (q_fieldE (k := 1) rfl Try.underlying69 rfl Try.sizeOf66 rfl rfl (hS168o2.rdl 11 rfl) (by omega)) ?_
   refine rq 6 (by kernel_rfl) rfl rfl (q_fieldF (k := 1) rfl Try.underlying66 rfl Try.sizeOf3 rfl rfl (hS168o2.rdl 11 rfl) (by omega)) ?_
   obtain ⟨_, hcu168o7, hFu168o7⟩ := (Rd.list.1 (hS168o2.rdS 11 rfl)).cellF 1 (by omega)
   obtain ⟨u168o7n2, rfl, hu168o70, hu168o71, hu168o72, hu168o73⟩ := hcu168o7
   refine rq 7 (by kernel_rfl) rfl rfl (q_loadF rfl rfl (hFu168o7 0 _ Try.prog 3 _ rfl Try.isAgg3 (labU_sub [] rfl (fe)))) ?_
   refine rq 8 (by kernel_rfl) rfl rfl (q_loadBlk rfl y10 Try.isAgg80 (hS168o2.blk 2 rfl) rfl (labU_not [] rfl (fe))) ?_
   refine rq 9 (by kernel_rfl) rfl rfl (q_indexRd (k := 2) rfl Try.underlying80 el_Val_69_MeanC4 rfl rfl (hS168o2.rdl 11 rfl) (by omega) (by omega)) ?_
   refine rq 10 (by kernel_rfl) rfl rfl (q_fieldE (k := 2) rfl Try.underlying69 rfl Try.sizeOf66 rfl rfl (hS168o2.rdl 11 rfl) (by omega)) ?_
   refine rq 11 (by kernel_rfl) rfl rfl (q_fieldF (k := 2) rfl Try.underlying66 rfl Try.sizeOf3 rfl rfl (hS168o2.rdl 11 rfl) (by omega)) ?_
   obtain ⟨_, hcu168o12, hFu168o12⟩ := (Rd.list.1 (hS168o2.rdS 11 rfl)).cellF 2 (by omega)
   obtain ⟨u168o12n2, rfl, hu168o120, hu168o121, hu168o122, hu168o123⟩ := hcu168o12
   refine rq 12 (by kernel_rfl) rfl rfl (q_loadF rfl rfl (hFu168o12 0 _ Try.prog 3 _ rfl Try.isAgg3 (labU_sub [] rfl (fe)))) ?_
   refine wpR_n [13] (by kernel_rfl) ?_
   refine fa ?_ fe
   refine exE rfl rfl ?_
   refine e_call rfl Try.call76 (arr3 (v0 := Vg #[I ((nth K 0).VNum), I ((nth K 0).VDen), u168o2n2, I ((nth K 0).Rest)]) (v1 := I ((nth K 1).VNum)) (v2 := I ((nth K 2).VNum)) rfl rfl rfl) (put_V u168o2n2 (nth K 0) ((nth K 1).VNum) ((nth K 2).VNum) (by first | assumption | exact bitP_in | exact wrap_in64 | (constructor <;> (dsimp only; omega)) | (constructor <;> omega)) (by first | assumption | exact bitP_in | exact wrap_in64 | (constructor <;> (dsimp only; omega)) | (constructor <;> omega)) (hS168o2.rdS 0 rfl) (by first | assumption | exact bitP_in | exact wrap_in64 | (constructor <;> (dsimp only; omega)) | (constructor <;> omega)) (by first | assumption | exact bitP_in | exact wrap_in64 | (constructor <;> (dsimp only; omega)) | (constructor <;> omega)) (by first | assumption | exact bitP_in | exact wrap_in64 | (constructor <;> (dsimp only; omega)) | (constructor <;> omega)) hks) ?_
   rintro _ H168o13 ⟨hxx, r168o13, rfl, hrr168o13, h6r168o13a, h6r168o13b, h6r168o13c⟩
   have hS168o13 := hS168o2.res hxx hrr168o13
   refine ⟨Ext.mono hxx (fun _ h => h.elim), ?_⟩
   refine wpR_n [14] (by kernel_rfl) ?_
   refine fa ?_ fe
   refine exE rfl rfl ?_
   refine e_storeBlkA (cs' := #[I ((putV (nth K 0) ((nth K 1).VNum) ((nth K 2).VNum)).VNum), I ((putV (nth K 0) ((nth K 1).VNum) ((nth K 2).VNum)).VDen), r168o13, I ((putV (nth K 0) ((nth K 1).VNum) ((nth K 2).VNum)).Rest)]) rfl y12 rfl Try.sizeOf69 rfl rfl (fa rfl (fa rfl (fa ((oneCell_rdL (hS168o13.rdl 0 rfl))) (fa rfl fe)))) (hS168o13.front 2 rfl) (fun H168o14 hS168o14 hxx => ?_)
   refine ⟨Ext.mono hxx (labS_of 0 rfl (fun _ _ => trivial)), ?_⟩
   refine rq 15 (by kernel_rfl) rfl rfl (q_assign (v := B (true)) rfl rfl) ?_
   refine wpR_end (by kernel_rfl) ?_
   exact ⟨r168o13, hu168o20, hu168o21, hu168o23, hu168o70, hu168o120, h6r168o13a, h6r168o13b, h6r168o13c, y12, rfl, (hS168o14.drop (sk (sk (sn (sk (sk (sk (sk (sk (sk (sk (sk (sk (sk (List.Sublist.slnil)))))))))))))))⟩
  clear y10 y12 y158 y5 y9
  rintro f169 H169 ⟨r168o13, hu168o20, hu168o21, hu168o23, hu168o70, hu168o120, h6r168o13a, h6r168o13b, h6r168o13c, y12, y13, hS169⟩
  refine wpF_ret ?_
  refine ⟨_, resC y12 (loadV_blkA Try.isAgg69 Try.sizeOf69 rfl (hS169.blk 0 rfl)) (resT y13 resN), hS169.frame, ?_⟩
  show ∃ w_, (Value.tuple #[Vg #[I ((putV (nth K 0) ((nth K 1).VNum) ((nth K 2).VNum)).VNum), I ((putV (nth K 0) ((nth K 1).VNum) ((nth K 2).VNum)).VDen), r168o13, I ((putV (nth K 0) ((nth K 1).VNum) ((nth K 2).VNum)).Rest)], B (true)]) = Value.tuple #[Vg #[I (valueV a w n K b).1.VNum, I (valueV a w n K b).1.VDen, w_, I (valueV a w n K b).1.Rest], B (valueV a w n K b).2] ∧ Rd (SZ S H0) H169 w_ (valueV a w n K b).1.Cells ∧ In64 (valueV a w n K b).1.VNum ∧ In64 (valueV a w n K b).1.VDen ∧ In64 (valueV a w n K b).1.Rest
  have hq_ := vv_25 (a := a) (w := w) (K := K) (b := b) o25
  rw [hq_]
  exact ⟨_, rfl, (hS169.result (hS169.rdS 1 rfl)), (by first | assumption | exact bitP_in | exact (by constructor <;> decide : In64 0) | exact (by constructor <;> decide : In64 1)), (by first | assumption | exact bitP_in | exact (by constructor <;> decide : In64 0) | exact (by constructor <;> decide : In64 1)), (by first | assumption | exact bitP_in | exact (by constructor <;> decide : In64 0) | exact (by constructor <;> decide : In64 1))⟩
 refine wpF_skip ?_
 refine fcr (fun f H => f 5 = I (b) ∧ f 9 = PT g7 0 ∧ f 10 = PT g10 0 ∧ f 12 = PT g13 0 ∧ f 21 = nS ∧ H16 = H) ?_ ?_
 ·refine la (v := nS) rfl rfl rfl ?_
  exact ⟨y5, y9, y10, y12, rfl, rfl⟩
 clear y10 y12 y158 y5 y9
 rintro f170 _ ⟨y5, y9, y10, y12, y21, rfl⟩
 have hS171 : St H0 NoB (SZ S H0) [rowE 3 nS ([] : List Int), bE g13 #[I (0), I (0), nS, I (0)] 69, bE g10 #[vK] 80, bE g7 #[I (n.Op), vk, I (n.N), I (n.D), SB (n.Name)] 37, bE g4 #[vM] 47, bE g1 #[vD, vN, vH] 26, rdE vD a.Decls, rdE vN a.Nodes, rdE vH a.Hold, rdE vM w.Means, rdE vk n.Kids, rdE vK K] H16 := hS16.row0 3
 refine wpF_seq ?_
 refine fcr (fun f H => f 5 = I (b) ∧ f 9 = PT g7 0 ∧ f 12 = PT g13 0 ∧ f 21 = nS ∧ f 174 = vK ∧ f 175 = I ((K.length : Int)) ∧ f 176 = I (0) ∧ H16 = H) ?_ ?_
 ·refine lq rfl (q_loadBlk rfl y10 Try.isAgg80 (hS171.blk 2 rfl) rfl (fun h => h)) ?_
  refine lq rfl (q_lenRd rfl Try.underlying80 rfl (hS171.rdl 11 rfl)) ?_
  refine lm (v := I (0)) rfl rfl rfl ?_
  exact ⟨y5, y9, y12, y21, rfl, rfl, rfl, rfl⟩
 clear y10 y12 y21 y5 y9
 rintro f172 _ ⟨y5, y9, y12, y21, y174, y175, y176, rfl⟩
 refine wpF_block ?_
 refine wpF_loop (fun mz f H => ∃ (j : Nat), ∃ (vo : Value), mz = K.length - j ∧ (j ≤ K.length) ∧ f 5 = I (b) ∧ f 9 = PT g7 0 ∧ f 12 = PT g13 0 ∧ f 21 = vo ∧ f 174 = vK ∧ f 175 = I ((K.length : Int)) ∧ f 176 = I ((j : Int)) ∧ St H0 NoB (SZ S H0) [rowE 3 vo (nums (K.take j) : List Int), bE g13 #[I (0), I (0), nS, I (0)] 69, bE g10 #[vK] 80, bE g7 #[I (n.Op), vk, I (n.N), I (n.D), SB (n.Name)] 37, bE g4 #[vM] 47, bE g1 #[vD, vN, vH] 26, rdE vD a.Decls, rdE vN a.Nodes, rdE vH a.Hold, rdE vM w.Means, rdE vk n.Kids, rdE vK K] H) (K.length - 0) ?_ ?_
 ·exact ⟨0, nS, rfl, Nat.zero_le _, y5, y9, y12, y21, y174, y175, (Eq.trans y176 (congrArg I (by omega))), (show St H0 NoB (SZ S H0) [rowE 3 nS (nums (K.take 0) : List Int), bE g13 #[I (0), I (0), nS, I (0)] 69, bE g10 #[vK] 80, bE g7 #[I (n.Op), vk, I (n.N), I (n.D), SB (n.Name)] 37, bE g4 #[vM] 47, bE g1 #[vD, vN, vH] 26, rdE vD a.Decls, rdE vN a.Nodes, rdE vH a.Hold, rdE vM w.Means, rdE vk n.Kids, rdE vK K] H16 from hS171)⟩
 intro m173 f173 H173 hI173
 clear y12 y174 y175 y176 y21 y5 y9
 obtain ⟨j, vo, hm173, hj, y5, y9, y12, y21, y174, y175, y176, hS173⟩ := hI173
 refine fcr (fun f H => f 5 = I (b) ∧ f 9 = PT g7 0 ∧ f 12 = PT g13 0 ∧ f 21 = vo ∧ f 174 = vK ∧ f 175 = I ((K.length : Int)) ∧ f 176 = I ((j : Int)) ∧ f 177 = B (decide ((j : Int) < (K.length : Int))) ∧ H173 = H) ?_ ?_
 ·refine lq rfl (q_lss rfl y176 y175) ?_
  exact ⟨y5, y9, y12, y21, y174, y175, y176, rfl, rfl⟩
 clear y12 y174 y175 y176 y21 y5 y9
 rintro f174 _ ⟨y5, y9, y12, y21, y174, y175, y176, y177, rfl⟩
 refine wpF_seq ?_
 refine wpF_condP y177 (fun hltj => ?t214) (fun hltj => ?e214)
 case t214 =>
  refine wpF_skip ?_
  refine wpF_seq ?_
  refine wpF_block ?_
  refine fcr (fun f H => ∃ (u177n2 : Value), ∃ (g179 : Nat), (In64 (nth K j).VNum) ∧ (In64 (nth K j).VDen) ∧ (In64 (nth K j).Rest) ∧ f 5 = I (b) ∧ f 9 = PT g7 0 ∧ f 12 = PT g13 0 ∧ f 21 = vo ∧ f 23 = PT g179 0 ∧ f 174 = vK ∧ f 175 = I ((K.length : Int)) ∧ f 176 = I ((j : Int)) ∧ St H0 NoB (SZ S H0) [bE g179 #[I ((nth K j).VNum), I ((nth K j).VDen), u177n2, I ((nth K j).Rest)] 69, rdE u177n2 ((nth K j).Cells), rowE 3 vo (nums (K.take j) : List Int), bE g13 #[I (0), I (0), nS, I (0)] 69, bE g10 #[vK] 80, bE g7 #[I (n.Op), vk, I (n.N), I (n.D), SB (n.Name)] 37, bE g4 #[vM] 47, bE g1 #[vD, vN, vH] 26, rdE vD a.Decls, rdE vN a.Nodes, rdE vH a.Hold, rdE vM w.Means, rdE vk n.Kids, rdE vK K] H) ?_ ?_
  ·refine lq rfl (q_indexRd (k := j) rfl Try.underlying80 el_Val_69_MeanC4 y174 y176 (hS173.rdl 11 rfl) (by omega) (by omega)) ?_
   obtain ⟨u177, huu177, hlu177⟩ := (Rd.list.1 (hS173.rdS 11 rfl)).elem j (by omega)
   obtain ⟨u177n2, rfl, hu1770, hu1771, hu1772, hu1773⟩ := Rd.val.1 huu177
   have hS178 := hS173.rd hu1772
   refine lq rfl (q_loadE rfl rfl (hlu177 Try.prog 69 _ el_Val_69_MeanC4 (fun _ h => False.elim h))) ?_
   refine lo rfl ?_
   refine e_alloc rfl Try.zeroValue69 hS178 (fun g179 H180 hS181 hxx => ?_)
   refine lo rfl ?_
   refine e_storeBlkA (cs' := #[I ((nth K j).VNum), I ((nth K j).VDen), u177n2, I ((nth K j).Rest)]) rfl rfl rfl Try.sizeOf69 rfl rfl (fa rfl (fa rfl (fa ((oneCell_rdL (hS181.rdl 1 rfl))) (fa rfl fe)))) hS181 (fun H182 hS183 hxx => ?_)
   exact ⟨u177n2, g179, hu1770, hu1771, hu1773, y5, y9, y12, y21, rfl, y174, y175, y176, hS183⟩
  clear y12 y174 y175 y176 y177 y21 y5 y9
  rintro f184 H184 ⟨u177n2, g179, hu1770, hu1771, hu1773, y5, y9, y12, y21, y23, y174, y175, y176, hS184⟩
  refine wpF_cut (fun f H => ∃ (v190 : Value), f 5 = I (b) ∧ f 9 = PT g7 0 ∧ f 12 = PT g13 0 ∧ f 21 = v190 ∧ f 174 = vK ∧ f 175 = I ((K.length : Int)) ∧ f 176 = I ((j : Int)) ∧ St H0 NoB (SZ S H0) [rowE 3 v190 (nums (K.take (j + 1)) : List Int), bE g179 #[I ((nth K j).VNum), I ((nth K j).VDen), u177n2, I ((nth K j).Rest)] 69, rdE u177n2 ((nth K j).Cells), bE g13 #[I (0), I (0), nS, I (0)] 69, bE g10 #[vK] 80, bE g7 #[I (n.Op), vk, I (n.N), I (n.D), SB (n.Name)] 37, bE g4 #[vM] 47, bE g1 #[vD, vN, vH] 26, rdE vD a.Decls, rdE vN a.Nodes, rdE vH a.Hold, rdE vM w.Means, rdE vk n.Kids, rdE vK K] H) ?_ ?_
  ·refine wpF_region ?_
   refine lm (v := vo) rfl rfl y21 ?_
   refine lq rfl (q_fieldAddr rfl Try.underlying69 rfl Try.sizeOf66 y23) ?_
   refine lq rfl (q_fieldAddr rfl Try.underlying66 rfl Try.sizeOf3 rfl) ?_
   refine lq rfl (q_loadBlk rfl rfl Try.isAgg3 (hS184.blk 0 rfl) rfl (fun h => h)) ?_
   refine lo rfl ?_
   refine e_buildSlice (vs := [I ((nth K j).VNum)]) (xs := ([(nth K j).VNum] : List Int)) rfl Try.underlying24 Try.zeroValue3 rfl Try.sizeOf3 (par1 (v0 := I ((nth K j).VNum)) rfl) rfl hS184 (RdVs.cons (Rd.int.2 ⟨rfl, by first | assumption | (constructor <;> omega)⟩) (RdVs.nil)) (by decide) (by decide) (fun v185 H186 hS187 hxx hvv185 => ?_)
   have hS188 : St H0 NoB (SZ S H0) [rdE v185 ([(nth K j).VNum] : List Int), bE g179 #[I ((nth K j).VNum), I ((nth K j).VDen), u177n2, I ((nth K j).Rest)] 69, rdE u177n2 ((nth K j).Cells), rowE 3 vo (nums (K.take j) : List Int), bE g13 #[I (0), I (0), nS, I (0)] 69, bE g10 #[vK] 80, bE g7 #[I (n.Op), vk, I (n.N), I (n.D), SB (n.Name)] 37, bE g4 #[vM] 47, bE g1 #[vD, vN, vH] 26, rdE vD a.Decls, rdE vN a.Nodes, rdE vH a.Hold, rdE vM w.Means, rdE vk n.Kids, rdE vK K] H186 := St.fin hS187
   have hS189 := (hS188.front 3 rfl)
   refine lo rfl ?_
   refine e_append rfl Try.underlying24 em_Int_3_MeanC4 rfl rfl hS189 (hS189.rdS 1 rfl) (fun _ h => h) (by have hb : GoT.bytes Int = 8 := rfl; rw [hb]; simp only [List.length_append, nums_len, List.length_take, List.length_cons, List.length_nil]; omega) (by decide) (fun v190 H191 hS192 hxx => ?_)
   have hS193 : St H0 NoB (SZ S H0) [rowE 3 v190 (nums (K.take (j + 1)) : List Int), rdE v185 ([(nth K j).VNum] : List Int), bE g179 #[I ((nth K j).VNum), I ((nth K j).VDen), u177n2, I ((nth K j).Rest)] 69, rdE u177n2 ((nth K j).Cells), bE g13 #[I (0), I (0), nS, I (0)] 69, bE g10 #[vK] 80, bE g7 #[I (n.Op), vk, I (n.N), I (n.D), SB (n.Name)] 37, bE g4 #[vM] 47, bE g1 #[vD, vN, vH] 26, rdE vD a.Decls, rdE vN a.Nodes, rdE vH a.Hold, rdE vM w.Means, rdE vk n.Kids, rdE vK K] H191 := by rw [show (nums (K.take (j + 1))) = ((nums (K.take j)) ++ ([(nth K j).VNum])) from (nums_next (by omega)).symm]; exact hS192
   refine la (v := v190) rfl rfl rfl ?_
   exact ⟨v190, y5, y9, y12, rfl, y174, y175, y176, (hS193.drop (sk (sn (sk (sk (sk (sk (sk (sk (sk (sk (sk (sk (sk (sk (sk (List.Sublist.slnil)))))))))))))))))⟩
  clear y12 y174 y175 y176 y21 y23 y5 y9
  rintro f194 H194 ⟨v190, y5, y9, y12, y21, y174, y175, y176, hS194⟩
  refine wpF_cut (fun f H => f 5 = I (b) ∧ f 9 = PT g7 0 ∧ f 12 = PT g13 0 ∧ f 21 = v190 ∧ f 174 = vK ∧ f 175 = I ((K.length : Int)) ∧ f 176 = I ((j : Int) + 1) ∧ H194 = H) ?_ ?_
  ·refine wpF_region ?_
   refine lq rfl (q_add rfl y176 rfl (by constructor <;> omega)) ?_
   refine lm (v := I ((j : Int) + 1)) rfl rfl rfl ?_
   exact ⟨y5, y9, y12, y21, y174, y175, rfl, rfl⟩
  clear y12 y174 y175 y176 y21 y5 y9
  rintro f195 _ ⟨y5, y9, y12, y21, y174, y175, y176, rfl⟩
  refine ⟨_, ?_, j + 1, v190, rfl, (by omega), y5, y9, y12, y21, y174, y175, (Eq.trans y176 (congrArg I (by omega))), (hS194.drop (sk (sn (sn (sk (sk (sk (sk (sk (sk (sk (sk (sk (sk (sk (List.Sublist.slnil))))))))))))))))⟩
  omega
 have hS176 : St H0 NoB (SZ S H0) [rowE 3 vo (nums K : List Int), bE g13 #[I (0), I (0), nS, I (0)] 69, bE g10 #[vK] 80, bE g7 #[I (n.Op), vk, I (n.N), I (n.D), SB (n.Name)] 37, bE g4 #[vM] 47, bE g1 #[vD, vN, vH] 26, rdE vD a.Decls, rdE vN a.Nodes, rdE vH a.Hold, rdE vM w.Means, rdE vk n.Kids, rdE vK K] H173 := by have h__ := hS173; rw [List.take_of_length_le (show K.length ≤ j by omega)] at h__; exact h__
 refine wpF_exit ?_
 refine atX_here ?_
 refine fcr (fun f H => ∃ (z197 : Int), ∃ (z198 : Int), ∃ (g202 : Nat), (In64 (wordV n.Op b (nums K) n.N)) ∧ f 12 = PT g13 0 ∧ f 24 = I (wordV n.Op b (nums K) n.N) ∧ St H0 NoB (SZ S H0) [bE g202 #[I (z197), I (z198)] 28, bE g13 #[I (0), I (0), nS, I (0)] 69, bE g10 #[vK] 80, bE g7 #[I (n.Op), vk, I (n.N), I (n.D), SB (n.Name)] 37, bE g4 #[vM] 47, bE g1 #[vD, vN, vH] 26, rdE vD a.Decls, rdE vN a.Nodes, rdE vH a.Hold, rdE vM w.Means, rdE vk n.Kids, rdE vK K] H) ?_ ?_
 ·refine lq rfl (q_fieldAddr rfl Try.underlying37 rfl Try.sizeOf3 y9) ?_
  refine lq rfl (q_loadBlk rfl rfl Try.isAgg3 (hS176.blk 3 rfl) rfl (fun h => h)) ?_
  refine lm (v := I (b)) rfl rfl y5 ?_
  refine lm (v := vo) rfl rfl y21 ?_
  refine lq rfl (q_fieldAddr rfl Try.underlying37 rfl Try.sizeOf3 y9) ?_
  refine lq rfl (q_loadBlk rfl rfl Try.isAgg3 (hS176.blk 3 rfl) rfl (fun h => h)) ?_
  have hS196 : St H0 NoB (SZ S H0) [rdE vo (nums K), bE g13 #[I (0), I (0), nS, I (0)] 69, bE g10 #[vK] 80, bE g7 #[I (n.Op), vk, I (n.N), I (n.D), SB (n.Name)] 37, bE g4 #[vM] 47, bE g1 #[vD, vN, vH] 26, rdE vD a.Decls, rdE vN a.Nodes, rdE vH a.Hold, rdE vM w.Means, rdE vk n.Kids, rdE vK K] H173 := St.fin hS176
  refine lo rfl ?_
  refine e_call rfl Try.call77 (arr4 (v0 := I (n.Op)) (v1 := I (b)) (v2 := vo) (v3 := I (n.N)) rfl rfl rfl rfl) (Do_W vo n.Op b (nums K) n.N (hS196.rdN 0 rfl)) ?_
  rintro _ H199 ⟨hxx, z197, z198, rfl, h6z197⟩
  have hS200 := hS196.ext hxx
  refine lm (v := Value.tuple #[I (wordV n.Op b (nums K) n.N), Vg #[I (z197), I (z198)]]) rfl rfl rfl ?_
  refine lq rfl (q_extract (vs := #[I (wordV n.Op b (nums K) n.N), Vg #[I (z197), I (z198)]]) (v := I (wordV n.Op b (nums K) n.N)) rfl rfl rfl) ?_
  refine lq rfl (q_extract (vs := #[I (wordV n.Op b (nums K) n.N), Vg #[I (z197), I (z198)]]) (v := Vg #[I (z197), I (z198)]) rfl rfl rfl) ?_
  refine lo rfl ?_
  refine e_alloc rfl Try.zeroValue28 hS200 (fun g202 H203 hS204 hxx => ?_)
  refine la (v := I (wordV n.Op b (nums K) n.N)) rfl rfl rfl ?_
  refine lo rfl ?_
  refine e_storeBlkA (cs' := #[I (z197), I (z198)]) rfl rfl rfl Try.sizeOf28 rfl rfl (fa rfl (fa rfl fe)) hS204 (fun H205 hS206 hxx => ?_)
  exact ⟨z197, z198, g202, h6z197, y12, rfl, (hS206.drop (sk (sn (sk (sk (sk (sk (sk (sk (sk (sk (sk (sk (sk (List.Sublist.slnil)))))))))))))))⟩
 clear y12 y174 y175 y176 y177 y21 y5 y9
 rintro f207 H207 ⟨z197, z198, g202, h6z197, y12, y24, hS207⟩
 refine fcr (fun f H => f 12 = PT g13 0 ∧ f 13 = B (true) ∧ St H0 NoB (SZ S H0) [bE g13 #[I (wordV n.Op b (nums K) n.N), I (1), nS, I (0)] 69, bE g202 #[I (z197), I (z198)] 28, bE g10 #[vK] 80, bE g7 #[I (n.Op), vk, I (n.N), I (n.D), SB (n.Name)] 37, bE g4 #[vM] 47, bE g1 #[vD, vN, vH] 26, rdE vD a.Decls, rdE vN a.Nodes, rdE vH a.Hold, rdE vM w.Means, rdE vk n.Kids, rdE vK K] H) ?_ ?_
 ·refine lm (v := I (wordV n.Op b (nums K) n.N)) rfl rfl y24 ?_
  refine lo rfl ?_
  refine e_call rfl Try.call74 (arr1 (v0 := I (wordV n.Op b (nums K) n.N)) rfl) (num_M (wordV n.Op b (nums K) n.N)) ?_
  rintro _ H208 ⟨hxx, rfl⟩
  have hS209 := hS207.ext hxx
  refine lo rfl ?_
  refine e_storeBlkA (cs' := #[I (wordV n.Op b (nums K) n.N), I (1), nS, I (0)]) rfl y12 rfl Try.sizeOf69 rfl rfl (fa rfl (fa rfl (fa rfl (fa rfl fe)))) (hS209.front 1 rfl) (fun H211 hS212 hxx => ?_)
  refine la (v := B (true)) rfl rfl rfl ?_
  exact ⟨y12, rfl, hS212⟩
 clear y12 y24
 rintro f213 H213 ⟨y12, y13, hS213⟩
 refine wpF_ret ?_
 refine ⟨_, resC y12 (loadV_blkA Try.isAgg69 Try.sizeOf69 rfl (hS213.blk 0 rfl)) (resT y13 resN), hS213.frame, ?_⟩
 show ∃ w_, (Value.tuple #[Vg #[I (wordV n.Op b (nums K) n.N), I (1), nS, I (0)], B (true)]) = Value.tuple #[Vg #[I (valueV a w n K b).1.VNum, I (valueV a w n K b).1.VDen, w_, I (valueV a w n K b).1.Rest], B (valueV a w n K b).2] ∧ Rd (SZ S H0) H213 w_ (valueV a w n K b).1.Cells ∧ In64 (valueV a w n K b).1.VNum ∧ In64 (valueV a w n K b).1.VDen ∧ In64 (valueV a w n K b).1.Rest
 have hq_ := vv_w (a := a) (w := w) (K := K) (b := b) o1 o2 o3 o4 o5 o6 o7 o8 h85 o10 o11 o12 o13 o14 o24 o25
 rw [hq_]
 exact ⟨_, rfl, rdNil, (by first | assumption | exact bitP_in | exact (by constructor <;> decide : In64 0) | exact (by constructor <;> decide : In64 1)), (by first | assumption | exact bitP_in | exact (by constructor <;> decide : In64 0) | exact (by constructor <;> decide : In64 1)), (by first | assumption | exact bitP_in | exact (by constructor <;> decide : In64 0) | exact (by constructor <;> decide : In64 1))⟩
end Go.Um
