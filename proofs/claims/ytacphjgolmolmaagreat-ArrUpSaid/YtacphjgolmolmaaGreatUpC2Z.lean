import Derived.Test.YtacphjgolmolmaaGreatProg
import Derived.Test.YtacphjgolmolmaaGreatArrC3Z
import Derived.Test.YtacphjgolmolmaaGreatArrD1Z
import Derived.Test.YtacphjgolmolmaaGreatUpSort
import Derived.Test.YtacphjgolmolmaaGreatUmArrUpD
namespace Go.Um
open Go.Proofs
open GoT (sz ag rdc)
open KeyT (kv)
theorem el_Decl_43_UpC2 : ElT Tryz.prog Decl 43 := ⟨Tryz.isAgg43, Tryz.sizeOf43⟩
theorem el_Entry_65_UpC2 : ElT Tryz.prog Entry 65 := ⟨Tryz.isAgg65, Tryz.sizeOf65⟩
theorem el_Int_3_UpC2 : ElT Tryz.prog Int 3 := ⟨Tryz.isAgg3, Tryz.sizeOf3⟩
theorem el_Meaning_62_UpC2 : ElT Tryz.prog Meaning 62 := ⟨Tryz.isAgg62, Tryz.sizeOf62⟩
theorem em_Cell_67_UpC2 : ElemOk Tryz.prog Cell 67 := ⟨Tryz.t67, (.agg #[(.int .i64 0), (.int .i64 0)]), by kernel_rfl, by kernel_rfl, by kernel_rfl, by kernel_rfl, by kernel_rfl⟩
theorem em_Meaning_62_UpC2 : ElemOk Tryz.prog Meaning 62 := ⟨Tryz.t62, (.agg #[(.slice none 0 0), (.int .i64 0), (.int .i64 0), (.slice none 0 0), (.int .i64 0)]), by kernel_rfl, by kernel_rfl, by kernel_rfl, by kernel_rfl, by kernel_rfl⟩
theorem fl57_UpC2 (a b c d : Int) (w : World) : (Op.equalIn 10000 57 (.agg #[I a, I b]) (.agg #[I c, I d])).run Tryz.prog w = .ok (decide (a = c ∧ b = d)) w := eq2_run Tryz.underlying57 Tryz.underlying3 Tryz.underlying3 (by decide) (by decide) rfl rfl Tryz.isAgg3 Tryz.isAgg3 Tryz.stoodInHeld57 a b c d w
set_option maxHeartbeats 1000000 in
set_option maxRecDepth 100000 in
theorem Up_A {H0 : Heap} {S : Nat → Prop} (vD vN vH vM : Value) (a : Ask) (w : Wld) (rvD : Rd S H0 vD a.Decls) (rvN : Rd S H0 vN a.Nodes) (rvH : Rd S H0 vH a.Hold) (rvM : Rd S H0 vM w.Means) : CallsH Tryz.prog 6 #[Vg #[vD, vN, vH], Vg #[vM]] H0 (fun rv_ H' => Ext NoB H0 H' ∧ ∃ w_, rv_ = Value.tuple #[Vg #[w_], Vg #[I (upF a w).1, I (upF a w).2]] ∧ Rd (SZ S H0) H' w_ (upW a w).Means) := by
 have hsD : a.Decls.length * 48 ≤ 140737488355328 := (Rd.list.1 rvD).bound
 have hsN : a.Nodes.length * 64 ≤ 140737488355328 := (Rd.list.1 rvN).bound
 have hsM : w.Means.length * 72 ≤ 140737488355328 := (Rd.list.1 rvM).bound
 have hS0 : St H0 NoB (SZ S H0) [rdE vD a.Decls, rdE vN a.Nodes, rdE vH a.Hold, rdE vM w.Means] H0 := St.arg (St.arg (St.arg (St.arg (St.start (fun _ h => h.2)) (Bl0.nil) rvM (fun _ h => h.1)) (Bl0.cons (Bl0.nil)) rvH (fun _ h => h.1)) (Bl0.cons (Bl0.cons (Bl0.nil))) rvN (fun _ h => h.1)) (Bl0.cons (Bl0.cons (Bl0.cons (Bl0.nil)))) rvD (fun _ h => h.1)
 refine callsH_of_wpF (args := [Vg #[vD, vN, vH], Vg #[vM]]) (rs := [.cell 4 29, .cell 5 32]) Tryz.func6 rfl Tryz.ntmps6 Tryz.results6 (by kernel_rfl) (Nat.le_of_ble_eq_true rfl) ?_
 have y0 : argF [Vg #[vD, vN, vH], Vg #[vM]] 0 = Vg #[vD, vN, vH] := rfl
 have y1 : argF [Vg #[vD, vN, vH], Vg #[vM]] 1 = Vg #[vM] := rfl
 generalize argF [Vg #[vD, vN, vH], Vg #[vM]] = f0 at *
 refine wpF_seq ?_
 refine wpF_region ?_
 refine lo rfl ?_
 refine e_box (v := Vg #[vD, vN, vH]) rfl y0 hS0 (fun g1 H2 hS3 hxx => ?_)
 refine lo rfl ?_
 refine e_box (v := Vg #[vM]) rfl y1 hS3 (fun g4 H5 hS6 hxx => ?_)
 refine lo rfl ?_
 refine e_alloc rfl Tryz.zeroValue29 hS6 (fun g7 H8 hS9 hxx => ?_)
 refine lo rfl ?_
 refine e_alloc rfl Tryz.zeroValue32 hS9 (fun g10 H11 hS12 hxx => ?_)
 refine wpL_nil ?_
 refine wpF_seq ?_
 refine wpF_region ?_
 refine lq rfl (q_loadBlkA rfl rfl Tryz.isAgg26 Tryz.sizeOf26 rfl (hS12.blk 3 rfl) (fun h => h)) ?_
 refine lo rfl ?_
 refine e_call rfl Tryz.call5 (arr1 (v0 := Vg #[vD, vN, vH]) rfl) (Do_L vD vN vH a (hS12.rdS 4 rfl) (hS12.rdS 5 rfl) (hS12.rdS 6 rfl)) ?_
 rintro _ H16 ⟨hxx, r13, r14, r15, rfl, hrr13, hrr14, hrr15⟩
 have hS17 := ((((hS12.ext hxx).rd (hrr15.sub fun b hb => ⟨hb, SL.lt hS12 hb⟩)).rd (hrr14.sub fun b hb => ⟨(SL_rd hb), SL.lt hS12 (SL_rd hb)⟩)).rd (hrr13.sub fun b hb => ⟨(SL_rd (SL_rd hb)), SL.lt hS12 (SL_rd (SL_rd hb))⟩))
 refine lm (v := Value.tuple #[Vg #[r13, r14, r15], Vg #[I ((doF a).1), I ((doF a).2)]]) rfl rfl rfl ?_
 refine lq rfl (q_extract (vs := #[Vg #[r13, r14, r15], Vg #[I ((doF a).1), I ((doF a).2)]]) (v := Vg #[r13, r14, r15]) rfl rfl rfl) ?_
 refine lq rfl (q_extract (vs := #[Vg #[r13, r14, r15], Vg #[I ((doF a).1), I ((doF a).2)]]) (v := Vg #[I ((doF a).1), I ((doF a).2)]) rfl rfl rfl) ?_
 refine lo rfl ?_
 refine e_alloc rfl Tryz.zeroValue26 hS17 (fun g19 H20 hS21 hxx => ?_)
 refine lo rfl ?_
 refine e_alloc rfl Tryz.zeroValue32 hS21 (fun g22 H23 hS24 hxx => ?_)
 refine lo rfl ?_
 refine e_storeBlkA (cs' := #[r13, r14, r15]) rfl rfl rfl Tryz.sizeOf26 rfl rfl (fa ((oneCell_rdL (hS24.rdl 2 rfl))) (fa ((oneCell_rdL (hS24.rdl 3 rfl))) (fa ((oneCell_rdL (hS24.rdl 4 rfl))) fe))) (hS24.front 1 rfl) (fun H25 hS26 hxx => ?_)
 refine lo rfl ?_
 refine e_storeBlkA (cs' := #[I ((doF a).1), I ((doF a).2)]) rfl rfl rfl Tryz.sizeOf32 rfl rfl (fa rfl (fa rfl fe)) (hS26.front 1 rfl) (fun H27 hS28 hxx => ?_)
 refine wpL_nil ?_
 refine wpF_seq ?_
 refine wpF_seq ?_
 refine wpF_region ?_
 refine lq rfl (q_fieldAddr rfl Tryz.underlying32 rfl Tryz.sizeOf3 rfl) ?_
 refine lq rfl (q_loadBlk rfl rfl Tryz.isAgg3 (hS28.blk 0 rfl) rfl (fun h => h)) ?_
 refine lq rfl (q_neq rfl rfl rfl) ?_
 refine wpL_nil ?_
 refine wpF_condP rfl (fun h23 => ?t112) (fun h23 => ?e112)
 case t112 =>
  refine wpF_seq ?_
  refine wpF_drawn [none, none, some 0, some 1] [[], [0], [], []] (fun l b => match l with | 0 => b = g7 | 1 => True | _ => False) (by kernel_rfl) (by kernel_rfl) ?_
  refine rq 0 (by kernel_rfl) rfl rfl (q_build (v := Vg #[nS]) rfl par0 (fun w__ => by kernel_rfl)) ?_
  refine rq 1 (by kernel_rfl) rfl rfl (q_loadBlkA rfl rfl Tryz.isAgg32 Tryz.sizeOf32 rfl (hS28.blk 0 rfl) (labU_not [0] rfl (fa (fun hb => hS28.dis 0 6 (by decide) rfl rfl _ rfl hb) fe))) ?_
  refine wpR_n [2] (by kernel_rfl) ?_
  refine fa ?_ fe
  refine exE rfl rfl ?_
  refine e_storeBlkA (cs' := #[nS]) rfl rfl rfl Tryz.sizeOf29 rfl rfl (fa rfl fe) (hS28.front 6 rfl) (fun H30o2 hS30o2 hxx => ?_)
  refine ⟨Ext.mono hxx (labS_of 0 rfl (fun b hb => hb)), ?_⟩
  refine wpR_n [3] (by kernel_rfl) ?_
  refine fa ?_ fe
  refine exE rfl rfl ?_
  refine e_storeBlkA (cs' := #[I ((doF a).1), I ((doF a).2)]) rfl rfl rfl Tryz.sizeOf32 rfl rfl (fa rfl (fa rfl fe)) (hS30o2.front 6 rfl) (fun H30o3 hS30o3 hxx => ?_)
  refine ⟨Ext.mono hxx (labS_of 1 rfl (fun _ _ => trivial)), ?_⟩
  refine wpR_end (by kernel_rfl) ?_
  skip
  refine wpF_ret ?_
  refine ⟨_, resC rfl (loadV_blkA Tryz.isAgg29 Tryz.sizeOf29 rfl (hS30o3.blk 1 rfl)) (resC rfl (loadV_blkA Tryz.isAgg32 Tryz.sizeOf32 rfl (hS30o3.blk 0 rfl)) (resN)), hS30o3.frame, ?_⟩
  show ∃ w_, (Value.tuple #[Vg #[nS], Vg #[I ((doF a).1), I ((doF a).2)]]) = Value.tuple #[Vg #[w_], Vg #[I (upF a w).1, I (upF a w).2]] ∧ Rd (SZ S H0) H30o3 w_ (upW a w).Means
  have hq_ : upF a w = _ := upF_do h23
  exact ⟨_, by rw [hq_], by rw [upW_bad (by rw [hq_]; exact h23)]; exact rdNil⟩
 refine wpF_skip ?_
 refine wpF_seq ?_
 refine wpF_seq ?_
 refine wpF_region ?_
 refine lq rfl (q_loadBlkA rfl rfl Tryz.isAgg26 Tryz.sizeOf26 rfl (hS28.blk 1 rfl) (fun h => h)) ?_
 refine lq rfl (q_loadBlkA rfl rfl Tryz.isAgg29 Tryz.sizeOf29 rfl (hS28.blk 7 rfl) (fun h => h)) ?_
 refine lo rfl ?_
 refine e_call rfl Tryz.call7 (arr2 (v0 := Vg #[r13, r14, r15]) (v1 := Vg #[vM]) rfl rfl) (Check_M r13 r14 r15 vM (doA a) w (hS28.rdN 2 rfl) (hS28.rdN 3 rfl) (hS28.rdN 4 rfl) (hS28.rdN 12 rfl) ) ?_
 rintro _ H31 ⟨hxx, rfl⟩
 have hS32 := hS28.ext hxx
 refine lo rfl ?_
 refine e_alloc rfl Tryz.zeroValue32 hS32 (fun g34 H35 hS36 hxx => ?_)
 refine lo rfl ?_
 refine e_storeBlkA (cs' := #[I (((meanF (doA a) w)).1), I (((meanF (doA a) w)).2)]) rfl rfl rfl Tryz.sizeOf32 rfl rfl (fa rfl (fa rfl fe)) hS36 (fun H37 hS38 hxx => ?_)
 refine wpL_nil ?_
 refine wpF_seq ?_
 refine wpF_region ?_
 refine lq rfl (q_fieldAddr rfl Tryz.underlying32 rfl Tryz.sizeOf3 rfl) ?_
 refine lq rfl (q_loadBlk rfl rfl Tryz.isAgg3 (hS38.blk 0 rfl) rfl (fun h => h)) ?_
 refine lq rfl (q_neq rfl rfl rfl) ?_
 refine wpL_nil ?_
 refine wpF_condP rfl (fun h31 => ?t111) (fun h31 => ?e111)
 case t111 =>
  refine wpF_seq ?_
  refine wpF_drawn [none, none, some 0, some 1] [[], [0], [], []] (fun l b => match l with | 0 => b = g7 | 1 => True | _ => False) (by kernel_rfl) (by kernel_rfl) ?_
  refine rq 0 (by kernel_rfl) rfl rfl (q_build (v := Vg #[nS]) rfl par0 (fun w__ => by kernel_rfl)) ?_
  refine rq 1 (by kernel_rfl) rfl rfl (q_loadBlkA rfl rfl Tryz.isAgg32 Tryz.sizeOf32 rfl (hS38.blk 0 rfl) (labU_not [0] rfl (fa (fun hb => hS38.dis 0 7 (by decide) rfl rfl _ rfl hb) fe))) ?_
  refine wpR_n [2] (by kernel_rfl) ?_
  refine fa ?_ fe
  refine exE rfl rfl ?_
  refine e_storeBlkA (cs' := #[nS]) rfl rfl rfl Tryz.sizeOf29 rfl rfl (fa rfl fe) (hS38.front 7 rfl) (fun H40o2 hS40o2 hxx => ?_)
  refine ⟨Ext.mono hxx (labS_of 0 rfl (fun b hb => hb)), ?_⟩
  refine wpR_n [3] (by kernel_rfl) ?_
  refine fa ?_ fe
  refine exE rfl rfl ?_
  refine e_storeBlkA (cs' := #[I (((meanF (doA a) w)).1), I (((meanF (doA a) w)).2)]) rfl rfl rfl Tryz.sizeOf32 rfl rfl (fa rfl (fa rfl fe)) (hS40o2.front 7 rfl) (fun H40o3 hS40o3 hxx => ?_)
  refine ⟨Ext.mono hxx (labS_of 1 rfl (fun _ _ => trivial)), ?_⟩
  refine wpR_end (by kernel_rfl) ?_
  skip
  refine wpF_ret ?_
  refine ⟨_, resC rfl (loadV_blkA Tryz.isAgg29 Tryz.sizeOf29 rfl (hS40o3.blk 1 rfl)) (resC rfl (loadV_blkA Tryz.isAgg32 Tryz.sizeOf32 rfl (hS40o3.blk 0 rfl)) (resN)), hS40o3.frame, ?_⟩
  show ∃ w_, (Value.tuple #[Vg #[nS], Vg #[I (((meanF (doA a) w)).1), I (((meanF (doA a) w)).2)]]) = Value.tuple #[Vg #[w_], Vg #[I (upF a w).1, I (upF a w).2]] ∧ Rd (SZ S H0) H40o3 w_ (upW a w).Means
  have hq_ : upF a w = _ := upF_mean h23 h31
  exact ⟨_, by rw [hq_], by rw [upW_bad (by rw [hq_]; exact h31)]; exact rdNil⟩
 obtain ⟨hmm, hfew, h1⟩ := up_one (Decidable.of_not_not h23) (Decidable.of_not_not h31)
 refine wpF_skip ?_
 refine wpF_seq ?_
 refine wpF_region ?_
 refine lo rfl ?_
 refine e_alloc rfl Tryz.zeroValue29 hS38 (fun g41 H42 hS43 hxx => ?_)
 refine wpL_nil ?_
 have hS44 : St H0 NoB (SZ S H0) [rowE 62 nS ([] : List Meaning), bE g41 #[nS] 29, bE g34 #[I (((meanF (doA a) w)).1), I (((meanF (doA a) w)).2)] 32, bE g22 #[I ((doF a).1), I ((doF a).2)] 32, bE g19 #[r13, r14, r15] 26, rdE r13 ((doA a).Decls), rdE r14 ((doA a).Nodes), rdE r15 ((doA a).Hold), bE g10 #[I (0), I (0)] 32, bE g7 #[nS] 29, bE g4 #[vM] 29, bE g1 #[vD, vN, vH] 26, rdE vD a.Decls, rdE vN a.Nodes, rdE vH a.Hold, rdE vM w.Means] H42 := hS43.row0 62
 refine wpF_seq ?_
 refine wpF_seq ?_
 refine wpF_region ?_
 refine lq rfl (q_fieldAddr rfl Tryz.underlying26 rfl Tryz.sizeOf22 rfl) ?_
 refine lq rfl (q_loadBlk rfl rfl Tryz.isAgg22 (hS44.blk 11 rfl) rfl (fun h => h)) ?_
 refine lq rfl (q_lenRd rfl Tryz.underlying22 rfl (hS44.rdl 12 rfl)) ?_
 refine lm (v := I (0)) rfl rfl rfl ?_
 refine wpL_nil ?_
 refine wpF_block ?_
 refine wpF_loop (fun mz f H => ∃ (k : Nat), ∃ (vo : Value), mz = a.Decls.length - k ∧ (k ≤ a.Decls.length) ∧ f 3 = PT g4 0 ∧ f 4 = PT g7 0 ∧ f 5 = PT g10 0 ∧ f 9 = PT g41 0 ∧ f 35 = vD ∧ f 36 = I ((a.Decls.length : Int)) ∧ f 37 = I ((k : Int)) ∧ St H0 NoB (SZ S H0) [rowE 62 vo (upTo a w k : List Meaning), bE g41 #[vo] 29, bE g34 #[I (((meanF (doA a) w)).1), I (((meanF (doA a) w)).2)] 32, bE g22 #[I ((doF a).1), I ((doF a).2)] 32, bE g19 #[r13, r14, r15] 26, bE g10 #[I (0), I (0)] 32, bE g7 #[nS] 29, bE g4 #[vM] 29, bE g1 #[vD, vN, vH] 26, rdE vD a.Decls, rdE vN a.Nodes, rdE vH a.Hold, rdE vM w.Means] H) (a.Decls.length - 0) ?_ ?_
 ·exact ⟨0, nS, rfl, Nat.zero_le _, rfl, rfl, rfl, rfl, rfl, rfl, (Eq.trans rfl (congrArg I (by omega))), (show St H0 NoB (SZ S H0) [rowE 62 nS (upTo a w 0 : List Meaning), bE g41 #[nS] 29, bE g34 #[I (((meanF (doA a) w)).1), I (((meanF (doA a) w)).2)] 32, bE g22 #[I ((doF a).1), I ((doF a).2)] 32, bE g19 #[r13, r14, r15] 26, bE g10 #[I (0), I (0)] 32, bE g7 #[nS] 29, bE g4 #[vM] 29, bE g1 #[vD, vN, vH] 26, rdE vD a.Decls, rdE vN a.Nodes, rdE vH a.Hold, rdE vM w.Means] H42 from (hS44.drop (sk (sk (sk (sk (sk (sn (sn (sn (sk (sk (sk (sk (sk (sk (sk (sk (List.Sublist.slnil)))))))))))))))))))⟩
 intro m45 f45 H45 hI45
 obtain ⟨k, vo, hm45, hk, y3, y4, y5, y9, y35, y36, y37, hS45⟩ := hI45
 refine wpF_seq ?_
 refine wpF_region ?_
 refine lq rfl (q_lss rfl y37 y36) ?_
 refine wpL_nil ?_
 refine wpF_seq ?_
 refine wpF_condP rfl (fun hlt => ?t110) (fun hlt => ?e110)
 case e110 =>
  obtain rfl : k = a.Decls.length := by omega
  refine wpF_exit ?_
  refine atX_here ?_
  refine wpF_seq ?_
  refine wpF_region ?_
  refine lq rfl (q_loadBlkA rfl y9 Tryz.isAgg29 Tryz.sizeOf29 rfl (hS45.blk 1 rfl) (fun h => h)) ?_
  refine lq rfl (q_build (v := Vg #[I (0), I (0)]) rfl par0 (fun w__ => by kernel_rfl)) ?_
  refine lo rfl ?_
  refine e_storeBlkA (cs' := #[vo]) rfl y4 rfl Tryz.sizeOf29 rfl rfl (fa ((oneCell_rdL (hS45.rowl 0 rfl))) fe) (hS45.front 6 rfl) (fun H105 hS106 hxx => ?_)
  refine lo rfl ?_
  refine e_storeBlkA (cs' := #[I (0), I (0)]) rfl y5 rfl Tryz.sizeOf32 rfl rfl (fa rfl (fa rfl fe)) (hS106.front 6 rfl) (fun H107 hS108 hxx => ?_)
  refine wpL_nil ?_
  refine wpF_ret ?_
  refine ⟨_, resC y4 (loadV_blkA Tryz.isAgg29 Tryz.sizeOf29 rfl (hS108.blk 1 rfl)) (resC y5 (loadV_blkA Tryz.isAgg32 Tryz.sizeOf32 rfl (hS108.blk 0 rfl)) (resN)), hS108.frame, ?_⟩
  show ∃ w_, (Value.tuple #[Vg #[vo], Vg #[I (0), I (0)]]) = Value.tuple #[Vg #[w_], Vg #[I (upF a w).1, I (upF a w).2]] ∧ Rd (SZ S H0) H107 w_ (upW a w).Means
  have hS109 : St H0 NoB (SZ S H0) [rdE vo (upTo a w a.Decls.length), bE g10 #[I (0), I (0)] 32, bE g7 #[vo] 29, bE g41 #[vo] 29, bE g34 #[I (((meanF (doA a) w)).1), I (((meanF (doA a) w)).2)] 32, bE g22 #[I ((doF a).1), I ((doF a).2)] 32, bE g19 #[r13, r14, r15] 26, bE g4 #[vM] 29, bE g1 #[vD, vN, vH] 26, rdE vD a.Decls, rdE vN a.Nodes, rdE vH a.Hold, rdE vM w.Means] H107 := St.fin (hS108.front 2 rfl)
  have hq_ : upF a w = _ := upF_ok h23 h31
  exact ⟨_, by rw [hq_], by rw [upW_ok hq_]; exact (hS109.result (hS109.rdS 0 rfl))⟩
 refine wpF_skip ?_
 refine sc (fun f H => ∃ (vo2 : Value), f 3 = PT g4 0 ∧ f 4 = PT g7 0 ∧ f 5 = PT g10 0 ∧ f 9 = PT g41 0 ∧ f 35 = vD ∧ f 36 = I ((a.Decls.length : Int)) ∧ f 37 = I ((k : Int)) ∧ St H0 NoB (SZ S H0) [rowE 62 vo2 (upTo a w (k + 1) : List Meaning), bE g41 #[vo2] 29, bE g34 #[I (((meanF (doA a) w)).1), I (((meanF (doA a) w)).2)] 32, bE g22 #[I ((doF a).1), I ((doF a).2)] 32, bE g19 #[r13, r14, r15] 26, bE g10 #[I (0), I (0)] 32, bE g7 #[nS] 29, bE g4 #[vM] 29, bE g1 #[vD, vN, vH] 26, rdE vD a.Decls, rdE vN a.Nodes, rdE vH a.Hold, rdE vM w.Means] H) ?_ ?_
 ·refine wpF_block ?_
  refine wpF_seq ?_
  refine wpF_region ?_
  refine lm (v := I ((k : Int))) rfl rfl y37 ?_
  refine lq rfl (q_indexRd (k := k) rfl Tryz.underlying22 el_Decl_43_UpC2 y35 y37 (hS45.rdl 9 rfl) (by omega) (by omega)) ?_
  obtain ⟨u48, huu48, hlu48⟩ := (Rd.list.1 (hS45.rdS 9 rfl)).elem k (by omega)
  obtain ⟨u48n1, rfl, hu480, hu481, hu482⟩ := Rd.decl.1 huu48
  have hS49 := hS45.rd hu481
  refine lq rfl (q_loadE rfl rfl (hlu48 Tryz.prog 43 _ el_Decl_43_UpC2 (fun _ h => False.elim h))) ?_
  refine lo rfl ?_
  refine e_alloc rfl Tryz.zeroValue43 hS49 (fun g50 H51 hS52 hxx => ?_)
  refine la (v := I ((k : Int))) rfl rfl rfl ?_
  refine lo rfl ?_
  refine e_storeBlkA (cs' := #[SB ((nth a.Decls k).Name), u48n1, I ((nth a.Decls k).Srt)]) rfl rfl rfl Tryz.sizeOf43 rfl rfl (fa rfl (fa ((oneCell_rdL (hS52.rdl 1 rfl))) (fa rfl fe))) hS52 (fun H53 hS54 hxx => ?_)
  refine wpL_nil ?_
  refine wpF_seq ?_
  refine wpF_region ?_
  refine lq rfl (q_fieldAddr rfl Tryz.underlying29 rfl Tryz.sizeOf27 y3) ?_
  refine lq rfl (q_loadBlk rfl rfl Tryz.isAgg27 (hS54.blk 9 rfl) rfl (fun h => h)) ?_
  refine lm (v := I ((k : Int))) rfl rfl rfl ?_
  refine lq rfl (q_indexRd (k := k) rfl Tryz.underlying27 el_Meaning_62_UpC2 rfl rfl (hS54.rdl 14 rfl) (by omega) (by omega)) ?_
  obtain ⟨u55, huu55, hlu55⟩ := (Rd.list.1 (hS54.rdS 14 rfl)).elem k (by omega)
  obtain ⟨u55n0, u55n3, rfl, hu550, hu551, hu552, hu553, hu554⟩ := Rd.meaning.1 huu55
  have hS56 := hS54.rd hu550
  have hS57 : St H0 NoB (SZ S H0) [rdE u55n3 ((nth w.Means k).MCells), rdE u55n0 ((nth w.Means k).Rows), bE g50 #[SB ((nth a.Decls k).Name), u48n1, I ((nth a.Decls k).Srt)] 43, rdE u48n1 ((nth a.Decls k).Args), rowE 62 vo (upTo a w k : List Meaning), bE g41 #[vo] 29, bE g34 #[I (((meanF (doA a) w)).1), I (((meanF (doA a) w)).2)] 32, bE g22 #[I ((doF a).1), I ((doF a).2)] 32, bE g19 #[r13, r14, r15] 26, bE g10 #[I (0), I (0)] 32, bE g7 #[nS] 29, bE g4 #[vM] 29, bE g1 #[vD, vN, vH] 26, rdE vD a.Decls, rdE vN a.Nodes, rdE vH a.Hold, rdE vM w.Means] H53 := hS56.rd (hu553.sub fun _ hb => SL_rd hb)
  refine lq rfl (q_loadE rfl rfl (hlu55 Tryz.prog 62 _ el_Meaning_62_UpC2 (fun _ h => False.elim h))) ?_
  refine lo rfl ?_
  refine e_alloc rfl Tryz.zeroValue62 hS57 (fun g58 H59 hS60 hxx => ?_)
  refine lo rfl ?_
  refine e_storeBlkA (cs' := #[u55n0, I ((nth w.Means k).MNum), I ((nth w.Means k).MDen), u55n3, I ((nth w.Means k).MRest)]) rfl rfl rfl Tryz.sizeOf62 rfl rfl (fa ((oneCell_rdL (hS60.rdl 2 rfl))) (fa rfl (fa rfl (fa ((oneCell_rdL (hS60.rdl 1 rfl))) (fa rfl fe))))) hS60 (fun H61 hS62 hxx => ?_)
  refine wpL_nil ?_
  refine wpF_seq ?_
  refine wpF_seq ?_
  refine wpF_region ?_
  refine lq rfl (q_fieldAddr rfl Tryz.underlying43 rfl Tryz.sizeOf3 rfl) ?_
  refine lq rfl (q_loadBlk rfl rfl Tryz.isAgg3 (hS62.blk 3 rfl) rfl (fun h => h)) ?_
  refine lq rfl (q_neq rfl rfl rfl) ?_
  refine wpL_nil ?_
  refine wpF_condP rfl (fun h49 => ?t104) (fun h49 => ?e104)
  case t104 =>
   refine wpF_seq ?_
   refine wpF_drawn [none, none, none, none, none, some 0, none, some 1] [[], [], [], [], [], [], [], []] (fun l b => match l with | 0 => True | 1 => True | _ => False) (by kernel_rfl) (by kernel_rfl) ?_
   refine rq 0 (by kernel_rfl) rfl rfl (q_fieldAddr rfl Tryz.underlying29 rfl Tryz.sizeOf27 y9) ?_
   refine rq 1 (by kernel_rfl) rfl rfl (q_loadBlk rfl rfl Tryz.isAgg27 (hS62.blk 6 rfl) rfl (labU_not [] rfl (fe))) ?_
   refine rq 2 (by kernel_rfl) rfl rfl (q_loadBlkA rfl rfl Tryz.isAgg62 Tryz.sizeOf62 rfl (hS62.blk 0 rfl) (labU_not [] rfl (fe))) ?_
   refine wpR_n [3] (by kernel_rfl) ?_
   refine fa ?_ fe
   refine exE rfl rfl ?_
   refine e_call rfl Tryz.call16 (arr1 (v0 := Vg #[u55n0, I ((nth w.Means k).MNum), I ((nth w.Means k).MDen), u55n3, I ((nth w.Means k).MRest)]) rfl) (Copied_A u55n0 u55n3 (nth w.Means k) (hS62.rdS 2 rfl) (by first | assumption | exact bitP_in | exact wrap_in64 | (constructor <;> (dsimp only; omega)) | (constructor <;> omega)) (by first | assumption | exact bitP_in | exact wrap_in64 | (constructor <;> (dsimp only; omega)) | (constructor <;> omega)) (hS62.rdS 1 rfl) (by first | assumption | exact bitP_in | exact wrap_in64 | (constructor <;> (dsimp only; omega)) | (constructor <;> omega))) ?_
   rintro _ H64o3 ⟨hxx, r64o3, r64o3x2, rfl, hrr64o3, hrr64o3x2, h6r64o3a, h6r64o3b, h6r64o3c⟩
   have hS64o3 := (hS62.res2 hxx hrr64o3 hrr64o3x2)
   refine ⟨Ext.mono hxx (fun _ h => h.elim), ?_⟩
   refine wpR_n [4] (by kernel_rfl) ?_
   refine fa ?_ fe
   refine exE rfl rfl ?_
   refine e_buildSlice (vs := [Vg #[r64o3, I ((nth w.Means k).MNum), I ((nth w.Means k).MDen), r64o3x2, I ((nth w.Means k).MRest)]]) (xs := ([(nth w.Means k)] : List Meaning)) rfl Tryz.underlying27 Tryz.zeroValue62 rfl Tryz.sizeOf62 (par1 (v0 := Vg #[r64o3, I ((nth w.Means k).MNum), I ((nth w.Means k).MDen), r64o3x2, I ((nth w.Means k).MRest)]) rfl) rfl hS64o3 (RdVs.cons (Rd.meaning.2 ⟨_, _, rfl, (hS64o3.rdS 0 rfl), (by first | assumption | (constructor <;> (try dsimp only) <;> omega)), (by first | assumption | (constructor <;> (try dsimp only) <;> omega)), (hS64o3.rdS 1 rfl), (by first | assumption | (constructor <;> (try dsimp only) <;> omega))⟩) (RdVs.nil)) (by decide) (by decide) (fun v64o4 H64o4 hS64o4 hxx hvv64o4 => ?_)
   refine ⟨Ext.mono hxx (fun _ h => h.elim), ?_⟩
   refine wpR_n [5] (by kernel_rfl) ?_
   refine fa ?_ fe
   have hS64o5 : St H0 NoB (SZ S H0) [rdE v64o4 ([(nth w.Means k)] : List Meaning), rdE r64o3 ((nth w.Means k).Rows), rdE r64o3x2 ((nth w.Means k).MCells), bE g58 #[u55n0, I ((nth w.Means k).MNum), I ((nth w.Means k).MDen), u55n3, I ((nth w.Means k).MRest)] 62, rdE u55n3 ((nth w.Means k).MCells), rdE u55n0 ((nth w.Means k).Rows), bE g50 #[SB ((nth a.Decls k).Name), u48n1, I ((nth a.Decls k).Srt)] 43, rdE u48n1 ((nth a.Decls k).Args), rowE 62 vo (upTo a w k : List Meaning), bE g41 #[vo] 29, bE g34 #[I (((meanF (doA a) w)).1), I (((meanF (doA a) w)).2)] 32, bE g22 #[I ((doF a).1), I ((doF a).2)] 32, bE g19 #[r13, r14, r15] 26, bE g10 #[I (0), I (0)] 32, bE g7 #[nS] 29, bE g4 #[vM] 29, bE g1 #[vD, vN, vH] 26, rdE vD a.Decls, rdE vN a.Nodes, rdE vH a.Hold, rdE vM w.Means] H64o4 := St.fin hS64o4
   have hS64o5x2 := (hS64o5.front 8 rfl)
   refine exE rfl rfl ?_
   refine e_append rfl Tryz.underlying27 em_Meaning_62_UpC2 rfl rfl hS64o5x2 (hS64o5x2.rdS 1 rfl) (fun _ h => h) (by have hb : GoT.bytes Meaning = 72 := rfl; rw [hb]; simp only [List.length_append, upTo_len, List.length_cons, List.length_nil]; omega) (by decide) (fun v64o5 H64o5 hS64o5x3 hxx => ?_)
   have hS64o5x4 : St H0 NoB (SZ S H0) [rowE 62 v64o5 (upTo a w (k + 1) : List Meaning), rdE v64o4 ([(nth w.Means k)] : List Meaning), rdE r64o3 ((nth w.Means k).Rows), rdE r64o3x2 ((nth w.Means k).MCells), bE g58 #[u55n0, I ((nth w.Means k).MNum), I ((nth w.Means k).MDen), u55n3, I ((nth w.Means k).MRest)] 62, rdE u55n3 ((nth w.Means k).MCells), rdE u55n0 ((nth w.Means k).Rows), bE g50 #[SB ((nth a.Decls k).Name), u48n1, I ((nth a.Decls k).Srt)] 43, rdE u48n1 ((nth a.Decls k).Args), bE g41 #[vo] 29, bE g34 #[I (((meanF (doA a) w)).1), I (((meanF (doA a) w)).2)] 32, bE g22 #[I ((doF a).1), I ((doF a).2)] 32, bE g19 #[r13, r14, r15] 26, bE g10 #[I (0), I (0)] 32, bE g7 #[nS] 29, bE g4 #[vM] 29, bE g1 #[vD, vN, vH] 26, rdE vD a.Decls, rdE vN a.Nodes, rdE vH a.Hold, rdE vM w.Means] H64o5 := by rw [show (upTo a w (k + 1)) = ((upTo a w k) ++ ([(nth w.Means k)])) from (upTo_flat h49).symm]; exact hS64o5x3
   refine ⟨Ext.mono hxx (labS_of 0 rfl (fun _ _ => trivial)), ?_⟩
   refine rq 6 (by kernel_rfl) rfl rfl (q_fieldAddr rfl Tryz.underlying29 rfl Tryz.sizeOf27 y9) ?_
   refine wpR_n [7] (by kernel_rfl) ?_
   refine fa ?_ fe
   refine exE rfl rfl ?_
   refine e_storeBlk (v := v64o5) rfl rfl rfl (oneCell_rdL (hS64o5x4.rowl 0 rfl)) Tryz.sizeOf27 (by show _ < 1; decide) (hS64o5x4.front 9 rfl) (fun H64o7 hS64o7 hxx => ?_)
   refine ⟨Ext.mono hxx (labS_of 1 rfl (fun _ _ => trivial)), ?_⟩
   refine wpR_end (by kernel_rfl) ?_
   skip
   refine wpF_exit ?_
   refine atX_here ?_
   exact ⟨v64o5, y3, y4, y5, y9, y35, y36, y37, (St.drop (show St H0 NoB (SZ S H0) [rowE 62 v64o5 (upTo a w (k + 1) : List Meaning), bE g41 #[v64o5] 29, rdE v64o4 ([(nth w.Means k)] : List Meaning), rdE r64o3 ((nth w.Means k).Rows), rdE r64o3x2 ((nth w.Means k).MCells), bE g58 #[u55n0, I ((nth w.Means k).MNum), I ((nth w.Means k).MDen), u55n3, I ((nth w.Means k).MRest)] 62, rdE u55n3 ((nth w.Means k).MCells), rdE u55n0 ((nth w.Means k).Rows), bE g50 #[SB ((nth a.Decls k).Name), u48n1, I ((nth a.Decls k).Srt)] 43, rdE u48n1 ((nth a.Decls k).Args), bE g34 #[I (((meanF (doA a) w)).1), I (((meanF (doA a) w)).2)] 32, bE g22 #[I ((doF a).1), I ((doF a).2)] 32, bE g19 #[r13, r14, r15] 26, bE g10 #[I (0), I (0)] 32, bE g7 #[nS] 29, bE g4 #[vM] 29, bE g1 #[vD, vN, vH] 26, rdE vD a.Decls, rdE vN a.Nodes, rdE vH a.Hold, rdE vM w.Means] H64o7 from (hS64o7.front 1 rfl)) (sk (sk (sn (sn (sn (sn (sn (sn (sn (sn (sk (sk (sk (sk (sk (sk (sk (sk (sk (sk (sk (List.Sublist.slnil)))))))))))))))))))))))⟩
  have hone := h1 k (by omega) (Decidable.of_not_not h49)
  have hrows := hone.few
  refine wpF_skip ?_
  refine wpF_seq ?_
  refine wpF_region ?_
  refine lq rfl (q_fieldAddr rfl Tryz.underlying62 rfl Tryz.sizeOf60 rfl) ?_
  refine lq rfl (q_fieldAddr rfl Tryz.underlying60 rfl Tryz.sizeOf57 rfl) ?_
  refine lq rfl (q_fieldAddr rfl Tryz.underlying57 rfl Tryz.sizeOf3 rfl) ?_
  refine lq rfl (q_loadBlk rfl rfl Tryz.isAgg3 (hS62.blk 0 rfl) rfl (fun h => h)) ?_
  refine lq rfl (q_build (v := Vg #[I (0), I (0), nS, I ((nth w.Means k).MNum)]) rfl (par1 (v0 := I ((nth w.Means k).MNum)) rfl) (fun w__ => by kernel_rfl)) ?_
  refine lo rfl ?_
  refine e_alloc rfl Tryz.zeroValue60 hS62 (fun g65 H66 hS67 hxx => ?_)
  refine lo rfl ?_
  refine e_storeBlkA (cs' := #[I (0), I (0), nS, I ((nth w.Means k).MNum)]) rfl rfl rfl Tryz.sizeOf60 rfl rfl (fa rfl (fa rfl (fa rfl (fa rfl fe)))) hS67 (fun H68 hS69 hxx => ?_)
  refine wpL_nil ?_
  have hS70 : St H0 NoB (SZ S H0) [rowE 67 nS ([] : List Cell), bE g65 #[I (0), I (0), nS, I ((nth w.Means k).MNum)] 60, bE g58 #[u55n0, I ((nth w.Means k).MNum), I ((nth w.Means k).MDen), u55n3, I ((nth w.Means k).MRest)] 62, rdE u55n3 ((nth w.Means k).MCells), rdE u55n0 ((nth w.Means k).Rows), bE g50 #[SB ((nth a.Decls k).Name), u48n1, I ((nth a.Decls k).Srt)] 43, rdE u48n1 ((nth a.Decls k).Args), rowE 62 vo (upTo a w k : List Meaning), bE g41 #[vo] 29, bE g34 #[I (((meanF (doA a) w)).1), I (((meanF (doA a) w)).2)] 32, bE g22 #[I ((doF a).1), I ((doF a).2)] 32, bE g19 #[r13, r14, r15] 26, bE g10 #[I (0), I (0)] 32, bE g7 #[nS] 29, bE g4 #[vM] 29, bE g1 #[vD, vN, vH] 26, rdE vD a.Decls, rdE vN a.Nodes, rdE vH a.Hold, rdE vM w.Means] H68 := hS69.row0 67
  refine wpF_seq ?_
  refine wpF_seq ?_
  refine wpF_region ?_
  refine lq rfl (q_fieldAddr rfl Tryz.underlying62 rfl Tryz.sizeOf55 rfl) ?_
  refine lq rfl (q_loadBlk rfl rfl Tryz.isAgg55 (hS70.blk 2 rfl) rfl (fun h => h)) ?_
  refine lq rfl (q_lenRd rfl Tryz.underlying55 rfl (hS70.rdl 4 rfl)) ?_
  refine lm (v := I (0)) rfl rfl rfl ?_
  refine wpL_nil ?_
  refine wpF_block ?_
  refine wpF_loop (fun mz f H => ∃ (j : Nat), ∃ (vC : Value), mz = (nth w.Means k).Rows.length - j ∧ (j ≤ (nth w.Means k).Rows.length) ∧ f 3 = PT g4 0 ∧ f 4 = PT g7 0 ∧ f 5 = PT g10 0 ∧ f 9 = PT g41 0 ∧ f 12 = PT g58 0 ∧ f 13 = PT g65 0 ∧ f 35 = vD ∧ f 36 = I ((a.Decls.length : Int)) ∧ f 37 = I ((k : Int)) ∧ f 63 = u55n0 ∧ f 64 = I ((((nth w.Means k).Rows).length : Int)) ∧ f 65 = I ((j : Int)) ∧ St H0 NoB (SZ S H0) [rowE 67 vC (upRaw (nth w.Means k) ((nth w.Means k).Rows.take j) : List Cell), bE g65 #[I (0), I (0), vC, I ((nth w.Means k).MNum)] 60, bE g58 #[u55n0, I ((nth w.Means k).MNum), I ((nth w.Means k).MDen), u55n3, I ((nth w.Means k).MRest)] 62, rdE u55n3 ((nth w.Means k).MCells), rdE u55n0 ((nth w.Means k).Rows), bE g50 #[SB ((nth a.Decls k).Name), u48n1, I ((nth a.Decls k).Srt)] 43, rdE u48n1 ((nth a.Decls k).Args), rowE 62 vo (upTo a w k : List Meaning), bE g41 #[vo] 29, bE g34 #[I (((meanF (doA a) w)).1), I (((meanF (doA a) w)).2)] 32, bE g22 #[I ((doF a).1), I ((doF a).2)] 32, bE g19 #[r13, r14, r15] 26, bE g10 #[I (0), I (0)] 32, bE g7 #[nS] 29, bE g4 #[vM] 29, bE g1 #[vD, vN, vH] 26, rdE vD a.Decls, rdE vN a.Nodes, rdE vH a.Hold, rdE vM w.Means] H) ((nth w.Means k).Rows.length - 0) ?_ ?_
  ·exact ⟨0, nS, rfl, Nat.zero_le _, y3, y4, y5, y9, rfl, rfl, y35, y36, y37, rfl, rfl, (Eq.trans rfl (congrArg I (by omega))), (show St H0 NoB (SZ S H0) [rowE 67 nS (upRaw (nth w.Means k) ((nth w.Means k).Rows.take 0) : List Cell), bE g65 #[I (0), I (0), nS, I ((nth w.Means k).MNum)] 60, bE g58 #[u55n0, I ((nth w.Means k).MNum), I ((nth w.Means k).MDen), u55n3, I ((nth w.Means k).MRest)] 62, rdE u55n3 ((nth w.Means k).MCells), rdE u55n0 ((nth w.Means k).Rows), bE g50 #[SB ((nth a.Decls k).Name), u48n1, I ((nth a.Decls k).Srt)] 43, rdE u48n1 ((nth a.Decls k).Args), rowE 62 vo (upTo a w k : List Meaning), bE g41 #[vo] 29, bE g34 #[I (((meanF (doA a) w)).1), I (((meanF (doA a) w)).2)] 32, bE g22 #[I ((doF a).1), I ((doF a).2)] 32, bE g19 #[r13, r14, r15] 26, bE g10 #[I (0), I (0)] 32, bE g7 #[nS] 29, bE g4 #[vM] 29, bE g1 #[vD, vN, vH] 26, rdE vD a.Decls, rdE vN a.Nodes, rdE vH a.Hold, rdE vM w.Means] H68 from hS70)⟩
  intro m71 f71 H71 hI71
  clear y3 y35 y36 y37 y4 y5 y9
  obtain ⟨j, vC, hm71, hj, y3, y4, y5, y9, y12, y13, y35, y36, y37, y63, y64, y65, hS71⟩ := hI71
  refine wpF_seq ?_
  refine wpF_region ?_
  refine lq rfl (q_lss rfl y65 y64) ?_
  refine wpL_nil ?_
  refine wpF_seq ?_
  refine wpF_condP rfl (fun hltj => ?t103) (fun hltj => ?e103)
  case e103 =>
   have hS73 : St H0 NoB (SZ S H0) [rowE 67 vC (upRaw (nth w.Means k) (nth w.Means k).Rows : List Cell), bE g65 #[I (0), I (0), vC, I ((nth w.Means k).MNum)] 60, bE g58 #[u55n0, I ((nth w.Means k).MNum), I ((nth w.Means k).MDen), u55n3, I ((nth w.Means k).MRest)] 62, rdE u55n3 ((nth w.Means k).MCells), rdE u55n0 ((nth w.Means k).Rows), bE g50 #[SB ((nth a.Decls k).Name), u48n1, I ((nth a.Decls k).Srt)] 43, rdE u48n1 ((nth a.Decls k).Args), rowE 62 vo (upTo a w k : List Meaning), bE g41 #[vo] 29, bE g34 #[I (((meanF (doA a) w)).1), I (((meanF (doA a) w)).2)] 32, bE g22 #[I ((doF a).1), I ((doF a).2)] 32, bE g19 #[r13, r14, r15] 26, bE g10 #[I (0), I (0)] 32, bE g7 #[nS] 29, bE g4 #[vM] 29, bE g1 #[vD, vN, vH] 26, rdE vD a.Decls, rdE vN a.Nodes, rdE vH a.Hold, rdE vM w.Means] H71 := by have h__ := hS71; rw [List.take_of_length_le (show (nth w.Means k).Rows.length ≤ j by omega)] at h__; exact h__
   refine wpF_exit ?_
   refine atX_here ?_
   refine wpF_seq ?_
   refine wpF_region ?_
   refine lq rfl (q_fieldAddr rfl Tryz.underlying60 rfl Tryz.sizeOf58 y13) ?_
   refine lq rfl (q_loadBlk rfl rfl Tryz.isAgg58 (hS73.blk 1 rfl) rfl (fun h => h)) ?_
   have hS86 := hS73
   refine lo rfl ?_
   refine e_call rfl Tryz.call17 (arr2 (v0 := vC) (v1 := Value.func (.func 18) #[] #[]) rfl rfl) (sort_cells hS86) ?_
   rintro _ H88 ⟨hxx, rfl, l87, hsol87, hS89x⟩
   have hS89 : St H0 NoB (SZ S H0) [rowE 67 vC (upCs (nth w.Means k) : List Cell), bE g65 #[I (0), I (0), vC, I ((nth w.Means k).MNum)] 60, bE g58 #[u55n0, I ((nth w.Means k).MNum), I ((nth w.Means k).MDen), u55n3, I ((nth w.Means k).MRest)] 62, rdE u55n3 ((nth w.Means k).MCells), rdE u55n0 ((nth w.Means k).Rows), bE g50 #[SB ((nth a.Decls k).Name), u48n1, I ((nth a.Decls k).Srt)] 43, rdE u48n1 ((nth a.Decls k).Args), rowE 62 vo (upTo a w k : List Meaning), bE g41 #[vo] 29, bE g34 #[I (((meanF (doA a) w)).1), I (((meanF (doA a) w)).2)] 32, bE g22 #[I ((doF a).1), I ((doF a).2)] 32, bE g19 #[r13, r14, r15] 26, bE g10 #[I (0), I (0)] 32, bE g7 #[nS] 29, bE g4 #[vM] 29, bE g1 #[vD, vN, vH] 26, rdE vD a.Decls, rdE vN a.Nodes, rdE vH a.Hold, rdE vM w.Means] H88 := by have h__ := hS89x; rw [sort_unique (h1 k (by omega) (Decidable.of_not_not h49)) hsol87.1 hsol87.2] at h__; exact h__
   refine wpL_nil ?_
   refine wpF_region ?_
   refine lq rfl (q_fieldAddr rfl Tryz.underlying29 rfl Tryz.sizeOf27 y9) ?_
   refine lq rfl (q_loadBlk rfl rfl Tryz.isAgg27 (hS89.blk 8 rfl) rfl (fun h => h)) ?_
   refine lq rfl (q_loadBlkA rfl y13 Tryz.isAgg60 Tryz.sizeOf60 rfl (hS89.blk 1 rfl) (fun h => h)) ?_
   refine lq rfl (q_build (v := Vg #[nS, I (0), I (0), vC, I ((nth w.Means k).MNum)]) rfl (par1 (v0 := Vg #[I (0), I (0), vC, I ((nth w.Means k).MNum)]) rfl) (fun w__ => by kernel_rfl)) ?_
   have hS91 : St H0 NoB (SZ S H0) [rdE vC (upCs (nth w.Means k)), bE g65 #[I (0), I (0), vC, I ((nth w.Means k).MNum)] 60, bE g58 #[u55n0, I ((nth w.Means k).MNum), I ((nth w.Means k).MDen), u55n3, I ((nth w.Means k).MRest)] 62, rdE u55n3 ((nth w.Means k).MCells), rdE u55n0 ((nth w.Means k).Rows), bE g50 #[SB ((nth a.Decls k).Name), u48n1, I ((nth a.Decls k).Srt)] 43, rdE u48n1 ((nth a.Decls k).Args), rowE 62 vo (upTo a w k : List Meaning), bE g41 #[vo] 29, bE g34 #[I (((meanF (doA a) w)).1), I (((meanF (doA a) w)).2)] 32, bE g22 #[I ((doF a).1), I ((doF a).2)] 32, bE g19 #[r13, r14, r15] 26, bE g10 #[I (0), I (0)] 32, bE g7 #[nS] 29, bE g4 #[vM] 29, bE g1 #[vD, vN, vH] 26, rdE vD a.Decls, rdE vN a.Nodes, rdE vH a.Hold, rdE vM w.Means] H88 := St.fin hS89
   refine lo rfl ?_
   refine e_buildSlice (vs := [Vg #[nS, I (0), I (0), vC, I ((nth w.Means k).MNum)]]) (xs := ([(Meaning.mk ([]) 0 0 (upCs (nth w.Means k)) ((nth w.Means k).MNum))] : List Meaning)) rfl Tryz.underlying27 Tryz.zeroValue62 rfl Tryz.sizeOf62 (par1 (v0 := Vg #[nS, I (0), I (0), vC, I ((nth w.Means k).MNum)]) rfl) rfl hS91 (RdVs.cons (Rd.meaning.2 ⟨_, _, rfl, rdNil, (by first | assumption | (constructor <;> (try dsimp only) <;> omega)), (by first | assumption | (constructor <;> (try dsimp only) <;> omega)), (hS91.rdS 0 rfl), (by first | assumption | (constructor <;> (try dsimp only) <;> omega))⟩) (RdVs.nil)) (by decide) (by decide) (fun v92 H93 hS94 hxx hvv92 => ?_)
   have hS95 : St H0 NoB (SZ S H0) [rdE v92 ([(Meaning.mk ([]) 0 0 (upCs (nth w.Means k)) ((nth w.Means k).MNum))] : List Meaning), rdE vC (upCs (nth w.Means k)), bE g65 #[I (0), I (0), vC, I ((nth w.Means k).MNum)] 60, bE g58 #[u55n0, I ((nth w.Means k).MNum), I ((nth w.Means k).MDen), u55n3, I ((nth w.Means k).MRest)] 62, rdE u55n3 ((nth w.Means k).MCells), rdE u55n0 ((nth w.Means k).Rows), bE g50 #[SB ((nth a.Decls k).Name), u48n1, I ((nth a.Decls k).Srt)] 43, rdE u48n1 ((nth a.Decls k).Args), rowE 62 vo (upTo a w k : List Meaning), bE g41 #[vo] 29, bE g34 #[I (((meanF (doA a) w)).1), I (((meanF (doA a) w)).2)] 32, bE g22 #[I ((doF a).1), I ((doF a).2)] 32, bE g19 #[r13, r14, r15] 26, bE g10 #[I (0), I (0)] 32, bE g7 #[nS] 29, bE g4 #[vM] 29, bE g1 #[vD, vN, vH] 26, rdE vD a.Decls, rdE vN a.Nodes, rdE vH a.Hold, rdE vM w.Means] H93 := St.fin hS94
   have hS96 := (hS95.front 8 rfl)
   refine lo rfl ?_
   refine e_append rfl Tryz.underlying27 em_Meaning_62_UpC2 rfl rfl hS96 (hS96.rdS 1 rfl) (fun _ h => h) (by have hb : GoT.bytes Meaning = 72 := rfl; rw [hb]; simp only [List.length_append, upTo_len, List.length_cons, List.length_nil]; omega) (by decide) (fun v97 H98 hS99 hxx => ?_)
   have hS100 : St H0 NoB (SZ S H0) [rowE 62 v97 (upTo a w (k + 1) : List Meaning), rdE v92 ([(Meaning.mk ([]) 0 0 (upCs (nth w.Means k)) ((nth w.Means k).MNum))] : List Meaning), rdE vC (upCs (nth w.Means k)), bE g65 #[I (0), I (0), vC, I ((nth w.Means k).MNum)] 60, bE g58 #[u55n0, I ((nth w.Means k).MNum), I ((nth w.Means k).MDen), u55n3, I ((nth w.Means k).MRest)] 62, rdE u55n3 ((nth w.Means k).MCells), rdE u55n0 ((nth w.Means k).Rows), bE g50 #[SB ((nth a.Decls k).Name), u48n1, I ((nth a.Decls k).Srt)] 43, rdE u48n1 ((nth a.Decls k).Args), bE g41 #[vo] 29, bE g34 #[I (((meanF (doA a) w)).1), I (((meanF (doA a) w)).2)] 32, bE g22 #[I ((doF a).1), I ((doF a).2)] 32, bE g19 #[r13, r14, r15] 26, bE g10 #[I (0), I (0)] 32, bE g7 #[nS] 29, bE g4 #[vM] 29, bE g1 #[vD, vN, vH] 26, rdE vD a.Decls, rdE vN a.Nodes, rdE vH a.Hold, rdE vM w.Means] H98 := by rw [show (upTo a w (k + 1)) = ((upTo a w k) ++ ([(Meaning.mk ([]) 0 0 (upCs (nth w.Means k)) ((nth w.Means k).MNum))])) from (upTo_arr h49).symm]; exact hS99
   refine lq rfl (q_fieldAddr rfl Tryz.underlying29 rfl Tryz.sizeOf27 y9) ?_
   refine lo rfl ?_
   refine e_storeBlk (v := v97) rfl rfl rfl (oneCell_rdL (hS100.rowl 0 rfl)) Tryz.sizeOf27 (by show _ < 1; decide) (hS100.front 9 rfl) (fun H101 hS102 hxx => ?_)
   refine wpL_nil ?_
   exact ⟨v97, y3, y4, y5, y9, y35, y36, y37, (St.drop (show St H0 NoB (SZ S H0) [rowE 62 v97 (upTo a w (k + 1) : List Meaning), bE g41 #[v97] 29, rdE v92 ([(Meaning.mk ([]) 0 0 (upCs (nth w.Means k)) ((nth w.Means k).MNum))] : List Meaning), rdE vC (upCs (nth w.Means k)), bE g65 #[I (0), I (0), vC, I ((nth w.Means k).MNum)] 60, bE g58 #[u55n0, I ((nth w.Means k).MNum), I ((nth w.Means k).MDen), u55n3, I ((nth w.Means k).MRest)] 62, rdE u55n3 ((nth w.Means k).MCells), rdE u55n0 ((nth w.Means k).Rows), bE g50 #[SB ((nth a.Decls k).Name), u48n1, I ((nth a.Decls k).Srt)] 43, rdE u48n1 ((nth a.Decls k).Args), bE g34 #[I (((meanF (doA a) w)).1), I (((meanF (doA a) w)).2)] 32, bE g22 #[I ((doF a).1), I ((doF a).2)] 32, bE g19 #[r13, r14, r15] 26, bE g10 #[I (0), I (0)] 32, bE g7 #[nS] 29, bE g4 #[vM] 29, bE g1 #[vD, vN, vH] 26, rdE vD a.Decls, rdE vN a.Nodes, rdE vH a.Hold, rdE vM w.Means] H101 from (hS102.front 1 rfl)) (sk (sk (sn (sn (sn (sn (sn (sn (sn (sn (sk (sk (sk (sk (sk (sk (sk (sk (sk (sk (sk (List.Sublist.slnil)))))))))))))))))))))))⟩
  have hj1 := hone.one _ (nth_mem (show j < (nth w.Means k).Rows.length by omega))
  have hj0 : 0 < (nth (nth w.Means k).Rows j).Args.length := by rw [hj1]; exact Nat.one_pos
  refine wpF_skip ?_
  refine wpF_seq ?_
  refine wpF_block ?_
  refine wpF_seq ?_
  refine wpF_region ?_
  refine lq rfl (q_indexRd (k := j) rfl Tryz.underlying55 el_Entry_65_UpC2 y63 y65 (hS71.rdl 4 rfl) (by omega) (by omega)) ?_
  obtain ⟨u74, huu74, hlu74⟩ := (Rd.list.1 (hS71.rdS 4 rfl)).elem j (by omega)
  obtain ⟨u74n0, u74n3, rfl, hu740, hu741, hu742, hu743, hu744⟩ := Rd.entry.1 huu74
  have hS75 := hS71.rd hu740
  have hS76 : St H0 NoB (SZ S H0) [rdE u74n3 ((nth ((nth w.Means k).Rows) j).ECells), rdE u74n0 ((nth ((nth w.Means k).Rows) j).Args), rowE 67 vC (upRaw (nth w.Means k) ((nth w.Means k).Rows.take j) : List Cell), bE g65 #[I (0), I (0), vC, I ((nth w.Means k).MNum)] 60, bE g58 #[u55n0, I ((nth w.Means k).MNum), I ((nth w.Means k).MDen), u55n3, I ((nth w.Means k).MRest)] 62, rdE u55n3 ((nth w.Means k).MCells), rdE u55n0 ((nth w.Means k).Rows), bE g50 #[SB ((nth a.Decls k).Name), u48n1, I ((nth a.Decls k).Srt)] 43, rdE u48n1 ((nth a.Decls k).Args), rowE 62 vo (upTo a w k : List Meaning), bE g41 #[vo] 29, bE g34 #[I (((meanF (doA a) w)).1), I (((meanF (doA a) w)).2)] 32, bE g22 #[I ((doF a).1), I ((doF a).2)] 32, bE g19 #[r13, r14, r15] 26, bE g10 #[I (0), I (0)] 32, bE g7 #[nS] 29, bE g4 #[vM] 29, bE g1 #[vD, vN, vH] 26, rdE vD a.Decls, rdE vN a.Nodes, rdE vH a.Hold, rdE vM w.Means] H71 := hS75.rd (hu743.sub fun _ hb => SL_rd hb)
  refine lq rfl (q_loadE rfl rfl (hlu74 Tryz.prog 65 _ el_Entry_65_UpC2 (fun _ h => False.elim h))) ?_
  refine lo rfl ?_
  refine e_alloc rfl Tryz.zeroValue65 hS76 (fun g77 H78 hS79 hxx => ?_)
  refine lo rfl ?_
  refine e_storeBlkA (cs' := #[u74n0, I ((nth ((nth w.Means k).Rows) j).ENum), I ((nth ((nth w.Means k).Rows) j).EDen), u74n3, I ((nth ((nth w.Means k).Rows) j).ERest)]) rfl rfl rfl Tryz.sizeOf65 rfl rfl (fa ((oneCell_rdL (hS79.rdl 2 rfl))) (fa rfl (fa rfl (fa ((oneCell_rdL (hS79.rdl 1 rfl))) (fa rfl fe))))) hS79 (fun H80 hS81 hxx => ?_)
  refine wpL_nil ?_
  refine wpF_seq ?_
  refine wpF_region ?_
  refine lq rfl (q_fieldAddr rfl Tryz.underlying65 rfl Tryz.sizeOf60 rfl) ?_
  refine lq rfl (q_fieldAddr rfl Tryz.underlying60 rfl Tryz.sizeOf57 rfl) ?_
  refine lq rfl (q_loadBlkP (ds := [I ((nth ((nth w.Means k).Rows) j).ENum), I ((nth ((nth w.Means k).Rows) j).EDen)]) rfl rfl Tryz.isAgg57 Tryz.sizeOf57 rfl rfl (hS81.blk 0 rfl) (fun h => h)) ?_
  refine lq rfl (q_fieldAddr rfl Tryz.underlying62 rfl Tryz.sizeOf60 y12) ?_
  refine lq rfl (q_fieldAddr rfl Tryz.underlying60 rfl Tryz.sizeOf57 rfl) ?_
  refine lq rfl (q_loadBlkP (ds := [I ((nth w.Means k).MNum), I ((nth w.Means k).MDen)]) rfl rfl Tryz.isAgg57 Tryz.sizeOf57 rfl rfl (hS81.blk 5 rfl) (fun h => h)) ?_
  refine lq rfl (q_neqF2 rfl Tryz.eqGuardType57 (fl57_UpC2 _ _ _ _) rfl rfl) ?_
  refine wpL_nil ?_
  refine wpF_condP rfl (fun h75 => ?t85) (fun h75 => ?e85)
  case e85 =>
   have hS83 : St H0 NoB (SZ S H0) [bE g77 #[u74n0, I ((nth ((nth w.Means k).Rows) j).ENum), I ((nth ((nth w.Means k).Rows) j).EDen), u74n3, I ((nth ((nth w.Means k).Rows) j).ERest)] 65, rdE u74n3 ((nth ((nth w.Means k).Rows) j).ECells), rdE u74n0 ((nth ((nth w.Means k).Rows) j).Args), rowE 67 vC (upRaw (nth w.Means k) ((nth w.Means k).Rows.take (j + 1)) : List Cell), bE g65 #[I (0), I (0), vC, I ((nth w.Means k).MNum)] 60, bE g58 #[u55n0, I ((nth w.Means k).MNum), I ((nth w.Means k).MDen), u55n3, I ((nth w.Means k).MRest)] 62, rdE u55n3 ((nth w.Means k).MCells), rdE u55n0 ((nth w.Means k).Rows), bE g50 #[SB ((nth a.Decls k).Name), u48n1, I ((nth a.Decls k).Srt)] 43, rdE u48n1 ((nth a.Decls k).Args), rowE 62 vo (upTo a w k : List Meaning), bE g41 #[vo] 29, bE g34 #[I (((meanF (doA a) w)).1), I (((meanF (doA a) w)).2)] 32, bE g22 #[I ((doF a).1), I ((doF a).2)] 32, bE g19 #[r13, r14, r15] 26, bE g10 #[I (0), I (0)] 32, bE g7 #[nS] 29, bE g4 #[vM] 29, bE g1 #[vD, vN, vH] 26, rdE vD a.Decls, rdE vN a.Nodes, rdE vH a.Hold, rdE vM w.Means] H80 := by have h__ := hS81; rw [(upRaw_no (by omega) (upKeep_no (Decidable.of_not_not h75))).symm] at h__; exact h__
   refine wpF_skip ?_
   refine wpF_region ?_
   refine lq rfl (q_add rfl y65 rfl (by constructor <;> omega)) ?_
   refine lm (v := I ((j : Int) + 1)) rfl rfl rfl ?_
   refine wpL_nil ?_
   refine ⟨_, ?_, j + 1, vC, rfl, (by omega), y3, y4, y5, y9, y12, y13, y35, y36, y37, y63, y64, (Eq.trans rfl (congrArg I (by omega))), (hS83.drop (sn (sn (sn (sk (sk (sk (sk (sk (sk (sk (sk (sk (sk (sk (sk (sk (sk (sk (sk (sk (sk (sk (sk (List.Sublist.slnil)))))))))))))))))))))))))⟩
   omega
  have h6a := (Rd.list.1 (hS81.rdS 2 rfl)).in64 (k := 0) hj0
  refine wpF_drawn [none, none, none, none, none, none, none, none, none, none, none, none, some 0, none, some 1] [[], [], [], [], [], [], [], [], [], [], [], [], [], [], []] (fun l b => match l with | 0 => True | 1 => True | _ => False) (by kernel_rfl) (by kernel_rfl) ?_
  refine rq 0 (by kernel_rfl) rfl rfl (q_fieldAddr rfl Tryz.underlying60 rfl Tryz.sizeOf58 y13) ?_
  refine rq 1 (by kernel_rfl) rfl rfl (q_loadBlk rfl rfl Tryz.isAgg58 (hS81.blk 4 rfl) rfl (labU_not [] rfl (fe))) ?_
  refine rq 2 (by kernel_rfl) rfl rfl (q_fieldAddr rfl Tryz.underlying65 rfl Tryz.sizeOf24 rfl) ?_
  refine rq 3 (by kernel_rfl) rfl rfl (q_loadBlk rfl rfl Tryz.isAgg24 (hS81.blk 0 rfl) rfl (labU_not [] rfl (fe))) ?_
  refine rq 4 (by kernel_rfl) rfl rfl (q_indexRd (k := 0) rfl Tryz.underlying24 el_Int_3_UpC2 rfl rfl (hS81.rdl 2 rfl) (by omega) (by omega)) ?_
  refine rq 5 (by kernel_rfl) rfl rfl (q_loadInt (k := 0) rfl rfl el_Int_3_UpC2 (hS81.rdl 2 rfl) (by omega) (labU_sub [] rfl (fe))) ?_
  refine rq 6 (by kernel_rfl) rfl rfl (q_fieldAddr rfl Tryz.underlying65 rfl Tryz.sizeOf60 rfl) ?_
  refine rq 7 (by kernel_rfl) rfl rfl (q_fieldAddr rfl Tryz.underlying60 rfl Tryz.sizeOf57 rfl) ?_
  refine rq 8 (by kernel_rfl) rfl rfl (q_fieldAddr rfl Tryz.underlying57 rfl Tryz.sizeOf3 rfl) ?_
  refine rq 9 (by kernel_rfl) rfl rfl (q_loadBlk rfl rfl Tryz.isAgg3 (hS81.blk 0 rfl) rfl (labU_not [] rfl (fe))) ?_
  refine rq 10 (by kernel_rfl) rfl rfl (q_build (v := Vg #[I (nth ((nth ((nth w.Means k).Rows) j).Args) 0), I ((nth ((nth w.Means k).Rows) j).ENum)]) rfl (par2 (v0 := I (nth ((nth ((nth w.Means k).Rows) j).Args) 0)) (v1 := I ((nth ((nth w.Means k).Rows) j).ENum)) rfl rfl) (fun w__ => by kernel_rfl)) ?_
  refine wpR_n [11] (by kernel_rfl) ?_
  refine fa ?_ fe
  refine exE rfl rfl ?_
  refine e_buildSlice (vs := [Vg #[I (nth ((nth ((nth w.Means k).Rows) j).Args) 0), I ((nth ((nth w.Means k).Rows) j).ENum)]]) (xs := ([(Cell.mk (nth ((nth ((nth w.Means k).Rows) j).Args) 0) ((nth ((nth w.Means k).Rows) j).ENum))] : List Cell)) rfl Tryz.underlying58 Tryz.zeroValue67 rfl Tryz.sizeOf67 (par1 (v0 := Vg #[I (nth ((nth ((nth w.Means k).Rows) j).Args) 0), I ((nth ((nth w.Means k).Rows) j).ENum)]) rfl) rfl hS81 (RdVs.cons ((Rd.cell (a := (Cell.mk (nth ((nth ((nth w.Means k).Rows) j).Args) 0) ((nth ((nth w.Means k).Rows) j).ENum)))).2 ⟨rfl, (by first | assumption | (constructor <;> (try dsimp only) <;> omega)), (by first | assumption | (constructor <;> (try dsimp only) <;> omega))⟩) (RdVs.nil)) (by decide) (by decide) (fun v84o11 H84o11 hS84o11 hxx hvv84o11 => ?_)
  refine ⟨Ext.mono hxx (fun _ h => h.elim), ?_⟩
  refine wpR_n [12] (by kernel_rfl) ?_
  refine fa ?_ fe
  have hS84o12 : St H0 NoB (SZ S H0) [rdE v84o11 ([(Cell.mk (nth ((nth ((nth w.Means k).Rows) j).Args) 0) ((nth ((nth w.Means k).Rows) j).ENum))] : List Cell), bE g77 #[u74n0, I ((nth ((nth w.Means k).Rows) j).ENum), I ((nth ((nth w.Means k).Rows) j).EDen), u74n3, I ((nth ((nth w.Means k).Rows) j).ERest)] 65, rdE u74n3 ((nth ((nth w.Means k).Rows) j).ECells), rdE u74n0 ((nth ((nth w.Means k).Rows) j).Args), rowE 67 vC (upRaw (nth w.Means k) ((nth w.Means k).Rows.take j) : List Cell), bE g65 #[I (0), I (0), vC, I ((nth w.Means k).MNum)] 60, bE g58 #[u55n0, I ((nth w.Means k).MNum), I ((nth w.Means k).MDen), u55n3, I ((nth w.Means k).MRest)] 62, rdE u55n3 ((nth w.Means k).MCells), rdE u55n0 ((nth w.Means k).Rows), bE g50 #[SB ((nth a.Decls k).Name), u48n1, I ((nth a.Decls k).Srt)] 43, rdE u48n1 ((nth a.Decls k).Args), rowE 62 vo (upTo a w k : List Meaning), bE g41 #[vo] 29, bE g34 #[I (((meanF (doA a) w)).1), I (((meanF (doA a) w)).2)] 32, bE g22 #[I ((doF a).1), I ((doF a).2)] 32, bE g19 #[r13, r14, r15] 26, bE g10 #[I (0), I (0)] 32, bE g7 #[nS] 29, bE g4 #[vM] 29, bE g1 #[vD, vN, vH] 26, rdE vD a.Decls, rdE vN a.Nodes, rdE vH a.Hold, rdE vM w.Means] H84o11 := St.fin hS84o11
  have hS84o12x2 := (hS84o12.front 4 rfl)
  refine exE rfl rfl ?_
  refine e_append rfl Tryz.underlying58 em_Cell_67_UpC2 rfl rfl hS84o12x2 (hS84o12x2.rdS 1 rfl) (fun _ h => h) (by have hb : GoT.bytes Cell = 16 := rfl; rw [hb]; have := upRaw_len (m := (nth w.Means k)) (l := (nth w.Means k).Rows.take j); simp only [List.length_append, List.length_take, List.length_cons, List.length_nil] at this ⊢; omega) (by decide) (fun v84o12 H84o12 hS84o12x3 hxx => ?_)
  have hS84o12x4 : St H0 NoB (SZ S H0) [rowE 67 v84o12 (upRaw (nth w.Means k) ((nth w.Means k).Rows.take (j + 1)) : List Cell), rdE v84o11 ([(Cell.mk (nth ((nth ((nth w.Means k).Rows) j).Args) 0) ((nth ((nth w.Means k).Rows) j).ENum))] : List Cell), bE g77 #[u74n0, I ((nth ((nth w.Means k).Rows) j).ENum), I ((nth ((nth w.Means k).Rows) j).EDen), u74n3, I ((nth ((nth w.Means k).Rows) j).ERest)] 65, rdE u74n3 ((nth ((nth w.Means k).Rows) j).ECells), rdE u74n0 ((nth ((nth w.Means k).Rows) j).Args), bE g65 #[I (0), I (0), vC, I ((nth w.Means k).MNum)] 60, bE g58 #[u55n0, I ((nth w.Means k).MNum), I ((nth w.Means k).MDen), u55n3, I ((nth w.Means k).MRest)] 62, rdE u55n3 ((nth w.Means k).MCells), rdE u55n0 ((nth w.Means k).Rows), bE g50 #[SB ((nth a.Decls k).Name), u48n1, I ((nth a.Decls k).Srt)] 43, rdE u48n1 ((nth a.Decls k).Args), rowE 62 vo (upTo a w k : List Meaning), bE g41 #[vo] 29, bE g34 #[I (((meanF (doA a) w)).1), I (((meanF (doA a) w)).2)] 32, bE g22 #[I ((doF a).1), I ((doF a).2)] 32, bE g19 #[r13, r14, r15] 26, bE g10 #[I (0), I (0)] 32, bE g7 #[nS] 29, bE g4 #[vM] 29, bE g1 #[vD, vN, vH] 26, rdE vD a.Decls, rdE vN a.Nodes, rdE vH a.Hold, rdE vM w.Means] H84o12 := by rw [show (upRaw (nth w.Means k) ((nth w.Means k).Rows.take (j + 1))) = ((upRaw (nth w.Means k) ((nth w.Means k).Rows.take j)) ++ ([(Cell.mk (nth ((nth ((nth w.Means k).Rows) j).Args) 0) ((nth ((nth w.Means k).Rows) j).ENum))])) from upRaw_yes (by omega) (upKeep_yes h75)]; exact hS84o12x3
  refine ⟨Ext.mono hxx (labS_of 0 rfl (fun _ _ => trivial)), ?_⟩
  refine rq 13 (by kernel_rfl) rfl rfl (q_fieldAddr rfl Tryz.underlying60 rfl Tryz.sizeOf58 y13) ?_
  refine wpR_n [14] (by kernel_rfl) ?_
  refine fa ?_ fe
  refine exE rfl rfl ?_
  refine e_storeBlk (v := v84o12) rfl rfl rfl (oneCell_rdL (hS84o12x4.rowl 0 rfl)) Tryz.sizeOf58 (by show _ < 4; decide) (hS84o12x4.front 5 rfl) (fun H84o14 hS84o14 hxx => ?_)
  refine ⟨Ext.mono hxx (labS_of 1 rfl (fun _ _ => trivial)), ?_⟩
  refine wpR_end (by kernel_rfl) ?_
  skip
  refine wpF_region ?_
  refine lq rfl (q_add rfl y65 rfl (by constructor <;> omega)) ?_
  refine lm (v := I ((j : Int) + 1)) rfl rfl rfl ?_
  refine wpL_nil ?_
  refine ⟨_, ?_, j + 1, v84o12, rfl, (by omega), y3, y4, y5, y9, y12, y13, y35, y36, y37, y63, y64, (Eq.trans rfl (congrArg I (by omega))), (St.drop (show St H0 NoB (SZ S H0) [rowE 67 v84o12 (upRaw (nth w.Means k) ((nth w.Means k).Rows.take (j + 1)) : List Cell), bE g65 #[I (0), I (0), v84o12, I ((nth w.Means k).MNum)] 60, rdE v84o11 ([(Cell.mk (nth ((nth ((nth w.Means k).Rows) j).Args) 0) ((nth ((nth w.Means k).Rows) j).ENum))] : List Cell), bE g77 #[u74n0, I ((nth ((nth w.Means k).Rows) j).ENum), I ((nth ((nth w.Means k).Rows) j).EDen), u74n3, I ((nth ((nth w.Means k).Rows) j).ERest)] 65, rdE u74n3 ((nth ((nth w.Means k).Rows) j).ECells), rdE u74n0 ((nth ((nth w.Means k).Rows) j).Args), bE g58 #[u55n0, I ((nth w.Means k).MNum), I ((nth w.Means k).MDen), u55n3, I ((nth w.Means k).MRest)] 62, rdE u55n3 ((nth w.Means k).MCells), rdE u55n0 ((nth w.Means k).Rows), bE g50 #[SB ((nth a.Decls k).Name), u48n1, I ((nth a.Decls k).Srt)] 43, rdE u48n1 ((nth a.Decls k).Args), rowE 62 vo (upTo a w k : List Meaning), bE g41 #[vo] 29, bE g34 #[I (((meanF (doA a) w)).1), I (((meanF (doA a) w)).2)] 32, bE g22 #[I ((doF a).1), I ((doF a).2)] 32, bE g19 #[r13, r14, r15] 26, bE g10 #[I (0), I (0)] 32, bE g7 #[nS] 29, bE g4 #[vM] 29, bE g1 #[vD, vN, vH] 26, rdE vD a.Decls, rdE vN a.Nodes, rdE vH a.Hold, rdE vM w.Means] H84o14 from (hS84o14.front 1 rfl)) (sk (sk (sn (sn (sn (sn (sk (sk (sk (sk (sk (sk (sk (sk (sk (sk (sk (sk (sk (sk (sk (sk (sk (sk (List.Sublist.slnil))))))))))))))))))))))))))⟩
  omega
 clear y3 y35 y36 y37 y4 y5 y9
 rintro f47 H47 ⟨vo2, y3, y4, y5, y9, y35, y36, y37, hS47⟩
 refine wpF_region ?_
 refine lq rfl (q_add rfl y37 rfl (by constructor <;> omega)) ?_
 refine lm (v := I ((k : Int) + 1)) rfl rfl rfl ?_
 refine wpL_nil ?_
 refine ⟨_, ?_, k + 1, vo2, rfl, (by omega), y3, y4, y5, y9, y35, y36, (Eq.trans rfl (congrArg I (by omega))), hS47⟩
 omega
end Go.Um
