import Derived.Test.YtacphjgolmolmaaGreatProg
import Derived.Test.YtacphjgolmolmaaGreatMeanC5Z
import Derived.Test.YtacphjgolmolmaaGreatUmArrUpC
namespace Go.Um
open Go.Proofs
open GoT (sz ag rdc)
open KeyT (kv)
theorem el_Cell_67_ArrD1 : ElT Tryz.prog Cell 67 := ⟨Tryz.isAgg67, Tryz.sizeOf67⟩
theorem el_Decl_43_ArrD1 : ElT Tryz.prog Decl 43 := ⟨Tryz.isAgg43, Tryz.sizeOf43⟩
theorem el_Entry_65_ArrD1 : ElT Tryz.prog Entry 65 := ⟨Tryz.isAgg65, Tryz.sizeOf65⟩
theorem el_Meaning_62_ArrD1 : ElT Tryz.prog Meaning 62 := ⟨Tryz.isAgg62, Tryz.sizeOf62⟩
theorem em_Entry_65_ArrD1 : ElemOk Tryz.prog Entry 65 := ⟨Tryz.t65, (.agg #[(.slice none 0 0), (.int .i64 0), (.int .i64 0), (.slice none 0 0), (.int .i64 0)]), by kernel_rfl, by kernel_rfl, by kernel_rfl, by kernel_rfl, by kernel_rfl⟩
theorem em_Meaning_62_ArrD1 : ElemOk Tryz.prog Meaning 62 := ⟨Tryz.t62, (.agg #[(.slice none 0 0), (.int .i64 0), (.int .i64 0), (.slice none 0 0), (.int .i64 0)]), by kernel_rfl, by kernel_rfl, by kernel_rfl, by kernel_rfl, by kernel_rfl⟩
set_option maxHeartbeats 2000000 in
set_option maxRecDepth 100000 in
theorem Copied_A {H0 : Heap} {S : Nat → Prop} (vr vc : Value) (m : Meaning) (rvr : Rd S H0 vr m.Rows) (h6mMNum : In64 m.MNum) (h6mMDen : In64 m.MDen) (rvc : Rd S H0 vc m.MCells) (h6mMRest : In64 m.MRest) : CallsH Tryz.prog 16 #[Vg #[vr, I (m.MNum), I (m.MDen), vc, I (m.MRest)]] H0 (fun rv_ H' => Ext NoB H0 H' ∧ ∃ w0_ w1_, rv_ = Vg #[w0_, I m.MNum, I m.MDen, w1_, I m.MRest] ∧ Rd (SZ S H0) H' w0_ m.Rows ∧ Rd (SZ S H0) H' w1_ m.MCells ∧ In64 m.MNum ∧ In64 m.MDen ∧ In64 m.MRest) := by
 have hsr : m.Rows.length * 72 ≤ 140737488355328 := (Rd.list.1 rvr).bound
 have hS0 : St H0 NoB (SZ S H0) [rdE vr m.Rows, rdE vc m.MCells] H0 := St.arg (St.arg (St.start (fun _ h => h.2)) (Bl0.nil) rvc (fun _ h => h.1)) (Bl0.cons (Bl0.nil)) rvr (fun _ h => h.1)
 refine callsH_of_wpF (args := [Vg #[vr, I (m.MNum), I (m.MDen), vc, I (m.MRest)]]) (rs := [.cell 2 62]) Tryz.func16 rfl Tryz.ntmps16 Tryz.results16 (by kernel_rfl) (Nat.le_of_ble_eq_true rfl) ?_
 have y0 : argF [Vg #[vr, I (m.MNum), I (m.MDen), vc, I (m.MRest)]] 0 = Vg #[vr, I (m.MNum), I (m.MDen), vc, I (m.MRest)] := rfl
 generalize argF [Vg #[vr, I (m.MNum), I (m.MDen), vc, I (m.MRest)]] = f0 at *
 refine wpF_seq ?_
 refine wpF_region ?_
 refine lo rfl ?_
 refine e_box (v := Vg #[vr, I (m.MNum), I (m.MDen), vc, I (m.MRest)]) rfl y0 hS0 (fun g1 H2 hS3 hxx => ?_)
 refine lo rfl ?_
 refine e_alloc rfl Tryz.zeroValue62 hS3 (fun g4 H5 hS6 hxx => ?_)
 refine wpL_nil ?_
 refine wpF_seq ?_
 refine wpF_region ?_
 refine lq rfl (q_fieldAddr rfl Tryz.underlying62 rfl Tryz.sizeOf60 rfl) ?_
 refine lq rfl (q_loadBlkP (ds := [I (m.MNum), I (m.MDen), vc, I (m.MRest)]) rfl rfl Tryz.isAgg60 Tryz.sizeOf60 rfl rfl (hS6.blk 1 rfl) (fun h => h)) ?_
 refine lq rfl (q_build (v := Vg #[nS, I (m.MNum), I (m.MDen), vc, I (m.MRest)]) rfl (par1 (v0 := Vg #[I (m.MNum), I (m.MDen), vc, I (m.MRest)]) rfl) (fun w__ => by kernel_rfl)) ?_
 refine lo rfl ?_
 refine e_alloc rfl Tryz.zeroValue62 hS6 (fun g7 H8 hS9 hxx => ?_)
 refine lo rfl ?_
 refine e_storeBlkA (cs' := #[nS, I (m.MNum), I (m.MDen), vc, I (m.MRest)]) rfl rfl rfl Tryz.sizeOf62 rfl rfl (fa rfl (fa rfl (fa rfl (fa ((oneCell_rdL (hS9.rdl 4 rfl))) (fa rfl fe))))) hS9 (fun H10 hS11 hxx => ?_)
 refine wpL_nil ?_
 refine wpF_seq ?_
 refine wpF_region ?_
 refine lq rfl (q_fieldAddr rfl Tryz.underlying62 rfl Tryz.sizeOf60 rfl) ?_
 refine lq rfl (q_fieldAddr rfl Tryz.underlying60 rfl Tryz.sizeOf58 rfl) ?_
 refine lq rfl (q_loadBlk rfl rfl Tryz.isAgg58 (hS11.blk 2 rfl) rfl (fun h => h)) ?_
 refine lo rfl ?_
 refine e_call rfl Tryz.call28 (arr1 (v0 := vc) rfl) (CloneC vc _ (hS11.rdS 4 rfl)) ?_
 rintro r12 H13 ⟨hxx, hrr12⟩
 have hS14 := hS11.res hxx hrr12
 refine lq rfl (q_fieldAddr rfl Tryz.underlying62 rfl Tryz.sizeOf60 rfl) ?_
 refine lq rfl (q_fieldAddr rfl Tryz.underlying60 rfl Tryz.sizeOf58 rfl) ?_
 refine lo rfl ?_
 refine e_storeBlk (v := r12) rfl rfl rfl (oneCell_rdL (hS14.rdl 0 rfl)) Tryz.sizeOf58 (by show _ < 5; decide) (hS14.front 1 rfl) (fun H16 hS17 hxx => ?_)
 refine wpL_nil ?_
 have hS18 : St H0 NoB (SZ S H0) [rowE 65 nS ([] : List Entry), bE g7 #[nS, I (m.MNum), I (m.MDen), r12, I (m.MRest)] 62, rdE r12 m.MCells, bE g4 #[nS, I (0), I (0), nS, I (0)] 62, bE g1 #[vr, I (m.MNum), I (m.MDen), vc, I (m.MRest)] 62, rdE vr m.Rows, rdE vc m.MCells] H16 := hS17.row0 65
 refine wpF_seq ?_
 refine wpF_seq ?_
 refine wpF_region ?_
 refine lq rfl (q_fieldAddr rfl Tryz.underlying62 rfl Tryz.sizeOf55 rfl) ?_
 refine lq rfl (q_loadBlk rfl rfl Tryz.isAgg55 (hS18.blk 4 rfl) rfl (fun h => h)) ?_
 refine lq rfl (q_lenRd rfl Tryz.underlying55 rfl (hS18.rdl 5 rfl)) ?_
 refine lm (v := I (0)) rfl rfl rfl ?_
 refine wpL_nil ?_
 refine wpF_block ?_
 refine wpF_loop (fun mz f H => ∃ (k : Nat), ∃ (vo : Value), mz = m.Rows.length - k ∧ (k ≤ m.Rows.length) ∧ f 2 = PT g4 0 ∧ f 3 = PT g7 0 ∧ f 16 = vr ∧ f 17 = I ((m.Rows.length : Int)) ∧ f 18 = I ((k : Int)) ∧ St H0 NoB (SZ S H0) [rowE 65 vo (m.Rows.take k : List Entry), bE g7 #[vo, I (m.MNum), I (m.MDen), r12, I (m.MRest)] 62, rdE r12 m.MCells, bE g4 #[nS, I (0), I (0), nS, I (0)] 62, bE g1 #[vr, I (m.MNum), I (m.MDen), vc, I (m.MRest)] 62, rdE vr m.Rows, rdE vc m.MCells] H) (m.Rows.length - 0) ?_ ?_
 ·exact ⟨0, nS, rfl, Nat.zero_le _, rfl, rfl, rfl, rfl, (Eq.trans rfl (congrArg I (by omega))), (show St H0 NoB (SZ S H0) [rowE 65 nS (m.Rows.take 0 : List Entry), bE g7 #[nS, I (m.MNum), I (m.MDen), r12, I (m.MRest)] 62, rdE r12 m.MCells, bE g4 #[nS, I (0), I (0), nS, I (0)] 62, bE g1 #[vr, I (m.MNum), I (m.MDen), vc, I (m.MRest)] 62, rdE vr m.Rows, rdE vc m.MCells] H16 from hS18)⟩
 intro m19 f19 H19 hI19
 obtain ⟨k, vo, hm19, hk, y2, y3, y16, y17, y18, hS19⟩ := hI19
 refine wpF_seq ?_
 refine wpF_region ?_
 refine lq rfl (q_lss rfl y18 y17) ?_
 refine wpL_nil ?_
 refine wpF_seq ?_
 refine wpF_condP rfl (fun hlt => ?t45) (fun hlt => ?e45)
 case e45 =>
  have hS21 : St H0 NoB (SZ S H0) [rowE 65 vo (m.Rows : List Entry), bE g7 #[vo, I (m.MNum), I (m.MDen), r12, I (m.MRest)] 62, rdE r12 m.MCells, bE g4 #[nS, I (0), I (0), nS, I (0)] 62, bE g1 #[vr, I (m.MNum), I (m.MDen), vc, I (m.MRest)] 62, rdE vr m.Rows, rdE vc m.MCells] H19 := by have h__ := hS19; rw [List.take_of_length_le (show m.Rows.length ≤ k by omega)] at h__; exact h__
  refine wpF_exit ?_
  refine atX_here ?_
  refine wpF_seq ?_
  refine wpF_region ?_
  refine lq rfl (q_loadBlkA rfl y3 Tryz.isAgg62 Tryz.sizeOf62 rfl (hS21.blk 1 rfl) (fun h => h)) ?_
  refine lo rfl ?_
  refine e_storeBlkA (cs' := #[vo, I (m.MNum), I (m.MDen), r12, I (m.MRest)]) rfl y2 rfl Tryz.sizeOf62 rfl rfl (fa ((oneCell_rdL (hS21.rowl 0 rfl))) (fa rfl (fa rfl (fa ((oneCell_rdL (hS21.rdl 2 rfl))) (fa rfl fe))))) (hS21.front 3 rfl) (fun H42 hS43 hxx => ?_)
  refine wpL_nil ?_
  refine wpF_ret ?_
  refine ⟨_, resC y2 (loadV_blkA Tryz.isAgg62 Tryz.sizeOf62 rfl (hS43.blk 0 rfl)) (resN), hS43.frame, ?_⟩
  show ∃ w0_ w1_, (Vg #[vo, I (m.MNum), I (m.MDen), r12, I (m.MRest)]) = Vg #[w0_, I m.MNum, I m.MDen, w1_, I m.MRest] ∧ Rd (SZ S H0) H42 w0_ m.Rows ∧ Rd (SZ S H0) H42 w1_ m.MCells ∧ In64 m.MNum ∧ In64 m.MDen ∧ In64 m.MRest
  have hS44 : St H0 NoB (SZ S H0) [rdE vo m.Rows, bE g4 #[vo, I (m.MNum), I (m.MDen), r12, I (m.MRest)] 62, bE g7 #[vo, I (m.MNum), I (m.MDen), r12, I (m.MRest)] 62, rdE r12 m.MCells, bE g1 #[vr, I (m.MNum), I (m.MDen), vc, I (m.MRest)] 62, rdE vr m.Rows, rdE vc m.MCells] H42 := St.fin (hS43.front 1 rfl)
  exact ⟨_, _, rfl, (hS44.result (hS44.rdS 0 rfl)), (hS44.result (hS44.rdS 3 rfl)), by assumption, by assumption, by assumption⟩
 refine wpF_skip ?_
 refine wpF_seq ?_
 refine wpF_block ?_
 refine wpF_seq ?_
 refine wpF_region ?_
 refine lq rfl (q_indexRd (k := k) rfl Tryz.underlying55 el_Entry_65_ArrD1 y16 y18 (hS19.rdl 5 rfl) (by omega) (by omega)) ?_
 obtain ⟨u22, huu22, hlu22⟩ := (Rd.list.1 (hS19.rdS 5 rfl)).elem k (by omega)
 obtain ⟨u22n0, u22n3, rfl, hu220, hu221, hu222, hu223, hu224⟩ := Rd.entry.1 huu22
 have hS23 := hS19.rd hu220
 have hS24 : St H0 NoB (SZ S H0) [rdE u22n3 ((nth m.Rows k).ECells), rdE u22n0 ((nth m.Rows k).Args), rowE 65 vo (m.Rows.take k : List Entry), bE g7 #[vo, I (m.MNum), I (m.MDen), r12, I (m.MRest)] 62, rdE r12 m.MCells, bE g4 #[nS, I (0), I (0), nS, I (0)] 62, bE g1 #[vr, I (m.MNum), I (m.MDen), vc, I (m.MRest)] 62, rdE vr m.Rows, rdE vc m.MCells] H19 := hS23.rd (hu223.sub fun _ hb => SL_rd hb)
 refine lq rfl (q_loadE rfl rfl (hlu22 Tryz.prog 65 _ el_Entry_65_ArrD1 (fun _ h => False.elim h))) ?_
 refine lo rfl ?_
 refine e_alloc rfl Tryz.zeroValue65 hS24 (fun g25 H26 hS27 hxx => ?_)
 refine lo rfl ?_
 refine e_storeBlkA (cs' := #[u22n0, I ((nth m.Rows k).ENum), I ((nth m.Rows k).EDen), u22n3, I ((nth m.Rows k).ERest)]) rfl rfl rfl Tryz.sizeOf65 rfl rfl (fa ((oneCell_rdL (hS27.rdl 2 rfl))) (fa rfl (fa rfl (fa ((oneCell_rdL (hS27.rdl 1 rfl))) (fa rfl fe))))) hS27 (fun H28 hS29 hxx => ?_)
 refine wpL_nil ?_
 refine wpF_seq ?_
 refine wpF_drawn [none, none, none, none, none, none, none, none, some 0, none, none, some 1] [[], [], [], [], [], [], [], [], [], [], [], []] (fun l b => match l with | 0 => True | 1 => True | _ => False) (by kernel_rfl) (by kernel_rfl) ?_
 refine rq 0 (by kernel_rfl) rfl rfl (q_fieldAddr rfl Tryz.underlying65 rfl Tryz.sizeOf24 rfl) ?_
 refine rq 1 (by kernel_rfl) rfl rfl (q_loadBlk rfl rfl Tryz.isAgg24 (hS29.blk 0 rfl) rfl (labU_not [] rfl (fe))) ?_
 refine rq 3 (by kernel_rfl) rfl rfl (q_fieldAddr rfl Tryz.underlying65 rfl Tryz.sizeOf60 rfl) ?_
 refine rq 4 (by kernel_rfl) rfl rfl (q_fieldAddr rfl Tryz.underlying60 rfl Tryz.sizeOf58 rfl) ?_
 refine rq 5 (by kernel_rfl) rfl rfl (q_loadBlk rfl rfl Tryz.isAgg58 (hS29.blk 0 rfl) rfl (labU_not [] rfl (fe))) ?_
 refine wpR_n [2] (by kernel_rfl) ?_
 refine fa ?_ fe
 refine exE rfl rfl ?_
 refine e_call rfl Tryz.call13 (arr1 (v0 := u22n0) rfl) (Clone u22n0 _ (hS29.rdS 2 rfl)) ?_
 rintro r30o2 H30o2 ⟨hxx, hrr30o2⟩
 have hS30o2 := hS29.res hxx hrr30o2
 refine ⟨Ext.mono hxx (fun _ h => h.elim), ?_⟩
 refine rq 7 (by kernel_rfl) rfl rfl (q_fieldAddr rfl Tryz.underlying65 rfl Tryz.sizeOf24 rfl) ?_
 refine wpR_n [6] (by kernel_rfl) ?_
 refine fa ?_ fe
 refine exE rfl rfl ?_
 refine e_call rfl Tryz.call28 (arr1 (v0 := u22n3) rfl) (CloneC u22n3 _ (hS30o2.rdS 2 rfl)) ?_
 rintro r30o6 H30o6 ⟨hxx, hrr30o6⟩
 have hS30o6 := hS30o2.res hxx hrr30o6
 refine ⟨Ext.mono hxx (fun _ h => h.elim), ?_⟩
 refine wpR_n [8] (by kernel_rfl) ?_
 refine fa ?_ fe
 refine exE rfl rfl ?_
 refine e_storeBlk (v := r30o2) rfl rfl rfl (oneCell_rdL (hS30o6.rdl 1 rfl)) Tryz.sizeOf24 (by show _ < 5; decide) (hS30o6.front 2 rfl) (fun H30o8 hS30o8 hxx => ?_)
 refine ⟨Ext.mono hxx (labS_of 0 rfl (fun _ _ => trivial)), ?_⟩
 refine rq 9 (by kernel_rfl) rfl rfl (q_fieldAddr rfl Tryz.underlying65 rfl Tryz.sizeOf60 rfl) ?_
 refine rq 10 (by kernel_rfl) rfl rfl (q_fieldAddr rfl Tryz.underlying60 rfl Tryz.sizeOf58 rfl) ?_
 refine wpR_n [11] (by kernel_rfl) ?_
 refine fa ?_ fe
 refine exE rfl rfl ?_
 refine e_storeBlk (v := r30o6) rfl rfl rfl (oneCell_rdL (hS30o8.rdl 1 rfl)) Tryz.sizeOf58 (by show _ < 5; decide) hS30o8 (fun H30o11 hS30o11 hxx => ?_)
 refine ⟨Ext.mono hxx (labS_of 1 rfl (fun _ _ => trivial)), ?_⟩
 refine wpR_end (by kernel_rfl) ?_
 skip
 refine wpF_region ?_
 refine lq rfl (q_fieldAddr rfl Tryz.underlying62 rfl Tryz.sizeOf55 y3) ?_
 refine lq rfl (q_loadBlk rfl rfl Tryz.isAgg55 (hS30o11.blk 6 rfl) rfl (fun h => h)) ?_
 refine lq rfl (q_loadBlkA rfl rfl Tryz.isAgg65 Tryz.sizeOf65 rfl (hS30o11.blk 0 rfl) (fun h => h)) ?_
 refine lo rfl ?_
 refine e_buildSlice (vs := [Vg #[r30o2, I ((nth m.Rows k).ENum), I ((nth m.Rows k).EDen), r30o6, I ((nth m.Rows k).ERest)]]) (xs := ([(nth m.Rows k)] : List Entry)) rfl Tryz.underlying55 Tryz.zeroValue65 rfl Tryz.sizeOf65 (par1 (v0 := Vg #[r30o2, I ((nth m.Rows k).ENum), I ((nth m.Rows k).EDen), r30o6, I ((nth m.Rows k).ERest)]) rfl) rfl hS30o11 (RdVs.cons (Rd.entry.2 ⟨_, _, rfl, (hS30o11.rdS 2 rfl), (by first | assumption | (constructor <;> (try dsimp only) <;> omega)), (by first | assumption | (constructor <;> (try dsimp only) <;> omega)), (hS30o11.rdS 1 rfl), (by first | assumption | (constructor <;> (try dsimp only) <;> omega))⟩) (RdVs.nil)) (by decide) (by decide) (fun v31 H32 hS33 hxx hvv31 => ?_)
 have hS34 : St H0 NoB (SZ S H0) [rdE v31 ([(nth m.Rows k)] : List Entry), bE g25 #[r30o2, I ((nth m.Rows k).ENum), I ((nth m.Rows k).EDen), r30o6, I ((nth m.Rows k).ERest)] 65, rdE r30o6 (((nth m.Rows k).ECells)), rdE r30o2 (((nth m.Rows k).Args)), rdE u22n3 ((nth m.Rows k).ECells), rdE u22n0 ((nth m.Rows k).Args), rowE 65 vo (m.Rows.take k : List Entry), bE g7 #[vo, I (m.MNum), I (m.MDen), r12, I (m.MRest)] 62, rdE r12 m.MCells, bE g4 #[nS, I (0), I (0), nS, I (0)] 62, bE g1 #[vr, I (m.MNum), I (m.MDen), vc, I (m.MRest)] 62, rdE vr m.Rows, rdE vc m.MCells] H32 := St.fin hS33
 have hS35 := (hS34.front 6 rfl)
 refine lo rfl ?_
 refine e_append rfl Tryz.underlying55 em_Entry_65_ArrD1 rfl rfl hS35 (hS35.rdS 1 rfl) (fun _ h => h) (by have hb : GoT.bytes Entry = 72 := rfl; rw [hb]; simp only [List.length_append, List.length_take, List.length_cons, List.length_nil]; omega) (by decide) (fun v36 H37 hS38 hxx => ?_)
 have hS39 : St H0 NoB (SZ S H0) [rowE 65 v36 (m.Rows.take (k + 1) : List Entry), rdE v31 ([(nth m.Rows k)] : List Entry), bE g25 #[r30o2, I ((nth m.Rows k).ENum), I ((nth m.Rows k).EDen), r30o6, I ((nth m.Rows k).ERest)] 65, rdE r30o6 (((nth m.Rows k).ECells)), rdE r30o2 (((nth m.Rows k).Args)), rdE u22n3 ((nth m.Rows k).ECells), rdE u22n0 ((nth m.Rows k).Args), bE g7 #[vo, I (m.MNum), I (m.MDen), r12, I (m.MRest)] 62, rdE r12 m.MCells, bE g4 #[nS, I (0), I (0), nS, I (0)] 62, bE g1 #[vr, I (m.MNum), I (m.MDen), vc, I (m.MRest)] 62, rdE vr m.Rows, rdE vc m.MCells] H37 := by rw [show (m.Rows.take (k + 1)) = ((m.Rows.take k) ++ ([(nth m.Rows k)])) from (take_succ_nth (by omega))]; exact hS38
 refine lq rfl (q_fieldAddr rfl Tryz.underlying62 rfl Tryz.sizeOf55 y3) ?_
 refine lo rfl ?_
 refine e_storeBlk (v := v36) rfl rfl rfl (oneCell_rdL (hS39.rowl 0 rfl)) Tryz.sizeOf55 (by show _ < 5; decide) (hS39.front 7 rfl) (fun H40 hS41 hxx => ?_)
 refine wpL_nil ?_
 refine wpF_region ?_
 refine lq rfl (q_add rfl y18 rfl (by constructor <;> omega)) ?_
 refine lm (v := I ((k : Int) + 1)) rfl rfl rfl ?_
 refine wpL_nil ?_
 refine ⟨_, ?_, k + 1, v36, rfl, (by omega), y2, y3, y16, y17, (Eq.trans rfl (congrArg I (by omega))), (St.drop (show St H0 NoB (SZ S H0) [rowE 65 v36 (m.Rows.take (k + 1) : List Entry), bE g7 #[v36, I (m.MNum), I (m.MDen), r12, I (m.MRest)] 62, rdE v31 ([(nth m.Rows k)] : List Entry), bE g25 #[r30o2, I ((nth m.Rows k).ENum), I ((nth m.Rows k).EDen), r30o6, I ((nth m.Rows k).ERest)] 65, rdE r30o6 (((nth m.Rows k).ECells)), rdE r30o2 (((nth m.Rows k).Args)), rdE u22n3 ((nth m.Rows k).ECells), rdE u22n0 ((nth m.Rows k).Args), rdE r12 m.MCells, bE g4 #[nS, I (0), I (0), nS, I (0)] 62, bE g1 #[vr, I (m.MNum), I (m.MDen), vc, I (m.MRest)] 62, rdE vr m.Rows, rdE vc m.MCells] H40 from (hS41.front 1 rfl)) (sk (sk (sn (sn (sn (sn (sn (sn (sk (sk (sk (sk (sk (List.Sublist.slnil)))))))))))))))⟩
 omega
set_option maxHeartbeats 1000000 in
set_option maxRecDepth 100000 in
theorem Down_A {H0 : Heap} {S : Nat → Prop} (vD vN vH vM : Value) (a : Ask) (w : Wld) (rvD : Rd S H0 vD a.Decls) (rvN : Rd S H0 vN a.Nodes) (rvH : Rd S H0 vH a.Hold) (rvM : Rd S H0 vM w.Means) : CallsH Tryz.prog 9 #[Vg #[vD, vN, vH], Vg #[vM]] H0 (fun rv_ H' => Ext NoB H0 H' ∧ ∃ w_, rv_ = Value.tuple #[Vg #[w_], Vg #[I (downF a w).1, I (downF a w).2]] ∧ Rd (SZ S H0) H' w_ (downW a w).Means) := by
 have hsD : a.Decls.length * 48 ≤ 140737488355328 := (Rd.list.1 rvD).bound
 have hsN : a.Nodes.length * 64 ≤ 140737488355328 := (Rd.list.1 rvN).bound
 have hsM : w.Means.length * 72 ≤ 140737488355328 := (Rd.list.1 rvM).bound
 have hS0 : St H0 NoB (SZ S H0) [rdE vD a.Decls, rdE vN a.Nodes, rdE vH a.Hold, rdE vM w.Means] H0 := St.arg (St.arg (St.arg (St.arg (St.start (fun _ h => h.2)) (Bl0.nil) rvM (fun _ h => h.1)) (Bl0.cons (Bl0.nil)) rvH (fun _ h => h.1)) (Bl0.cons (Bl0.cons (Bl0.nil))) rvN (fun _ h => h.1)) (Bl0.cons (Bl0.cons (Bl0.cons (Bl0.nil)))) rvD (fun _ h => h.1)
 refine callsH_of_wpF (args := [Vg #[vD, vN, vH], Vg #[vM]]) (rs := [.cell 4 29, .cell 5 32]) Tryz.func9 rfl Tryz.ntmps9 Tryz.results9 (by kernel_rfl) (Nat.le_of_ble_eq_true rfl) ?_
 have y0 : argF [Vg #[vD, vN, vH], Vg #[vM]] 0 = Vg #[vD, vN, vH] := rfl
 have y1 : argF [Vg #[vD, vN, vH], Vg #[vM]] 1 = Vg #[vM] := rfl
 generalize argF [Vg #[vD, vN, vH], Vg #[vM]] = f0 at *
 refine wpF_seq ?_
 refine wpF_region ?_
 refine lo rfl ?_
 refine e_box (v := Vg #[vD, vN, vH]) rfl y0 hS0 (fun g1 H2 hS3 hxx => ?_)
 refine lo rfl ?_
 refine e_box (v := Vg #[vM]) rfl y1 hS3 (fun g4 H5 hS6 hxx => ?_)
 refine lo rfl ?_
 refine e_alloc rfl Tryz.zeroValue29 hS6 (fun g7 H8 hS9 hxx => ?_)
 refine lo rfl ?_
 refine e_alloc rfl Tryz.zeroValue32 hS9 (fun g10 H11 hS12 hxx => ?_)
 refine wpL_nil ?_
 refine wpF_seq ?_
 refine wpF_seq ?_
 refine wpF_region ?_
 refine lq rfl (q_loadBlkA rfl rfl Tryz.isAgg26 Tryz.sizeOf26 rfl (hS12.blk 3 rfl) (fun h => h)) ?_
 refine lq rfl (q_loadBlkA rfl rfl Tryz.isAgg29 Tryz.sizeOf29 rfl (hS12.blk 2 rfl) (fun h => h)) ?_
 refine lo rfl ?_
 refine e_call rfl Tryz.call7 (arr2 (v0 := Vg #[vD, vN, vH]) (v1 := Vg #[vM]) rfl rfl) (Check_M vD vN vH vM a w (hS12.rdN 4 rfl) (hS12.rdN 5 rfl) (hS12.rdN 6 rfl) (hS12.rdN 7 rfl) ) ?_
 rintro _ H13 ⟨hxx, rfl⟩
 have hS14 := hS12.ext hxx
 refine lo rfl ?_
 refine e_alloc rfl Tryz.zeroValue32 hS14 (fun g16 H17 hS18 hxx => ?_)
 refine lo rfl ?_
 refine e_storeBlkA (cs' := #[I (((meanF a w)).1), I (((meanF a w)).2)]) rfl rfl rfl Tryz.sizeOf32 rfl rfl (fa rfl (fa rfl fe)) hS18 (fun H19 hS20 hxx => ?_)
 refine wpL_nil ?_
 refine wpF_seq ?_
 refine wpF_region ?_
 refine lq rfl (q_fieldAddr rfl Tryz.underlying32 rfl Tryz.sizeOf3 rfl) ?_
 refine lq rfl (q_loadBlk rfl rfl Tryz.isAgg3 (hS20.blk 0 rfl) rfl (fun h => h)) ?_
 refine lq rfl (q_neq rfl rfl rfl) ?_
 refine wpL_nil ?_
 refine wpF_condP rfl (fun h20 => ?t105) (fun h20 => ?e105)
 case t105 =>
  refine wpF_seq ?_
  refine wpF_drawn [none, none, some 0, some 1] [[], [0], [], []] (fun l b => match l with | 0 => b = g7 | 1 => True | _ => False) (by kernel_rfl) (by kernel_rfl) ?_
  refine rq 0 (by kernel_rfl) rfl rfl (q_build (v := Vg #[nS]) rfl par0 (fun w__ => by kernel_rfl)) ?_
  refine rq 1 (by kernel_rfl) rfl rfl (q_loadBlkA rfl rfl Tryz.isAgg32 Tryz.sizeOf32 rfl (hS20.blk 0 rfl) (labU_not [0] rfl (fa (fun hb => hS20.dis 0 2 (by decide) rfl rfl _ rfl hb) fe))) ?_
  refine wpR_n [2] (by kernel_rfl) ?_
  refine fa ?_ fe
  refine exE rfl rfl ?_
  refine e_storeBlkA (cs' := #[nS]) rfl rfl rfl Tryz.sizeOf29 rfl rfl (fa rfl fe) (hS20.front 2 rfl) (fun H22o2 hS22o2 hxx => ?_)
  refine ⟨Ext.mono hxx (labS_of 0 rfl (fun b hb => hb)), ?_⟩
  refine wpR_n [3] (by kernel_rfl) ?_
  refine fa ?_ fe
  refine exE rfl rfl ?_
  refine e_storeBlkA (cs' := #[I (((meanF a w)).1), I (((meanF a w)).2)]) rfl rfl rfl Tryz.sizeOf32 rfl rfl (fa rfl (fa rfl fe)) (hS22o2.front 2 rfl) (fun H22o3 hS22o3 hxx => ?_)
  refine ⟨Ext.mono hxx (labS_of 1 rfl (fun _ _ => trivial)), ?_⟩
  refine wpR_end (by kernel_rfl) ?_
  skip
  refine wpF_ret ?_
  refine ⟨_, resC rfl (loadV_blkA Tryz.isAgg29 Tryz.sizeOf29 rfl (hS22o3.blk 1 rfl)) (resC rfl (loadV_blkA Tryz.isAgg32 Tryz.sizeOf32 rfl (hS22o3.blk 0 rfl)) (resN)), hS22o3.frame, ?_⟩
  show ∃ w_, (Value.tuple #[Vg #[nS], Vg #[I (((meanF a w)).1), I (((meanF a w)).2)]]) = Value.tuple #[Vg #[w_], Vg #[I (downF a w).1, I (downF a w).2]] ∧ Rd (SZ S H0) H22o3 w_ (downW a w).Means
  have hq_ : downF a w = _ := downF_mean h20
  exact ⟨_, by rw [hq_], by rw [downW_bad (by rw [hq_]; exact h20)]; exact rdNil⟩
 have hM : MeanOk a w := meanOk (Decidable.of_not_not h20)
 have hmm := hM.len
 have hfew := hM.ask.few
 refine wpF_skip ?_
 refine wpF_seq ?_
 refine wpF_region ?_
 refine lo rfl ?_
 refine e_alloc rfl Tryz.zeroValue29 hS20 (fun g23 H24 hS25 hxx => ?_)
 refine wpL_nil ?_
 have hS26 : St H0 NoB (SZ S H0) [rowE 62 nS ([] : List Meaning), bE g23 #[nS] 29, bE g16 #[I (((meanF a w)).1), I (((meanF a w)).2)] 32, bE g10 #[I (0), I (0)] 32, bE g7 #[nS] 29, bE g4 #[vM] 29, bE g1 #[vD, vN, vH] 26, rdE vD a.Decls, rdE vN a.Nodes, rdE vH a.Hold, rdE vM w.Means] H24 := hS25.row0 62
 refine wpF_seq ?_
 refine wpF_seq ?_
 refine wpF_region ?_
 refine lq rfl (q_fieldAddr rfl Tryz.underlying26 rfl Tryz.sizeOf22 rfl) ?_
 refine lq rfl (q_loadBlk rfl rfl Tryz.isAgg22 (hS26.blk 6 rfl) rfl (fun h => h)) ?_
 refine lq rfl (q_lenRd rfl Tryz.underlying22 rfl (hS26.rdl 7 rfl)) ?_
 refine lm (v := I (0)) rfl rfl rfl ?_
 refine wpL_nil ?_
 refine wpF_block ?_
 refine wpF_loop (fun mz f H => ∃ (k : Nat), ∃ (vo : Value), mz = a.Decls.length - k ∧ (k ≤ a.Decls.length) ∧ (∀ j, j < k → ¬ downMuch a w j) ∧ f 3 = PT g4 0 ∧ f 4 = PT g7 0 ∧ f 5 = PT g10 0 ∧ f 7 = PT g23 0 ∧ f 24 = vD ∧ f 25 = I ((a.Decls.length : Int)) ∧ f 26 = I ((k : Int)) ∧ St H0 NoB (SZ S H0) [rowE 62 vo (downTo a w k : List Meaning), bE g23 #[vo] 29, bE g16 #[I (((meanF a w)).1), I (((meanF a w)).2)] 32, bE g10 #[I (0), I (0)] 32, bE g7 #[nS] 29, bE g4 #[vM] 29, bE g1 #[vD, vN, vH] 26, rdE vD a.Decls, rdE vN a.Nodes, rdE vH a.Hold, rdE vM w.Means] H) (a.Decls.length - 0) ?_ ?_
 ·exact ⟨0, nS, rfl, Nat.zero_le _, (fun j hj => absurd hj (Nat.not_lt_zero j)), rfl, rfl, rfl, rfl, rfl, rfl, (Eq.trans rfl (congrArg I (by omega))), (show St H0 NoB (SZ S H0) [rowE 62 nS (downTo a w 0 : List Meaning), bE g23 #[nS] 29, bE g16 #[I (((meanF a w)).1), I (((meanF a w)).2)] 32, bE g10 #[I (0), I (0)] 32, bE g7 #[nS] 29, bE g4 #[vM] 29, bE g1 #[vD, vN, vH] 26, rdE vD a.Decls, rdE vN a.Nodes, rdE vH a.Hold, rdE vM w.Means] H24 from hS26)⟩
 intro m27 f27 H27 hI27
 obtain ⟨k, vo, hm27, hk, hp, y3, y4, y5, y7, y24, y25, y26, hS27⟩ := hI27
 refine wpF_seq ?_
 refine wpF_region ?_
 refine lq rfl (q_lss rfl y26 y25) ?_
 refine wpL_nil ?_
 refine wpF_seq ?_
 refine wpF_condP rfl (fun hlt => ?t104) (fun hlt => ?e104)
 case e104 =>
  obtain rfl : k = a.Decls.length := by omega
  refine wpF_exit ?_
  refine atX_here ?_
  refine wpF_seq ?_
  refine wpF_region ?_
  refine lq rfl (q_loadBlkA rfl y7 Tryz.isAgg29 Tryz.sizeOf29 rfl (hS27.blk 1 rfl) (fun h => h)) ?_
  refine lq rfl (q_build (v := Vg #[I (0), I (0)]) rfl par0 (fun w__ => by kernel_rfl)) ?_
  refine lo rfl ?_
  refine e_storeBlkA (cs' := #[vo]) rfl y4 rfl Tryz.sizeOf29 rfl rfl (fa ((oneCell_rdL (hS27.rowl 0 rfl))) fe) (hS27.front 4 rfl) (fun H99 hS100 hxx => ?_)
  refine lo rfl ?_
  refine e_storeBlkA (cs' := #[I (0), I (0)]) rfl y5 rfl Tryz.sizeOf32 rfl rfl (fa rfl (fa rfl fe)) (hS100.front 4 rfl) (fun H101 hS102 hxx => ?_)
  refine wpL_nil ?_
  refine wpF_ret ?_
  refine ⟨_, resC y4 (loadV_blkA Tryz.isAgg29 Tryz.sizeOf29 rfl (hS102.blk 1 rfl)) (resC y5 (loadV_blkA Tryz.isAgg32 Tryz.sizeOf32 rfl (hS102.blk 0 rfl)) (resN)), hS102.frame, ?_⟩
  show ∃ w_, (Value.tuple #[Vg #[vo], Vg #[I (0), I (0)]]) = Value.tuple #[Vg #[w_], Vg #[I (downF a w).1, I (downF a w).2]] ∧ Rd (SZ S H0) H101 w_ (downW a w).Means
  have hS103 : St H0 NoB (SZ S H0) [rdE vo (downTo a w a.Decls.length), bE g10 #[I (0), I (0)] 32, bE g7 #[vo] 29, bE g23 #[vo] 29, bE g16 #[I (((meanF a w)).1), I (((meanF a w)).2)] 32, bE g4 #[vM] 29, bE g1 #[vD, vN, vH] 26, rdE vD a.Decls, rdE vN a.Nodes, rdE vH a.Hold, rdE vM w.Means] H101 := St.fin (hS102.front 2 rfl)
  have hq_ : downF a w = _ := downF_ok h20 hp
  exact ⟨_, by rw [hq_], by rw [downW_ok hq_]; exact (hS103.result (hS103.rdS 0 rfl))⟩
 have hdl := downTo_len (a := a) (w := w) (k := k)
 refine wpF_skip ?_
 refine sc (fun f H => ∃ (vo2 : Value), (¬ downMuch a w k) ∧ f 3 = PT g4 0 ∧ f 4 = PT g7 0 ∧ f 5 = PT g10 0 ∧ f 7 = PT g23 0 ∧ f 24 = vD ∧ f 25 = I ((a.Decls.length : Int)) ∧ f 26 = I ((k : Int)) ∧ St H0 NoB (SZ S H0) [rowE 62 vo2 (downTo a w (k + 1) : List Meaning), bE g23 #[vo2] 29, bE g16 #[I (((meanF a w)).1), I (((meanF a w)).2)] 32, bE g10 #[I (0), I (0)] 32, bE g7 #[nS] 29, bE g4 #[vM] 29, bE g1 #[vD, vN, vH] 26, rdE vD a.Decls, rdE vN a.Nodes, rdE vH a.Hold, rdE vM w.Means] H) ?_ ?_
 ·refine wpF_block ?_
  refine wpF_seq ?_
  refine wpF_region ?_
  refine lm (v := I ((k : Int))) rfl rfl y26 ?_
  refine lq rfl (q_indexRd (k := k) rfl Tryz.underlying22 el_Decl_43_ArrD1 y24 y26 (hS27.rdl 7 rfl) (by omega) (by omega)) ?_
  obtain ⟨u30, huu30, hlu30⟩ := (Rd.list.1 (hS27.rdS 7 rfl)).elem k (by omega)
  obtain ⟨u30n1, rfl, hu300, hu301, hu302⟩ := Rd.decl.1 huu30
  have hS31 := hS27.rd hu301
  refine lq rfl (q_loadE rfl rfl (hlu30 Tryz.prog 43 _ el_Decl_43_ArrD1 (fun _ h => False.elim h))) ?_
  refine lo rfl ?_
  refine e_alloc rfl Tryz.zeroValue43 hS31 (fun g32 H33 hS34 hxx => ?_)
  refine la (v := I ((k : Int))) rfl rfl rfl ?_
  refine lo rfl ?_
  refine e_storeBlkA (cs' := #[SB ((nth a.Decls k).Name), u30n1, I ((nth a.Decls k).Srt)]) rfl rfl rfl Tryz.sizeOf43 rfl rfl (fa rfl (fa ((oneCell_rdL (hS34.rdl 1 rfl))) (fa rfl fe))) hS34 (fun H35 hS36 hxx => ?_)
  refine wpL_nil ?_
  refine wpF_seq ?_
  refine wpF_region ?_
  refine lq rfl (q_fieldAddr rfl Tryz.underlying29 rfl Tryz.sizeOf27 y3) ?_
  refine lq rfl (q_loadBlk rfl rfl Tryz.isAgg27 (hS36.blk 7 rfl) rfl (fun h => h)) ?_
  refine lm (v := I ((k : Int))) rfl rfl rfl ?_
  refine lq rfl (q_indexRd (k := k) rfl Tryz.underlying27 el_Meaning_62_ArrD1 rfl rfl (hS36.rdl 12 rfl) (by omega) (by omega)) ?_
  obtain ⟨u37, huu37, hlu37⟩ := (Rd.list.1 (hS36.rdS 12 rfl)).elem k (by omega)
  obtain ⟨u37n0, u37n3, rfl, hu370, hu371, hu372, hu373, hu374⟩ := Rd.meaning.1 huu37
  have hS38 := hS36.rd hu370
  have hS39 : St H0 NoB (SZ S H0) [rdE u37n3 ((nth w.Means k).MCells), rdE u37n0 ((nth w.Means k).Rows), bE g32 #[SB ((nth a.Decls k).Name), u30n1, I ((nth a.Decls k).Srt)] 43, rdE u30n1 ((nth a.Decls k).Args), rowE 62 vo (downTo a w k : List Meaning), bE g23 #[vo] 29, bE g16 #[I (((meanF a w)).1), I (((meanF a w)).2)] 32, bE g10 #[I (0), I (0)] 32, bE g7 #[nS] 29, bE g4 #[vM] 29, bE g1 #[vD, vN, vH] 26, rdE vD a.Decls, rdE vN a.Nodes, rdE vH a.Hold, rdE vM w.Means] H35 := hS38.rd (hu373.sub fun _ hb => SL_rd hb)
  refine lq rfl (q_loadE rfl rfl (hlu37 Tryz.prog 62 _ el_Meaning_62_ArrD1 (fun _ h => False.elim h))) ?_
  refine lo rfl ?_
  refine e_alloc rfl Tryz.zeroValue62 hS39 (fun g40 H41 hS42 hxx => ?_)
  refine lo rfl ?_
  refine e_storeBlkA (cs' := #[u37n0, I ((nth w.Means k).MNum), I ((nth w.Means k).MDen), u37n3, I ((nth w.Means k).MRest)]) rfl rfl rfl Tryz.sizeOf62 rfl rfl (fa ((oneCell_rdL (hS42.rdl 2 rfl))) (fa rfl (fa rfl (fa ((oneCell_rdL (hS42.rdl 1 rfl))) (fa rfl fe))))) hS42 (fun H43 hS44 hxx => ?_)
  refine wpL_nil ?_
  refine wpF_seq ?_
  refine wpF_seq ?_
  refine wpF_region ?_
  refine lq rfl (q_fieldAddr rfl Tryz.underlying43 rfl Tryz.sizeOf3 rfl) ?_
  refine lq rfl (q_loadBlk rfl rfl Tryz.isAgg3 (hS44.blk 3 rfl) rfl (fun h => h)) ?_
  refine lq rfl (q_neq rfl rfl rfl) ?_
  refine wpL_nil ?_
  refine wpF_condP rfl (fun h38 => ?t98) (fun h38 => ?e98)
  case t98 =>
   refine wpF_seq ?_
   refine wpF_drawn [none, none, none, none, none, some 0, none, some 1] [[], [], [], [], [], [], [], []] (fun l b => match l with | 0 => True | 1 => True | _ => False) (by kernel_rfl) (by kernel_rfl) ?_
   refine rq 0 (by kernel_rfl) rfl rfl (q_fieldAddr rfl Tryz.underlying29 rfl Tryz.sizeOf27 y7) ?_
   refine rq 1 (by kernel_rfl) rfl rfl (q_loadBlk rfl rfl Tryz.isAgg27 (hS44.blk 6 rfl) rfl (labU_not [] rfl (fe))) ?_
   refine rq 2 (by kernel_rfl) rfl rfl (q_loadBlkA rfl rfl Tryz.isAgg62 Tryz.sizeOf62 rfl (hS44.blk 0 rfl) (labU_not [] rfl (fe))) ?_
   refine wpR_n [3] (by kernel_rfl) ?_
   refine fa ?_ fe
   refine exE rfl rfl ?_
   refine e_call rfl Tryz.call16 (arr1 (v0 := Vg #[u37n0, I ((nth w.Means k).MNum), I ((nth w.Means k).MDen), u37n3, I ((nth w.Means k).MRest)]) rfl) (Copied_A u37n0 u37n3 (nth w.Means k) (hS44.rdS 2 rfl) (by first | assumption | exact bitP_in | exact wrap_in64 | (constructor <;> (dsimp only; omega)) | (constructor <;> omega)) (by first | assumption | exact bitP_in | exact wrap_in64 | (constructor <;> (dsimp only; omega)) | (constructor <;> omega)) (hS44.rdS 1 rfl) (by first | assumption | exact bitP_in | exact wrap_in64 | (constructor <;> (dsimp only; omega)) | (constructor <;> omega))) ?_
   rintro _ H46o3 ⟨hxx, r46o3, r46o3x2, rfl, hrr46o3, hrr46o3x2, h6r46o3a, h6r46o3b, h6r46o3c⟩
   have hS46o3 := (hS44.res2 hxx hrr46o3 hrr46o3x2)
   refine ⟨Ext.mono hxx (fun _ h => h.elim), ?_⟩
   refine wpR_n [4] (by kernel_rfl) ?_
   refine fa ?_ fe
   refine exE rfl rfl ?_
   refine e_buildSlice (vs := [Vg #[r46o3, I ((nth w.Means k).MNum), I ((nth w.Means k).MDen), r46o3x2, I ((nth w.Means k).MRest)]]) (xs := ([(nth w.Means k)] : List Meaning)) rfl Tryz.underlying27 Tryz.zeroValue62 rfl Tryz.sizeOf62 (par1 (v0 := Vg #[r46o3, I ((nth w.Means k).MNum), I ((nth w.Means k).MDen), r46o3x2, I ((nth w.Means k).MRest)]) rfl) rfl hS46o3 (RdVs.cons (Rd.meaning.2 ⟨_, _, rfl, (hS46o3.rdS 0 rfl), (by first | assumption | (constructor <;> (try dsimp only) <;> omega)), (by first | assumption | (constructor <;> (try dsimp only) <;> omega)), (hS46o3.rdS 1 rfl), (by first | assumption | (constructor <;> (try dsimp only) <;> omega))⟩) (RdVs.nil)) (by decide) (by decide) (fun v46o4 H46o4 hS46o4 hxx hvv46o4 => ?_)
   refine ⟨Ext.mono hxx (fun _ h => h.elim), ?_⟩
   refine wpR_n [5] (by kernel_rfl) ?_
   refine fa ?_ fe
   have hS46o5 : St H0 NoB (SZ S H0) [rdE v46o4 ([(nth w.Means k)] : List Meaning), rdE r46o3 ((nth w.Means k).Rows), rdE r46o3x2 ((nth w.Means k).MCells), bE g40 #[u37n0, I ((nth w.Means k).MNum), I ((nth w.Means k).MDen), u37n3, I ((nth w.Means k).MRest)] 62, rdE u37n3 ((nth w.Means k).MCells), rdE u37n0 ((nth w.Means k).Rows), bE g32 #[SB ((nth a.Decls k).Name), u30n1, I ((nth a.Decls k).Srt)] 43, rdE u30n1 ((nth a.Decls k).Args), rowE 62 vo (downTo a w k : List Meaning), bE g23 #[vo] 29, bE g16 #[I (((meanF a w)).1), I (((meanF a w)).2)] 32, bE g10 #[I (0), I (0)] 32, bE g7 #[nS] 29, bE g4 #[vM] 29, bE g1 #[vD, vN, vH] 26, rdE vD a.Decls, rdE vN a.Nodes, rdE vH a.Hold, rdE vM w.Means] H46o4 := St.fin hS46o4
   have hS46o5x2 := (hS46o5.front 8 rfl)
   refine exE rfl rfl ?_
   refine e_append rfl Tryz.underlying27 em_Meaning_62_ArrD1 rfl rfl hS46o5x2 (hS46o5x2.rdS 1 rfl) (fun _ h => h) (by have hb : GoT.bytes Meaning = 72 := rfl; rw [hb]; simp only [List.length_append, List.length_cons, List.length_nil]; omega) (by decide) (fun v46o5 H46o5 hS46o5x3 hxx => ?_)
   have hS46o5x4 : St H0 NoB (SZ S H0) [rowE 62 v46o5 (downTo a w (k + 1) : List Meaning), rdE v46o4 ([(nth w.Means k)] : List Meaning), rdE r46o3 ((nth w.Means k).Rows), rdE r46o3x2 ((nth w.Means k).MCells), bE g40 #[u37n0, I ((nth w.Means k).MNum), I ((nth w.Means k).MDen), u37n3, I ((nth w.Means k).MRest)] 62, rdE u37n3 ((nth w.Means k).MCells), rdE u37n0 ((nth w.Means k).Rows), bE g32 #[SB ((nth a.Decls k).Name), u30n1, I ((nth a.Decls k).Srt)] 43, rdE u30n1 ((nth a.Decls k).Args), bE g23 #[vo] 29, bE g16 #[I (((meanF a w)).1), I (((meanF a w)).2)] 32, bE g10 #[I (0), I (0)] 32, bE g7 #[nS] 29, bE g4 #[vM] 29, bE g1 #[vD, vN, vH] 26, rdE vD a.Decls, rdE vN a.Nodes, rdE vH a.Hold, rdE vM w.Means] H46o5 := by rw [show (downTo a w (k + 1)) = ((downTo a w k) ++ ([(nth w.Means k)])) from (downTo_flat h38).symm]; exact hS46o5x3
   refine ⟨Ext.mono hxx (labS_of 0 rfl (fun _ _ => trivial)), ?_⟩
   refine rq 6 (by kernel_rfl) rfl rfl (q_fieldAddr rfl Tryz.underlying29 rfl Tryz.sizeOf27 y7) ?_
   refine wpR_n [7] (by kernel_rfl) ?_
   refine fa ?_ fe
   refine exE rfl rfl ?_
   refine e_storeBlk (v := v46o5) rfl rfl rfl (oneCell_rdL (hS46o5x4.rowl 0 rfl)) Tryz.sizeOf27 (by show _ < 1; decide) (hS46o5x4.front 9 rfl) (fun H46o7 hS46o7 hxx => ?_)
   refine ⟨Ext.mono hxx (labS_of 1 rfl (fun _ _ => trivial)), ?_⟩
   refine wpR_end (by kernel_rfl) ?_
   skip
   refine wpF_exit ?_
   refine atX_here ?_
   exact ⟨v46o5, (by first | exact fun e => h38 e.1 | exact fun e => h60 e.2), y3, y4, y5, y7, y24, y25, y26, (St.drop (show St H0 NoB (SZ S H0) [rowE 62 v46o5 (downTo a w (k + 1) : List Meaning), bE g23 #[v46o5] 29, rdE v46o4 ([(nth w.Means k)] : List Meaning), rdE r46o3 ((nth w.Means k).Rows), rdE r46o3x2 ((nth w.Means k).MCells), bE g40 #[u37n0, I ((nth w.Means k).MNum), I ((nth w.Means k).MDen), u37n3, I ((nth w.Means k).MRest)] 62, rdE u37n3 ((nth w.Means k).MCells), rdE u37n0 ((nth w.Means k).Rows), bE g32 #[SB ((nth a.Decls k).Name), u30n1, I ((nth a.Decls k).Srt)] 43, rdE u30n1 ((nth a.Decls k).Args), bE g16 #[I (((meanF a w)).1), I (((meanF a w)).2)] 32, bE g10 #[I (0), I (0)] 32, bE g7 #[nS] 29, bE g4 #[vM] 29, bE g1 #[vD, vN, vH] 26, rdE vD a.Decls, rdE vN a.Nodes, rdE vH a.Hold, rdE vM w.Means] H46o7 from (hS46o7.front 1 rfl)) (sk (sk (sn (sn (sn (sn (sn (sn (sn (sn (sk (sk (sk (sk (sk (sk (sk (sk (sk (List.Sublist.slnil)))))))))))))))))))))⟩
  refine wpF_skip ?_
  refine wpF_seq ?_
  refine wpF_region ?_
  refine lq rfl (q_fieldAddr rfl Tryz.underlying62 rfl Tryz.sizeOf60 rfl) ?_
  refine lq rfl (q_loadBlkP (ds := [I ((nth w.Means k).MNum), I ((nth w.Means k).MDen), u37n3, I ((nth w.Means k).MRest)]) rfl rfl Tryz.isAgg60 Tryz.sizeOf60 rfl rfl (hS44.blk 0 rfl) (fun h => h)) ?_
  refine lo rfl ?_
  refine e_alloc rfl Tryz.zeroValue60 hS44 (fun g47 H48 hS49 hxx => ?_)
  refine lo rfl ?_
  refine e_storeBlkA (cs' := #[I ((nth w.Means k).MNum), I ((nth w.Means k).MDen), u37n3, I ((nth w.Means k).MRest)]) rfl rfl rfl Tryz.sizeOf60 rfl rfl (fa rfl (fa rfl (fa ((oneCell_rdL (hS49.rdl 2 rfl))) (fa rfl fe)))) hS49 (fun H50 hS51 hxx => ?_)
  refine wpL_nil ?_
  refine wpF_seq ?_
  refine wpF_seq ?_
  refine wpF_region ?_
  refine lq rfl (q_fieldAddr rfl Tryz.underlying62 rfl Tryz.sizeOf55 rfl) ?_
  refine lq rfl (q_loadBlk rfl rfl Tryz.isAgg55 (hS51.blk 1 rfl) rfl (fun h => h)) ?_
  refine lq rfl (q_lenRd rfl Tryz.underlying55 rfl (hS51.rdl 3 rfl)) ?_
  refine lq rfl (q_gtr rfl rfl rfl) ?_
  refine wpL_nil ?_
  refine wpF_cut (fun f H => ∃ (vC : Value), (In64 (downV (nth w.Means k)).Rest) ∧ f 3 = PT g4 0 ∧ f 4 = PT g7 0 ∧ f 5 = PT g10 0 ∧ f 7 = PT g23 0 ∧ f 8 = I ((k : Int)) ∧ f 11 = PT g47 0 ∧ f 24 = vD ∧ f 25 = I ((a.Decls.length : Int)) ∧ f 26 = I ((k : Int)) ∧ St H0 NoB (SZ S H0) [rdE vC ((downV (nth w.Means k)).Cells), bE g47 #[I ((downV (nth w.Means k)).VNum), I ((downV (nth w.Means k)).VDen), vC, I ((downV (nth w.Means k)).Rest)] 60, bE g32 #[SB ((nth a.Decls k).Name), u30n1, I ((nth a.Decls k).Srt)] 43, rowE 62 vo (downTo a w k : List Meaning), bE g23 #[vo] 29, bE g16 #[I (((meanF a w)).1), I (((meanF a w)).2)] 32, bE g10 #[I (0), I (0)] 32, bE g7 #[nS] 29, bE g4 #[vM] 29, bE g1 #[vD, vN, vH] 26, rdE vD a.Decls, rdE vN a.Nodes, rdE vH a.Hold, rdE vM w.Means] H) ?_ ?_
  ·refine wpF_condP rfl (fun h51 => ?t58) (fun h51 => ?e58)
   case e58 =>
    refine wpF_skip ?_
    exact ⟨u37n3, (by rw [downV_no h51]; exact (by assumption)), y3, y4, y5, y7, rfl, rfl, y24, y25, y26, (by have h__ := (St.drop (show St H0 NoB (SZ S H0) [rdE u37n3 ((nth w.Means k).MCells), bE g47 #[I ((nth w.Means k).MNum), I ((nth w.Means k).MDen), u37n3, I ((nth w.Means k).MRest)] 60, bE g40 #[u37n0, I ((nth w.Means k).MNum), I ((nth w.Means k).MDen), u37n3, I ((nth w.Means k).MRest)] 62, rdE u37n0 ((nth w.Means k).Rows), bE g32 #[SB ((nth a.Decls k).Name), u30n1, I ((nth a.Decls k).Srt)] 43, rdE u30n1 ((nth a.Decls k).Args), rowE 62 vo (downTo a w k : List Meaning), bE g23 #[vo] 29, bE g16 #[I (((meanF a w)).1), I (((meanF a w)).2)] 32, bE g10 #[I (0), I (0)] 32, bE g7 #[nS] 29, bE g4 #[vM] 29, bE g1 #[vD, vN, vH] 26, rdE vD a.Decls, rdE vN a.Nodes, rdE vH a.Hold, rdE vM w.Means] H50 from (hS51.front 2 rfl)) (sk (sk (sn (sn (sk (sn (sk (sk (sk (sk (sk (sk (sk (sk (sk (sk (sk (List.Sublist.slnil))))))))))))))))))); rw [downV_no h51]; exact h__)⟩
   refine wpF_region ?_
   refine lq rfl (q_fieldAddr rfl Tryz.underlying62 rfl Tryz.sizeOf55 rfl) ?_
   refine lq rfl (q_loadBlk rfl rfl Tryz.isAgg55 (hS51.blk 1 rfl) rfl (fun h => h)) ?_
   refine lq rfl (q_indexRd (k := 0) rfl Tryz.underlying55 el_Entry_65_ArrD1 rfl rfl (hS51.rdl 3 rfl) (by omega) (by omega)) ?_
   refine lq rfl (q_fieldE (k := 0) rfl Tryz.underlying65 rfl Tryz.sizeOf60 rfl rfl (hS51.rdl 3 rfl) (by omega)) ?_
   obtain ⟨_, hcu54, hFu54⟩ := RdL.cellsF (Rd.list.1 (hS51.rdS 3 rfl)) 0 (by omega)
   obtain ⟨u54n0, u54n3, rfl, hu540, hu541, hu542, hu543, hu544⟩ := hcu54
   have hS55 : St H0 NoB (SZ S H0) [rdE u54n3 ((nth ((nth w.Means k).Rows) 0).ECells), bE g47 #[I ((nth w.Means k).MNum), I ((nth w.Means k).MDen), u37n3, I ((nth w.Means k).MRest)] 60, bE g40 #[u37n0, I ((nth w.Means k).MNum), I ((nth w.Means k).MDen), u37n3, I ((nth w.Means k).MRest)] 62, rdE u37n3 ((nth w.Means k).MCells), rdE u37n0 ((nth w.Means k).Rows), bE g32 #[SB ((nth a.Decls k).Name), u30n1, I ((nth a.Decls k).Srt)] 43, rdE u30n1 ((nth a.Decls k).Args), rowE 62 vo (downTo a w k : List Meaning), bE g23 #[vo] 29, bE g16 #[I (((meanF a w)).1), I (((meanF a w)).2)] 32, bE g10 #[I (0), I (0)] 32, bE g7 #[nS] 29, bE g4 #[vM] 29, bE g1 #[vD, vN, vH] 26, rdE vD a.Decls, rdE vN a.Nodes, rdE vH a.Hold, rdE vM w.Means] H50 := hS51.rd (Rd.list.2 hu543)
   refine lq rfl (q_loadF rfl rfl (hFu54 1 4 [I ((nth ((nth w.Means k).Rows) 0).ENum), I ((nth ((nth w.Means k).Rows) 0).EDen), u54n3, I ((nth ((nth w.Means k).Rows) 0).ERest)] Tryz.prog 60 _ rfl rfl Tryz.isAgg60 Tryz.sizeOf60 (fun _ h => False.elim h))) ?_
   refine lo rfl ?_
   refine e_storeBlkA (cs' := #[I ((nth ((nth w.Means k).Rows) 0).ENum), I ((nth ((nth w.Means k).Rows) 0).EDen), u54n3, I ((nth ((nth w.Means k).Rows) 0).ERest)]) rfl rfl rfl Tryz.sizeOf60 rfl rfl (fa rfl (fa rfl (fa ((oneCell_rdL (hS55.rdl 0 rfl))) (fa rfl fe)))) (hS55.front 1 rfl) (fun H56 hS57 hxx => ?_)
   refine wpL_nil ?_
   exact ⟨u54n3, (by rw [downV_yes h51]; exact (by assumption)), y3, y4, y5, y7, rfl, rfl, y24, y25, y26, (by have h__ := (St.drop (show St H0 NoB (SZ S H0) [rdE u54n3 ((nth ((nth w.Means k).Rows) 0).ECells), bE g47 #[I ((nth ((nth w.Means k).Rows) 0).ENum), I ((nth ((nth w.Means k).Rows) 0).EDen), u54n3, I ((nth ((nth w.Means k).Rows) 0).ERest)] 60, bE g40 #[u37n0, I ((nth w.Means k).MNum), I ((nth w.Means k).MDen), u37n3, I ((nth w.Means k).MRest)] 62, rdE u37n3 ((nth w.Means k).MCells), rdE u37n0 ((nth w.Means k).Rows), bE g32 #[SB ((nth a.Decls k).Name), u30n1, I ((nth a.Decls k).Srt)] 43, rdE u30n1 ((nth a.Decls k).Args), rowE 62 vo (downTo a w k : List Meaning), bE g23 #[vo] 29, bE g16 #[I (((meanF a w)).1), I (((meanF a w)).2)] 32, bE g10 #[I (0), I (0)] 32, bE g7 #[nS] 29, bE g4 #[vM] 29, bE g1 #[vD, vN, vH] 26, rdE vD a.Decls, rdE vN a.Nodes, rdE vH a.Hold, rdE vM w.Means] H56 from (hS57.front 1 rfl)) (sk (sk (sn (sn (sn (sk (sn (sk (sk (sk (sk (sk (sk (sk (sk (sk (sk (sk (List.Sublist.slnil)))))))))))))))))))); rw [downV_yes h51]; exact h__)⟩
  clear y24 y25 y26 y3 y4 y5 y7
  rintro f52 H52 ⟨vC, h6r, y3, y4, y5, y7, y8, y11, y24, y25, y26, hS52⟩
  refine wpF_seq ?_
  refine wpF_seq ?_
  refine wpF_region ?_
  refine lq rfl (q_fieldAddr rfl Tryz.underlying60 rfl Tryz.sizeOf58 y11) ?_
  refine lq rfl (q_loadBlk rfl rfl Tryz.isAgg58 (hS52.blk 1 rfl) rfl (fun h => h)) ?_
  refine lq rfl (q_lenRd rfl Tryz.underlying58 rfl (hS52.rdl 0 rfl)) ?_
  refine lq rfl (q_gtr rfl rfl rfl) ?_
  refine wpL_nil ?_
  refine wpF_condP rfl (fun h60 => ?t97) (fun h60 => ?e97)
  case t97 =>
   refine wpF_seq ?_
   refine wpF_region ?_
   refine lq rfl (q_build (v := Vg #[nS]) rfl par0 (fun w__ => by kernel_rfl)) ?_
   refine lm (v := I ((k : Int))) rfl rfl y8 ?_
   refine lq rfl (q_build (v := Vg #[I (10), I ((k : Int))]) rfl (par2 (v0 := I (10)) (v1 := I ((k : Int))) rfl rfl) (fun w__ => by kernel_rfl)) ?_
   refine lo rfl ?_
   refine e_storeBlkA (cs' := #[nS]) rfl y4 rfl Tryz.sizeOf29 rfl rfl (fa rfl fe) (hS52.front 7 rfl) (fun H60 hS61 hxx => ?_)
   refine lo rfl ?_
   refine e_storeBlkA (cs' := #[I (10), I ((k : Int))]) rfl y5 rfl Tryz.sizeOf32 rfl rfl (fa rfl (fa rfl fe)) (hS61.front 7 rfl) (fun H62 hS63 hxx => ?_)
   refine wpL_nil ?_
   refine wpF_ret ?_
   refine ⟨_, resC y4 (loadV_blkA Tryz.isAgg29 Tryz.sizeOf29 rfl (hS63.blk 1 rfl)) (resC y5 (loadV_blkA Tryz.isAgg32 Tryz.sizeOf32 rfl (hS63.blk 0 rfl)) (resN)), hS63.frame, ?_⟩
   show ∃ w_, (Value.tuple #[Vg #[nS], Vg #[I (10), I ((k : Int))]]) = Value.tuple #[Vg #[w_], Vg #[I (downF a w).1, I (downF a w).2]] ∧ Rd (SZ S H0) H62 w_ (downW a w).Means
   have hq_ : downF a w = _ := downF_at h20 (by omega) hp ⟨Decidable.of_not_not h38, h60⟩
   exact ⟨_, by rw [hq_], by rw [downW_bad (by rw [hq_]; exact (by decide : (10 : Int) ≠ 0))]; exact rdNil⟩
  refine wpF_skip ?_
  refine wpF_seq ?_
  refine wpF_region ?_
  refine lq rfl (q_fieldAddr rfl Tryz.underlying60 rfl Tryz.sizeOf3 y11) ?_
  refine lq rfl (q_loadBlk rfl rfl Tryz.isAgg3 (hS52.blk 1 rfl) rfl (fun h => h)) ?_
  refine lo rfl ?_
  refine e_call rfl Tryz.call25 (arr1 (v0 := I ((downV (nth w.Means k)).Rest)) rfl) (thing_A ((downV (nth w.Means k)).Rest)) ?_
  rintro _ H64 ⟨hxx, rfl⟩
  have hS65 := hS52.ext hxx
  refine lq rfl (q_build (v := Vg #[nS, I ((downV (nth w.Means k)).Rest), I (1), nS, I (0)]) rfl (par1 (v0 := Vg #[I ((downV (nth w.Means k)).Rest), I (1), nS, I (0)]) rfl) (fun w__ => by kernel_rfl)) ?_
  refine lo rfl ?_
  refine e_alloc rfl Tryz.zeroValue62 hS65 (fun g67 H68 hS69 hxx => ?_)
  refine lo rfl ?_
  refine e_storeBlkA (cs' := #[nS, I ((downV (nth w.Means k)).Rest), I (1), nS, I (0)]) rfl rfl rfl Tryz.sizeOf62 rfl rfl (fa rfl (fa rfl (fa rfl (fa rfl (fa rfl fe))))) hS69 (fun H70 hS71 hxx => ?_)
  refine wpL_nil ?_
  have hS72 : St H0 NoB (SZ S H0) [rowE 65 nS ([] : List Entry), bE g67 #[nS, I ((downV (nth w.Means k)).Rest), I (1), nS, I (0)] 62, rdE vC ((downV (nth w.Means k)).Cells), bE g47 #[I ((downV (nth w.Means k)).VNum), I ((downV (nth w.Means k)).VDen), vC, I ((downV (nth w.Means k)).Rest)] 60, bE g32 #[SB ((nth a.Decls k).Name), u30n1, I ((nth a.Decls k).Srt)] 43, rowE 62 vo (downTo a w k : List Meaning), bE g23 #[vo] 29, bE g16 #[I (((meanF a w)).1), I (((meanF a w)).2)] 32, bE g10 #[I (0), I (0)] 32, bE g7 #[nS] 29, bE g4 #[vM] 29, bE g1 #[vD, vN, vH] 26, rdE vD a.Decls, rdE vN a.Nodes, rdE vH a.Hold, rdE vM w.Means] H70 := hS71.row0 65
  refine wpF_seq ?_
  refine wpF_seq ?_
  refine wpF_region ?_
  refine lq rfl (q_fieldAddr rfl Tryz.underlying60 rfl Tryz.sizeOf58 y11) ?_
  refine lq rfl (q_loadBlk rfl rfl Tryz.isAgg58 (hS72.blk 3 rfl) rfl (fun h => h)) ?_
  refine lq rfl (q_lenRd rfl Tryz.underlying58 rfl (hS72.rdl 2 rfl)) ?_
  refine lm (v := I (0)) rfl rfl rfl ?_
  refine wpL_nil ?_
  refine wpF_block ?_
  refine wpF_loop (fun mz f H => ∃ (j : Nat), ∃ (vE : Value), mz = (downV (nth w.Means k)).Cells.length - j ∧ (j ≤ (downV (nth w.Means k)).Cells.length) ∧ f 3 = PT g4 0 ∧ f 4 = PT g7 0 ∧ f 5 = PT g10 0 ∧ f 7 = PT g23 0 ∧ f 12 = PT g67 0 ∧ f 24 = vD ∧ f 25 = I ((a.Decls.length : Int)) ∧ f 26 = I ((k : Int)) ∧ f 69 = vC ∧ f 70 = I ((((downV (nth w.Means k)).Cells).length : Int)) ∧ f 71 = I ((j : Int)) ∧ St H0 NoB (SZ S H0) [rowE 65 vE (((downV (nth w.Means k)).Cells.take j).map cellE : List Entry), bE g67 #[vE, I ((downV (nth w.Means k)).Rest), I (1), nS, I (0)] 62, rdE vC ((downV (nth w.Means k)).Cells), bE g47 #[I ((downV (nth w.Means k)).VNum), I ((downV (nth w.Means k)).VDen), vC, I ((downV (nth w.Means k)).Rest)] 60, bE g32 #[SB ((nth a.Decls k).Name), u30n1, I ((nth a.Decls k).Srt)] 43, rowE 62 vo (downTo a w k : List Meaning), bE g23 #[vo] 29, bE g16 #[I (((meanF a w)).1), I (((meanF a w)).2)] 32, bE g10 #[I (0), I (0)] 32, bE g7 #[nS] 29, bE g4 #[vM] 29, bE g1 #[vD, vN, vH] 26, rdE vD a.Decls, rdE vN a.Nodes, rdE vH a.Hold, rdE vM w.Means] H) ((downV (nth w.Means k)).Cells.length - 0) ?_ ?_
  ·exact ⟨0, nS, rfl, Nat.zero_le _, y3, y4, y5, y7, rfl, y24, y25, y26, rfl, rfl, (Eq.trans rfl (congrArg I (by omega))), (show St H0 NoB (SZ S H0) [rowE 65 nS (((downV (nth w.Means k)).Cells.take 0).map cellE : List Entry), bE g67 #[nS, I ((downV (nth w.Means k)).Rest), I (1), nS, I (0)] 62, rdE vC ((downV (nth w.Means k)).Cells), bE g47 #[I ((downV (nth w.Means k)).VNum), I ((downV (nth w.Means k)).VDen), vC, I ((downV (nth w.Means k)).Rest)] 60, bE g32 #[SB ((nth a.Decls k).Name), u30n1, I ((nth a.Decls k).Srt)] 43, rowE 62 vo (downTo a w k : List Meaning), bE g23 #[vo] 29, bE g16 #[I (((meanF a w)).1), I (((meanF a w)).2)] 32, bE g10 #[I (0), I (0)] 32, bE g7 #[nS] 29, bE g4 #[vM] 29, bE g1 #[vD, vN, vH] 26, rdE vD a.Decls, rdE vN a.Nodes, rdE vH a.Hold, rdE vM w.Means] H70 from hS72)⟩
  intro m73 f73 H73 hI73
  clear y24 y25 y26 y3 y4 y5 y7
  obtain ⟨j, vE, hm73, hj, y3, y4, y5, y7, y12, y24, y25, y26, y69, y70, y71, hS73⟩ := hI73
  refine wpF_seq ?_
  refine wpF_region ?_
  refine lq rfl (q_lss rfl y71 y70) ?_
  refine wpL_nil ?_
  refine wpF_seq ?_
  refine wpF_condP rfl (fun hltj => ?t96) (fun hltj => ?e96)
  case e96 =>
   have hS75 : St H0 NoB (SZ S H0) [rowE 65 vE ((downV (nth w.Means k)).Cells.map cellE : List Entry), bE g67 #[vE, I ((downV (nth w.Means k)).Rest), I (1), nS, I (0)] 62, rdE vC ((downV (nth w.Means k)).Cells), bE g47 #[I ((downV (nth w.Means k)).VNum), I ((downV (nth w.Means k)).VDen), vC, I ((downV (nth w.Means k)).Rest)] 60, bE g32 #[SB ((nth a.Decls k).Name), u30n1, I ((nth a.Decls k).Srt)] 43, rowE 62 vo (downTo a w k : List Meaning), bE g23 #[vo] 29, bE g16 #[I (((meanF a w)).1), I (((meanF a w)).2)] 32, bE g10 #[I (0), I (0)] 32, bE g7 #[nS] 29, bE g4 #[vM] 29, bE g1 #[vD, vN, vH] 26, rdE vD a.Decls, rdE vN a.Nodes, rdE vH a.Hold, rdE vM w.Means] H73 := by have h__ := hS73; rw [List.take_of_length_le (show (downV (nth w.Means k)).Cells.length ≤ j by omega)] at h__; exact h__
   refine wpF_exit ?_
   refine atX_here ?_
   refine wpF_region ?_
   refine lq rfl (q_fieldAddr rfl Tryz.underlying29 rfl Tryz.sizeOf27 y7) ?_
   refine lq rfl (q_loadBlk rfl rfl Tryz.isAgg27 (hS75.blk 6 rfl) rfl (fun h => h)) ?_
   refine lq rfl (q_loadBlkA rfl y12 Tryz.isAgg62 Tryz.sizeOf62 rfl (hS75.blk 1 rfl) (fun h => h)) ?_
   have hS84 : St H0 NoB (SZ S H0) [rdE vE ((downV (nth w.Means k)).Cells.map cellE), bE g67 #[vE, I ((downV (nth w.Means k)).Rest), I (1), nS, I (0)] 62, rdE vC ((downV (nth w.Means k)).Cells), bE g47 #[I ((downV (nth w.Means k)).VNum), I ((downV (nth w.Means k)).VDen), vC, I ((downV (nth w.Means k)).Rest)] 60, bE g32 #[SB ((nth a.Decls k).Name), u30n1, I ((nth a.Decls k).Srt)] 43, rowE 62 vo (downTo a w k : List Meaning), bE g23 #[vo] 29, bE g16 #[I (((meanF a w)).1), I (((meanF a w)).2)] 32, bE g10 #[I (0), I (0)] 32, bE g7 #[nS] 29, bE g4 #[vM] 29, bE g1 #[vD, vN, vH] 26, rdE vD a.Decls, rdE vN a.Nodes, rdE vH a.Hold, rdE vM w.Means] H73 := St.fin hS75
   refine lo rfl ?_
   refine e_buildSlice (vs := [Vg #[vE, I ((downV (nth w.Means k)).Rest), I (1), nS, I (0)]]) (xs := ([(Meaning.mk ((downV (nth w.Means k)).Cells.map cellE) ((downV (nth w.Means k)).Rest) 1 ([]) 0)] : List Meaning)) rfl Tryz.underlying27 Tryz.zeroValue62 rfl Tryz.sizeOf62 (par1 (v0 := Vg #[vE, I ((downV (nth w.Means k)).Rest), I (1), nS, I (0)]) rfl) rfl hS84 (RdVs.cons (Rd.meaning.2 ⟨_, _, rfl, (hS84.rdS 0 rfl), (by first | assumption | (constructor <;> (try dsimp only) <;> omega)), (by first | assumption | (constructor <;> (try dsimp only) <;> omega)), rdNil, (by first | assumption | (constructor <;> (try dsimp only) <;> omega))⟩) (RdVs.nil)) (by decide) (by decide) (fun v85 H86 hS87 hxx hvv85 => ?_)
   have hS88 : St H0 NoB (SZ S H0) [rdE v85 ([(Meaning.mk ((downV (nth w.Means k)).Cells.map cellE) ((downV (nth w.Means k)).Rest) 1 ([]) 0)] : List Meaning), rdE vE ((downV (nth w.Means k)).Cells.map cellE), bE g67 #[vE, I ((downV (nth w.Means k)).Rest), I (1), nS, I (0)] 62, rdE vC ((downV (nth w.Means k)).Cells), bE g47 #[I ((downV (nth w.Means k)).VNum), I ((downV (nth w.Means k)).VDen), vC, I ((downV (nth w.Means k)).Rest)] 60, bE g32 #[SB ((nth a.Decls k).Name), u30n1, I ((nth a.Decls k).Srt)] 43, rowE 62 vo (downTo a w k : List Meaning), bE g23 #[vo] 29, bE g16 #[I (((meanF a w)).1), I (((meanF a w)).2)] 32, bE g10 #[I (0), I (0)] 32, bE g7 #[nS] 29, bE g4 #[vM] 29, bE g1 #[vD, vN, vH] 26, rdE vD a.Decls, rdE vN a.Nodes, rdE vH a.Hold, rdE vM w.Means] H86 := St.fin hS87
   have hS89 := (hS88.front 6 rfl)
   refine lo rfl ?_
   refine e_append rfl Tryz.underlying27 em_Meaning_62_ArrD1 rfl rfl hS89 (hS89.rdS 1 rfl) (fun _ h => h) (by have hb : GoT.bytes Meaning = 72 := rfl; rw [hb]; simp only [List.length_append, List.length_cons, List.length_nil]; omega) (by decide) (fun v90 H91 hS92 hxx => ?_)
   have hS93 : St H0 NoB (SZ S H0) [rowE 62 v90 (downTo a w (k + 1) : List Meaning), rdE v85 ([(Meaning.mk ((downV (nth w.Means k)).Cells.map cellE) ((downV (nth w.Means k)).Rest) 1 ([]) 0)] : List Meaning), rdE vE ((downV (nth w.Means k)).Cells.map cellE), bE g67 #[vE, I ((downV (nth w.Means k)).Rest), I (1), nS, I (0)] 62, rdE vC ((downV (nth w.Means k)).Cells), bE g47 #[I ((downV (nth w.Means k)).VNum), I ((downV (nth w.Means k)).VDen), vC, I ((downV (nth w.Means k)).Rest)] 60, bE g32 #[SB ((nth a.Decls k).Name), u30n1, I ((nth a.Decls k).Srt)] 43, bE g23 #[vo] 29, bE g16 #[I (((meanF a w)).1), I (((meanF a w)).2)] 32, bE g10 #[I (0), I (0)] 32, bE g7 #[nS] 29, bE g4 #[vM] 29, bE g1 #[vD, vN, vH] 26, rdE vD a.Decls, rdE vN a.Nodes, rdE vH a.Hold, rdE vM w.Means] H91 := by rw [show (downTo a w (k + 1)) = ((downTo a w k) ++ ([(Meaning.mk ((downV (nth w.Means k)).Cells.map cellE) ((downV (nth w.Means k)).Rest) 1 ([]) 0)])) from (downTo_arr h38).symm]; exact hS92
   refine lq rfl (q_fieldAddr rfl Tryz.underlying29 rfl Tryz.sizeOf27 y7) ?_
   refine lo rfl ?_
   refine e_storeBlk (v := v90) rfl rfl rfl (oneCell_rdL (hS93.rowl 0 rfl)) Tryz.sizeOf27 (by show _ < 1; decide) (hS93.front 7 rfl) (fun H94 hS95 hxx => ?_)
   refine wpL_nil ?_
   exact ⟨v90, (by first | exact fun e => h38 e.1 | exact fun e => h60 e.2), y3, y4, y5, y7, y24, y25, y26, (St.drop (show St H0 NoB (SZ S H0) [rowE 62 v90 (downTo a w (k + 1) : List Meaning), bE g23 #[v90] 29, rdE v85 ([(Meaning.mk ((downV (nth w.Means k)).Cells.map cellE) ((downV (nth w.Means k)).Rest) 1 ([]) 0)] : List Meaning), rdE vE ((downV (nth w.Means k)).Cells.map cellE), bE g67 #[vE, I ((downV (nth w.Means k)).Rest), I (1), nS, I (0)] 62, rdE vC ((downV (nth w.Means k)).Cells), bE g47 #[I ((downV (nth w.Means k)).VNum), I ((downV (nth w.Means k)).VDen), vC, I ((downV (nth w.Means k)).Rest)] 60, bE g32 #[SB ((nth a.Decls k).Name), u30n1, I ((nth a.Decls k).Srt)] 43, bE g16 #[I (((meanF a w)).1), I (((meanF a w)).2)] 32, bE g10 #[I (0), I (0)] 32, bE g7 #[nS] 29, bE g4 #[vM] 29, bE g1 #[vD, vN, vH] 26, rdE vD a.Decls, rdE vN a.Nodes, rdE vH a.Hold, rdE vM w.Means] H94 from (hS95.front 1 rfl)) (sk (sk (sn (sn (sn (sn (sn (sn (sk (sk (sk (sk (sk (sk (sk (sk (sk (List.Sublist.slnil)))))))))))))))))))⟩
  refine wpF_skip ?_
  refine wpF_seq ?_
  refine wpF_block ?_
  refine wpF_seq ?_
  refine wpF_region ?_
  refine lq rfl (q_indexRd (k := j) rfl Tryz.underlying58 el_Cell_67_ArrD1 y69 y71 (hS73.rdl 2 rfl) (by omega) (by omega)) ?_
  obtain ⟨u76, huu76, hlu76⟩ := (Rd.list.1 (hS73.rdS 2 rfl)).elem j (by omega)
  obtain ⟨rfl, hu760, hu761⟩ := Rd.cell.1 huu76
  refine lq rfl (q_loadE rfl rfl (hlu76 Tryz.prog 67 _ el_Cell_67_ArrD1 (fun _ h => False.elim h))) ?_
  refine lo rfl ?_
  refine e_alloc rfl Tryz.zeroValue67 hS73 (fun g77 H78 hS79 hxx => ?_)
  refine lo rfl ?_
  refine e_storeBlkA (cs' := #[I ((nth ((downV (nth w.Means k)).Cells) j).At), I ((nth ((downV (nth w.Means k)).Cells) j).It)]) rfl rfl rfl Tryz.sizeOf67 rfl rfl (fa rfl (fa rfl fe)) hS79 (fun H80 hS81 hxx => ?_)
  refine wpL_nil ?_
  refine wpF_cut (fun f H => ∃ (v82o10 : Value), f 3 = PT g4 0 ∧ f 4 = PT g7 0 ∧ f 5 = PT g10 0 ∧ f 7 = PT g23 0 ∧ f 12 = PT g67 0 ∧ f 24 = vD ∧ f 25 = I ((a.Decls.length : Int)) ∧ f 26 = I ((k : Int)) ∧ f 69 = vC ∧ f 70 = I ((((downV (nth w.Means k)).Cells).length : Int)) ∧ f 71 = I ((j : Int)) ∧ St H0 NoB (SZ S H0) [bE g67 #[v82o10, I ((downV (nth w.Means k)).Rest), I (1), nS, I (0)] 62, rowE 65 v82o10 (((downV (nth w.Means k)).Cells.take (j + 1)).map cellE : List Entry), bE g77 #[I ((nth ((downV (nth w.Means k)).Cells) j).At), I ((nth ((downV (nth w.Means k)).Cells) j).It)] 67, rdE vC ((downV (nth w.Means k)).Cells), bE g47 #[I ((downV (nth w.Means k)).VNum), I ((downV (nth w.Means k)).VDen), vC, I ((downV (nth w.Means k)).Rest)] 60, bE g32 #[SB ((nth a.Decls k).Name), u30n1, I ((nth a.Decls k).Srt)] 43, rowE 62 vo (downTo a w k : List Meaning), bE g23 #[vo] 29, bE g16 #[I (((meanF a w)).1), I (((meanF a w)).2)] 32, bE g10 #[I (0), I (0)] 32, bE g7 #[nS] 29, bE g4 #[vM] 29, bE g1 #[vD, vN, vH] 26, rdE vD a.Decls, rdE vN a.Nodes, rdE vH a.Hold, rdE vM w.Means] H) ?_ ?_
  ·refine wpF_drawn [none, none, none, none, none, none, none, none, none, none, some 0, none, some 1] [[], [], [], [], [], [], [], [], [], [], [], [], []] (fun l b => match l with | 0 => True | 1 => True | _ => False) (by kernel_rfl) (by kernel_rfl) ?_
   refine rq 0 (by kernel_rfl) rfl rfl (q_fieldAddr rfl Tryz.underlying62 rfl Tryz.sizeOf55 y12) ?_
   refine rq 1 (by kernel_rfl) rfl rfl (q_loadBlk rfl rfl Tryz.isAgg55 (hS81.blk 2 rfl) rfl (labU_not [] rfl (fe))) ?_
   refine rq 2 (by kernel_rfl) rfl rfl (q_fieldAddr rfl Tryz.underlying67 rfl Tryz.sizeOf3 rfl) ?_
   refine rq 3 (by kernel_rfl) rfl rfl (q_loadBlk rfl rfl Tryz.isAgg3 (hS81.blk 0 rfl) rfl (labU_not [] rfl (fe))) ?_
   refine rq 5 (by kernel_rfl) rfl rfl (q_fieldAddr rfl Tryz.underlying67 rfl Tryz.sizeOf3 rfl) ?_
   refine rq 6 (by kernel_rfl) rfl rfl (q_loadBlk rfl rfl Tryz.isAgg3 (hS81.blk 0 rfl) rfl (labU_not [] rfl (fe))) ?_
   refine wpR_n [4, 7] (by kernel_rfl) ?_
   refine fa ?_ (fa ?_ fe)
   ·refine exE rfl rfl ?_
    refine e_buildSlice (vs := [I ((nth ((downV (nth w.Means k)).Cells) j).At)]) (xs := ([(nth ((downV (nth w.Means k)).Cells) j).At] : List Int)) rfl Tryz.underlying24 Tryz.zeroValue3 rfl Tryz.sizeOf3 (par1 (v0 := I ((nth ((downV (nth w.Means k)).Cells) j).At)) rfl) rfl hS81 (RdVs.cons (Rd.int.2 ⟨rfl, by first | assumption | (constructor <;> (dsimp only; omega)) | (constructor <;> omega)⟩) (RdVs.nil)) (by decide) (by decide) (fun v82o4 H82o4 hS82o4 hxx hvv82o4 => ?_)
    refine ⟨Ext.mono hxx (fun _ h => h.elim), ?_⟩
    refine wpR_n [7] (by kernel_rfl) ?_
    refine fa ?_ fe
    refine exE rfl rfl ?_
    refine e_call rfl Tryz.call25 (arr1 (v0 := I ((nth ((downV (nth w.Means k)).Cells) j).It)) rfl) (thing_A ((nth ((downV (nth w.Means k)).Cells) j).It)) ?_
    rintro _ H82o7 ⟨hxx, rfl⟩
    have hS82o7 := hS82o4.ext hxx
    refine ⟨Ext.mono hxx (fun _ h => h.elim), ?_⟩
    refine rq 8 (by kernel_rfl) rfl rfl (q_build (v := Vg #[v82o4, I ((nth ((downV (nth w.Means k)).Cells) j).It), I (1), nS, I (0)]) rfl (par2 (v0 := v82o4) (v1 := Vg #[I ((nth ((downV (nth w.Means k)).Cells) j).It), I (1), nS, I (0)]) rfl rfl) ((hS82o7.rowl 0 rfl).slc (fun zz0 => ∀ w__, (Instr.build 65 #[(0, zz0), (1, Vg #[I ((nth ((downV (nth w.Means k)).Cells) j).It), I (1), nS, I (0)])]).run Tryz.prog w__ = .ok (Vg #[zz0, I ((nth ((downV (nth w.Means k)).Cells) j).It), I (1), nS, I (0)]) w__) (fun a0 n0 c0 => (fun w__ => by kernel_rfl)))) ?_
    refine wpR_n [9] (by kernel_rfl) ?_
    refine fa ?_ fe
    have hS82o9 : St H0 NoB (SZ S H0) [rdE v82o4 ([(nth ((downV (nth w.Means k)).Cells) j).At] : List Int), bE g77 #[I ((nth ((downV (nth w.Means k)).Cells) j).At), I ((nth ((downV (nth w.Means k)).Cells) j).It)] 67, rowE 65 vE (((downV (nth w.Means k)).Cells.take j).map cellE : List Entry), bE g67 #[vE, I ((downV (nth w.Means k)).Rest), I (1), nS, I (0)] 62, rdE vC ((downV (nth w.Means k)).Cells), bE g47 #[I ((downV (nth w.Means k)).VNum), I ((downV (nth w.Means k)).VDen), vC, I ((downV (nth w.Means k)).Rest)] 60, bE g32 #[SB ((nth a.Decls k).Name), u30n1, I ((nth a.Decls k).Srt)] 43, rowE 62 vo (downTo a w k : List Meaning), bE g23 #[vo] 29, bE g16 #[I (((meanF a w)).1), I (((meanF a w)).2)] 32, bE g10 #[I (0), I (0)] 32, bE g7 #[nS] 29, bE g4 #[vM] 29, bE g1 #[vD, vN, vH] 26, rdE vD a.Decls, rdE vN a.Nodes, rdE vH a.Hold, rdE vM w.Means] H82o7 := St.fin hS82o7
    refine exE rfl rfl ?_
    refine e_buildSlice (vs := [Vg #[v82o4, I ((nth ((downV (nth w.Means k)).Cells) j).It), I (1), nS, I (0)]]) (xs := ([(Entry.mk ([(nth ((downV (nth w.Means k)).Cells) j).At]) ((nth ((downV (nth w.Means k)).Cells) j).It) 1 ([]) 0)] : List Entry)) rfl Tryz.underlying55 Tryz.zeroValue65 rfl Tryz.sizeOf65 (par1 (v0 := Vg #[v82o4, I ((nth ((downV (nth w.Means k)).Cells) j).It), I (1), nS, I (0)]) rfl) rfl hS82o9 (RdVs.cons (Rd.entry.2 ⟨_, _, rfl, (hS82o9.rdS 0 rfl), (by first | assumption | (constructor <;> (try dsimp only) <;> omega)), (by first | assumption | (constructor <;> (try dsimp only) <;> omega)), rdNil, (by first | assumption | (constructor <;> (try dsimp only) <;> omega))⟩) (RdVs.nil)) (by decide) (by decide) (fun v82o9 H82o9 hS82o9x2 hxx hvv82o9 => ?_)
    refine ⟨Ext.mono hxx (fun _ h => h.elim), ?_⟩
    refine wpR_n [10] (by kernel_rfl) ?_
    refine fa ?_ fe
    have hS82o10 : St H0 NoB (SZ S H0) [rdE v82o9 ([(Entry.mk ([(nth ((downV (nth w.Means k)).Cells) j).At]) ((nth ((downV (nth w.Means k)).Cells) j).It) 1 ([]) 0)] : List Entry), rdE v82o4 ([(nth ((downV (nth w.Means k)).Cells) j).At] : List Int), bE g77 #[I ((nth ((downV (nth w.Means k)).Cells) j).At), I ((nth ((downV (nth w.Means k)).Cells) j).It)] 67, rowE 65 vE (((downV (nth w.Means k)).Cells.take j).map cellE : List Entry), bE g67 #[vE, I ((downV (nth w.Means k)).Rest), I (1), nS, I (0)] 62, rdE vC ((downV (nth w.Means k)).Cells), bE g47 #[I ((downV (nth w.Means k)).VNum), I ((downV (nth w.Means k)).VDen), vC, I ((downV (nth w.Means k)).Rest)] 60, bE g32 #[SB ((nth a.Decls k).Name), u30n1, I ((nth a.Decls k).Srt)] 43, rowE 62 vo (downTo a w k : List Meaning), bE g23 #[vo] 29, bE g16 #[I (((meanF a w)).1), I (((meanF a w)).2)] 32, bE g10 #[I (0), I (0)] 32, bE g7 #[nS] 29, bE g4 #[vM] 29, bE g1 #[vD, vN, vH] 26, rdE vD a.Decls, rdE vN a.Nodes, rdE vH a.Hold, rdE vM w.Means] H82o9 := St.fin hS82o9x2
    have hS82o10x2 := (hS82o10.front 3 rfl)
    refine exE rfl rfl ?_
    refine e_append rfl Tryz.underlying55 em_Entry_65_ArrD1 rfl rfl hS82o10x2 (hS82o10x2.rdS 1 rfl) (fun _ h => h) (by have hb : GoT.bytes Entry = 72 := rfl; rw [hb]; simp only [List.length_append, List.length_map, List.length_take, List.length_cons, List.length_nil]; omega) (by decide) (fun v82o10 H82o10 hS82o10x3 hxx => ?_)
    have hS82o10x4 : St H0 NoB (SZ S H0) [rowE 65 v82o10 (((downV (nth w.Means k)).Cells.take (j + 1)).map cellE : List Entry), rdE v82o9 ([(Entry.mk ([(nth ((downV (nth w.Means k)).Cells) j).At]) ((nth ((downV (nth w.Means k)).Cells) j).It) 1 ([]) 0)] : List Entry), rdE v82o4 ([(nth ((downV (nth w.Means k)).Cells) j).At] : List Int), bE g77 #[I ((nth ((downV (nth w.Means k)).Cells) j).At), I ((nth ((downV (nth w.Means k)).Cells) j).It)] 67, bE g67 #[vE, I ((downV (nth w.Means k)).Rest), I (1), nS, I (0)] 62, rdE vC ((downV (nth w.Means k)).Cells), bE g47 #[I ((downV (nth w.Means k)).VNum), I ((downV (nth w.Means k)).VDen), vC, I ((downV (nth w.Means k)).Rest)] 60, bE g32 #[SB ((nth a.Decls k).Name), u30n1, I ((nth a.Decls k).Srt)] 43, rowE 62 vo (downTo a w k : List Meaning), bE g23 #[vo] 29, bE g16 #[I (((meanF a w)).1), I (((meanF a w)).2)] 32, bE g10 #[I (0), I (0)] 32, bE g7 #[nS] 29, bE g4 #[vM] 29, bE g1 #[vD, vN, vH] 26, rdE vD a.Decls, rdE vN a.Nodes, rdE vH a.Hold, rdE vM w.Means] H82o10 := by rw [show (((downV (nth w.Means k)).Cells.take (j + 1)).map cellE) = ((((downV (nth w.Means k)).Cells.take j).map cellE) ++ ([(Entry.mk ([(nth ((downV (nth w.Means k)).Cells) j).At]) ((nth ((downV (nth w.Means k)).Cells) j).It) 1 ([]) 0)])) from (map_cellE_next (by omega)).symm]; exact hS82o10x3
    refine ⟨Ext.mono hxx (labS_of 0 rfl (fun _ _ => trivial)), ?_⟩
    refine rq 11 (by kernel_rfl) rfl rfl (q_fieldAddr rfl Tryz.underlying62 rfl Tryz.sizeOf55 y12) ?_
    refine wpR_n [12] (by kernel_rfl) ?_
    refine fa ?_ fe
    refine exE rfl rfl ?_
    refine e_storeBlk (v := v82o10) rfl rfl rfl (oneCell_rdL (hS82o10x4.rowl 0 rfl)) Tryz.sizeOf55 (by show _ < 5; decide) (hS82o10x4.front 4 rfl) (fun H82o12 hS82o12 hxx => ?_)
    refine ⟨Ext.mono hxx (labS_of 1 rfl (fun _ _ => trivial)), ?_⟩
    refine wpR_end (by kernel_rfl) ?_
    exact ⟨v82o10, y3, y4, y5, y7, y12, y24, y25, y26, y69, y70, y71, (hS82o12.drop (sk (sk (sn (sn (sk (sk (sk (sk (sk (sk (sk (sk (sk (sk (sk (sk (sk (sk (sk (List.Sublist.slnil)))))))))))))))))))))⟩
   ·refine exE rfl rfl ?_
    refine e_call rfl Tryz.call25 (arr1 (v0 := I ((nth ((downV (nth w.Means k)).Cells) j).It)) rfl) (thing_A ((nth ((downV (nth w.Means k)).Cells) j).It)) ?_
    rintro _ H82o7 ⟨hxx, rfl⟩
    have hS82o7 := hS81.ext hxx
    refine ⟨Ext.mono hxx (fun _ h => h.elim), ?_⟩
    refine wpR_n [4] (by kernel_rfl) ?_
    refine fa ?_ fe
    refine exE rfl rfl ?_
    refine e_buildSlice (vs := [I ((nth ((downV (nth w.Means k)).Cells) j).At)]) (xs := ([(nth ((downV (nth w.Means k)).Cells) j).At] : List Int)) rfl Tryz.underlying24 Tryz.zeroValue3 rfl Tryz.sizeOf3 (par1 (v0 := I ((nth ((downV (nth w.Means k)).Cells) j).At)) rfl) rfl hS82o7 (RdVs.cons (Rd.int.2 ⟨rfl, by first | assumption | (constructor <;> (dsimp only; omega)) | (constructor <;> omega)⟩) (RdVs.nil)) (by decide) (by decide) (fun v82o4 H82o4 hS82o4 hxx hvv82o4 => ?_)
    refine ⟨Ext.mono hxx (fun _ h => h.elim), ?_⟩
    refine rq 8 (by kernel_rfl) rfl rfl (q_build (v := Vg #[v82o4, I ((nth ((downV (nth w.Means k)).Cells) j).It), I (1), nS, I (0)]) rfl (par2 (v0 := v82o4) (v1 := Vg #[I ((nth ((downV (nth w.Means k)).Cells) j).It), I (1), nS, I (0)]) rfl rfl) ((hS82o4.rowl 0 rfl).slc (fun zz0 => ∀ w__, (Instr.build 65 #[(0, zz0), (1, Vg #[I ((nth ((downV (nth w.Means k)).Cells) j).It), I (1), nS, I (0)])]).run Tryz.prog w__ = .ok (Vg #[zz0, I ((nth ((downV (nth w.Means k)).Cells) j).It), I (1), nS, I (0)]) w__) (fun a0 n0 c0 => (fun w__ => by kernel_rfl)))) ?_
    refine wpR_n [9] (by kernel_rfl) ?_
    refine fa ?_ fe
    have hS82o9 : St H0 NoB (SZ S H0) [rdE v82o4 ([(nth ((downV (nth w.Means k)).Cells) j).At] : List Int), bE g77 #[I ((nth ((downV (nth w.Means k)).Cells) j).At), I ((nth ((downV (nth w.Means k)).Cells) j).It)] 67, rowE 65 vE (((downV (nth w.Means k)).Cells.take j).map cellE : List Entry), bE g67 #[vE, I ((downV (nth w.Means k)).Rest), I (1), nS, I (0)] 62, rdE vC ((downV (nth w.Means k)).Cells), bE g47 #[I ((downV (nth w.Means k)).VNum), I ((downV (nth w.Means k)).VDen), vC, I ((downV (nth w.Means k)).Rest)] 60, bE g32 #[SB ((nth a.Decls k).Name), u30n1, I ((nth a.Decls k).Srt)] 43, rowE 62 vo (downTo a w k : List Meaning), bE g23 #[vo] 29, bE g16 #[I (((meanF a w)).1), I (((meanF a w)).2)] 32, bE g10 #[I (0), I (0)] 32, bE g7 #[nS] 29, bE g4 #[vM] 29, bE g1 #[vD, vN, vH] 26, rdE vD a.Decls, rdE vN a.Nodes, rdE vH a.Hold, rdE vM w.Means] H82o4 := St.fin hS82o4
    refine exE rfl rfl ?_
    refine e_buildSlice (vs := [Vg #[v82o4, I ((nth ((downV (nth w.Means k)).Cells) j).It), I (1), nS, I (0)]]) (xs := ([(Entry.mk ([(nth ((downV (nth w.Means k)).Cells) j).At]) ((nth ((downV (nth w.Means k)).Cells) j).It) 1 ([]) 0)] : List Entry)) rfl Tryz.underlying55 Tryz.zeroValue65 rfl Tryz.sizeOf65 (par1 (v0 := Vg #[v82o4, I ((nth ((downV (nth w.Means k)).Cells) j).It), I (1), nS, I (0)]) rfl) rfl hS82o9 (RdVs.cons (Rd.entry.2 ⟨_, _, rfl, (hS82o9.rdS 0 rfl), (by first | assumption | (constructor <;> (try dsimp only) <;> omega)), (by first | assumption | (constructor <;> (try dsimp only) <;> omega)), rdNil, (by first | assumption | (constructor <;> (try dsimp only) <;> omega))⟩) (RdVs.nil)) (by decide) (by decide) (fun v82o9 H82o9 hS82o9x2 hxx hvv82o9 => ?_)
    refine ⟨Ext.mono hxx (fun _ h => h.elim), ?_⟩
    refine wpR_n [10] (by kernel_rfl) ?_
    refine fa ?_ fe
    have hS82o10 : St H0 NoB (SZ S H0) [rdE v82o9 ([(Entry.mk ([(nth ((downV (nth w.Means k)).Cells) j).At]) ((nth ((downV (nth w.Means k)).Cells) j).It) 1 ([]) 0)] : List Entry), rdE v82o4 ([(nth ((downV (nth w.Means k)).Cells) j).At] : List Int), bE g77 #[I ((nth ((downV (nth w.Means k)).Cells) j).At), I ((nth ((downV (nth w.Means k)).Cells) j).It)] 67, rowE 65 vE (((downV (nth w.Means k)).Cells.take j).map cellE : List Entry), bE g67 #[vE, I ((downV (nth w.Means k)).Rest), I (1), nS, I (0)] 62, rdE vC ((downV (nth w.Means k)).Cells), bE g47 #[I ((downV (nth w.Means k)).VNum), I ((downV (nth w.Means k)).VDen), vC, I ((downV (nth w.Means k)).Rest)] 60, bE g32 #[SB ((nth a.Decls k).Name), u30n1, I ((nth a.Decls k).Srt)] 43, rowE 62 vo (downTo a w k : List Meaning), bE g23 #[vo] 29, bE g16 #[I (((meanF a w)).1), I (((meanF a w)).2)] 32, bE g10 #[I (0), I (0)] 32, bE g7 #[nS] 29, bE g4 #[vM] 29, bE g1 #[vD, vN, vH] 26, rdE vD a.Decls, rdE vN a.Nodes, rdE vH a.Hold, rdE vM w.Means] H82o9 := St.fin hS82o9x2
    have hS82o10x2 := (hS82o10.front 3 rfl)
    refine exE rfl rfl ?_
    refine e_append rfl Tryz.underlying55 em_Entry_65_ArrD1 rfl rfl hS82o10x2 (hS82o10x2.rdS 1 rfl) (fun _ h => h) (by have hb : GoT.bytes Entry = 72 := rfl; rw [hb]; simp only [List.length_append, List.length_map, List.length_take, List.length_cons, List.length_nil]; omega) (by decide) (fun v82o10 H82o10 hS82o10x3 hxx => ?_)
    have hS82o10x4 : St H0 NoB (SZ S H0) [rowE 65 v82o10 (((downV (nth w.Means k)).Cells.take (j + 1)).map cellE : List Entry), rdE v82o9 ([(Entry.mk ([(nth ((downV (nth w.Means k)).Cells) j).At]) ((nth ((downV (nth w.Means k)).Cells) j).It) 1 ([]) 0)] : List Entry), rdE v82o4 ([(nth ((downV (nth w.Means k)).Cells) j).At] : List Int), bE g77 #[I ((nth ((downV (nth w.Means k)).Cells) j).At), I ((nth ((downV (nth w.Means k)).Cells) j).It)] 67, bE g67 #[vE, I ((downV (nth w.Means k)).Rest), I (1), nS, I (0)] 62, rdE vC ((downV (nth w.Means k)).Cells), bE g47 #[I ((downV (nth w.Means k)).VNum), I ((downV (nth w.Means k)).VDen), vC, I ((downV (nth w.Means k)).Rest)] 60, bE g32 #[SB ((nth a.Decls k).Name), u30n1, I ((nth a.Decls k).Srt)] 43, rowE 62 vo (downTo a w k : List Meaning), bE g23 #[vo] 29, bE g16 #[I (((meanF a w)).1), I (((meanF a w)).2)] 32, bE g10 #[I (0), I (0)] 32, bE g7 #[nS] 29, bE g4 #[vM] 29, bE g1 #[vD, vN, vH] 26, rdE vD a.Decls, rdE vN a.Nodes, rdE vH a.Hold, rdE vM w.Means] H82o10 := by rw [show (((downV (nth w.Means k)).Cells.take (j + 1)).map cellE) = ((((downV (nth w.Means k)).Cells.take j).map cellE) ++ ([(Entry.mk ([(nth ((downV (nth w.Means k)).Cells) j).At]) ((nth ((downV (nth w.Means k)).Cells) j).It) 1 ([]) 0)])) from (map_cellE_next (by omega)).symm]; exact hS82o10x3
    refine ⟨Ext.mono hxx (labS_of 0 rfl (fun _ _ => trivial)), ?_⟩
    refine rq 11 (by kernel_rfl) rfl rfl (q_fieldAddr rfl Tryz.underlying62 rfl Tryz.sizeOf55 y12) ?_
    refine wpR_n [12] (by kernel_rfl) ?_
    refine fa ?_ fe
    refine exE rfl rfl ?_
    refine e_storeBlk (v := v82o10) rfl rfl rfl (oneCell_rdL (hS82o10x4.rowl 0 rfl)) Tryz.sizeOf55 (by show _ < 5; decide) (hS82o10x4.front 4 rfl) (fun H82o12 hS82o12 hxx => ?_)
    refine ⟨Ext.mono hxx (labS_of 1 rfl (fun _ _ => trivial)), ?_⟩
    refine wpR_end (by kernel_rfl) ?_
    exact ⟨v82o10, y3, y4, y5, y7, y12, y24, y25, y26, y69, y70, y71, (hS82o12.drop (sk (sk (sn (sn (sk (sk (sk (sk (sk (sk (sk (sk (sk (sk (sk (sk (sk (sk (sk (List.Sublist.slnil)))))))))))))))))))))⟩
  clear y12 y24 y25 y26 y3 y4 y5 y69 y7 y70 y71
  rintro f83 H83 ⟨v82o10, y3, y4, y5, y7, y12, y24, y25, y26, y69, y70, y71, hS83⟩
  refine wpF_region ?_
  refine lq rfl (q_add rfl y71 rfl (by constructor <;> omega)) ?_
  refine lm (v := I ((j : Int) + 1)) rfl rfl rfl ?_
  refine wpL_nil ?_
  refine ⟨_, ?_, j + 1, v82o10, rfl, (by omega), y3, y4, y5, y7, y12, y24, y25, y26, y69, y70, (Eq.trans rfl (congrArg I (by omega))), (St.drop (show St H0 NoB (SZ S H0) [rowE 65 v82o10 (((downV (nth w.Means k)).Cells.take (j + 1)).map cellE : List Entry), bE g67 #[v82o10, I ((downV (nth w.Means k)).Rest), I (1), nS, I (0)] 62, bE g77 #[I ((nth ((downV (nth w.Means k)).Cells) j).At), I ((nth ((downV (nth w.Means k)).Cells) j).It)] 67, rdE vC ((downV (nth w.Means k)).Cells), bE g47 #[I ((downV (nth w.Means k)).VNum), I ((downV (nth w.Means k)).VDen), vC, I ((downV (nth w.Means k)).Rest)] 60, bE g32 #[SB ((nth a.Decls k).Name), u30n1, I ((nth a.Decls k).Srt)] 43, rowE 62 vo (downTo a w k : List Meaning), bE g23 #[vo] 29, bE g16 #[I (((meanF a w)).1), I (((meanF a w)).2)] 32, bE g10 #[I (0), I (0)] 32, bE g7 #[nS] 29, bE g4 #[vM] 29, bE g1 #[vD, vN, vH] 26, rdE vD a.Decls, rdE vN a.Nodes, rdE vH a.Hold, rdE vM w.Means] H83 from (hS83.front 1 rfl)) (sk (sk (sn (sk (sk (sk (sk (sk (sk (sk (sk (sk (sk (sk (sk (sk (sk (List.Sublist.slnil)))))))))))))))))))⟩
  omega
 clear y24 y25 y26 y3 y4 y5 y7
 rintro f29 H29 ⟨vo2, hno, y3, y4, y5, y7, y24, y25, y26, hS29⟩
 refine wpF_region ?_
 refine lq rfl (q_add rfl y26 rfl (by constructor <;> omega)) ?_
 refine lm (v := I ((k : Int) + 1)) rfl rfl rfl ?_
 refine wpL_nil ?_
 refine ⟨_, ?_, k + 1, vo2, rfl, (by omega), (all_succ hp hno), y3, y4, y5, y7, y24, y25, (Eq.trans rfl (congrArg I (by omega))), hS29⟩
 omega
end Go.Um
