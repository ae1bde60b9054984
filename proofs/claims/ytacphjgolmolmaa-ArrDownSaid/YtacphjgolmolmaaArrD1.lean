import Derived.Test.YtacphjgolmolmaaProg
import Derived.Test.YtacphjgolmolmaaMeanC5
import Derived.Test.YtacphjgolmolmaaUmArrDownC
namespace Go.Um
open Go.Proofs
open GoT (sz ag rdc)
open KeyT (kv)
theorem el_Cell_77_ArrD1 : ElT Try.prog Cell 77 := ⟨Try.isAgg77, Try.sizeOf77⟩
theorem el_Decl_43_ArrD1 : ElT Try.prog Decl 43 := ⟨Try.isAgg43, Try.sizeOf43⟩
theorem el_Entry_74_ArrD1 : ElT Try.prog Entry 74 := ⟨Try.isAgg74, Try.sizeOf74⟩
theorem el_Meaning_71_ArrD1 : ElT Try.prog Meaning 71 := ⟨Try.isAgg71, Try.sizeOf71⟩
theorem em_Entry_74_ArrD1 : ElemOk Try.prog Entry 74 := ⟨Try.t74, (.agg #[(.slice none 0 0), (.int .i64 0), (.int .i64 0), (.slice none 0 0), (.int .i64 0)]), by kernel_rfl, by kernel_rfl, by kernel_rfl, by kernel_rfl, by kernel_rfl⟩
theorem em_Meaning_71_ArrD1 : ElemOk Try.prog Meaning 71 := ⟨Try.t71, (.agg #[(.slice none 0 0), (.int .i64 0), (.int .i64 0), (.slice none 0 0), (.int .i64 0)]), by kernel_rfl, by kernel_rfl, by kernel_rfl, by kernel_rfl, by kernel_rfl⟩
set_option maxHeartbeats 2000000 in
set_option maxRecDepth 100000 in
theorem Copied_A {H0 : Heap} {S : Nat → Prop} (vr vc : Value) (m : Meaning) (rvr : Rd S H0 vr m.Rows) (h6mMNum : In64 m.MNum) (h6mMDen : In64 m.MDen) (rvc : Rd S H0 vc m.MCells) (h6mMRest : In64 m.MRest) : CallsH Try.prog 23 #[Vg #[vr, I (m.MNum), I (m.MDen), vc, I (m.MRest)]] H0 (fun rv_ H' => Ext NoB H0 H' ∧ ∃ w0_ w1_, rv_ = Vg #[w0_, I m.MNum, I m.MDen, w1_, I m.MRest] ∧ Rd (SZ S H0) H' w0_ m.Rows ∧ Rd (SZ S H0) H' w1_ m.MCells ∧ In64 m.MNum ∧ In64 m.MDen ∧ In64 m.MRest) := by
 have hsr : m.Rows.length * 72 ≤ 140737488355328 := (Rd.list.1 rvr).bound
 have hS0 : St H0 NoB (SZ S H0) [rdE vr m.Rows, rdE vc m.MCells] H0 := St.arg (St.arg (St.start (fun _ h => h.2)) (Bl0.nil) rvc (fun _ h => h.1)) (Bl0.cons (Bl0.nil)) rvr (fun _ h => h.1)
 refine callsH_of_wpF (args := [Vg #[vr, I (m.MNum), I (m.MDen), vc, I (m.MRest)]]) (rs := [.cell 2 71]) Try.func23 rfl Try.ntmps23 Try.results23 (by kernel_rfl) (Nat.le_of_ble_eq_true rfl) ?_
 have y0 : argF [Vg #[vr, I (m.MNum), I (m.MDen), vc, I (m.MRest)]] 0 = Vg #[vr, I (m.MNum), I (m.MDen), vc, I (m.MRest)] := rfl
 generalize argF [Vg #[vr, I (m.MNum), I (m.MDen), vc, I (m.MRest)]] = f0 at *
 refine fcr (fun f H => ∃ (g1 : Nat), ∃ (g4 : Nat), f 1 = PT g1 0 ∧ f 2 = PT g4 0 ∧ St H0 NoB (SZ S H0) [bE g4 #[nS, I (0), I (0), nS, I (0)] 71, bE g1 #[vr, I (m.MNum), I (m.MDen), vc, I (m.MRest)] 71, rdE vr m.Rows, rdE vc m.MCells] H) ?_ ?_
 ·refine lo rfl ?_
  refine e_box (v := Vg #[vr, I (m.MNum), I (m.MDen), vc, I (m.MRest)]) rfl y0 hS0 (fun g1 H2 hS3 hxx => ?_)
  refine lo rfl ?_
  refine e_alloc rfl Try.zeroValue71 hS3 (fun g4 H5 hS6 hxx => ?_)
  exact ⟨g1, g4, rfl, rfl, hS6⟩
 clear y0
 rintro f7 H7 ⟨g1, g4, y1, y2, hS7⟩
 refine fcr (fun f H => ∃ (g8 : Nat), f 1 = PT g1 0 ∧ f 2 = PT g4 0 ∧ f 3 = PT g8 0 ∧ St H0 NoB (SZ S H0) [bE g8 #[nS, I (m.MNum), I (m.MDen), vc, I (m.MRest)] 71, bE g4 #[nS, I (0), I (0), nS, I (0)] 71, bE g1 #[vr, I (m.MNum), I (m.MDen), vc, I (m.MRest)] 71, rdE vr m.Rows, rdE vc m.MCells] H) ?_ ?_
 ·refine lq rfl (q_fieldAddr rfl Try.underlying71 rfl Try.sizeOf69 y1) ?_
  refine lq rfl (q_loadBlkP (ds := [I (m.MNum), I (m.MDen), vc, I (m.MRest)]) rfl rfl Try.isAgg69 Try.sizeOf69 rfl rfl (hS7.blk 1 rfl) (fun h => h)) ?_
  refine lq rfl (q_build (v := Vg #[nS, I (m.MNum), I (m.MDen), vc, I (m.MRest)]) rfl (par1 (v0 := Vg #[I (m.MNum), I (m.MDen), vc, I (m.MRest)]) rfl) (fun w__ => by kernel_rfl)) ?_
  refine lo rfl ?_
  refine e_alloc rfl Try.zeroValue71 hS7 (fun g8 H9 hS10 hxx => ?_)
  refine lo rfl ?_
  refine e_storeBlkA (cs' := #[nS, I (m.MNum), I (m.MDen), vc, I (m.MRest)]) rfl rfl rfl Try.sizeOf71 rfl rfl (fa rfl (fa rfl (fa rfl (fa ((oneCell_rdL (hS10.rdl 4 rfl))) (fa rfl fe))))) hS10 (fun H11 hS12 hxx => ?_)
  exact ⟨g8, y1, y2, rfl, hS12⟩
 clear y1 y2
 rintro f13 H13 ⟨g8, y1, y2, y3, hS13⟩
 refine fcr (fun f H => ∃ (r14 : Value), f 1 = PT g1 0 ∧ f 2 = PT g4 0 ∧ f 3 = PT g8 0 ∧ St H0 NoB (SZ S H0) [bE g8 #[nS, I (m.MNum), I (m.MDen), r14, I (m.MRest)] 71, rdE r14 m.MCells, bE g4 #[nS, I (0), I (0), nS, I (0)] 71, bE g1 #[vr, I (m.MNum), I (m.MDen), vc, I (m.MRest)] 71, rdE vr m.Rows, rdE vc m.MCells] H) ?_ ?_
 ·refine lq rfl (q_fieldAddr rfl Try.underlying71 rfl Try.sizeOf69 y1) ?_
  refine lq rfl (q_fieldAddr rfl Try.underlying69 rfl Try.sizeOf67 rfl) ?_
  refine lq rfl (q_loadBlk rfl rfl Try.isAgg67 (hS13.blk 2 rfl) rfl (fun h => h)) ?_
  refine lo rfl ?_
  refine e_call rfl Try.call40 (arr1 (v0 := vc) rfl) (CloneC vc _ (hS13.rdS 4 rfl)) ?_
  rintro r14 H15 ⟨hxx, hrr14⟩
  have hS16 := hS13.res hxx hrr14
  refine lq rfl (q_fieldAddr rfl Try.underlying71 rfl Try.sizeOf69 y3) ?_
  refine lq rfl (q_fieldAddr rfl Try.underlying69 rfl Try.sizeOf67 rfl) ?_
  refine lo rfl ?_
  refine e_storeBlk (v := r14) rfl rfl rfl (oneCell_rdL (hS16.rdl 0 rfl)) Try.sizeOf67 (by show _ < 5; decide) (hS16.front 1 rfl) (fun H18 hS19 hxx => ?_)
  exact ⟨r14, y1, y2, y3, hS19⟩
 clear y1 y2 y3
 rintro f20 H20 ⟨r14, y1, y2, y3, hS20⟩
 have hS21 : St H0 NoB (SZ S H0) [rowE 74 nS ([] : List Entry), bE g8 #[nS, I (m.MNum), I (m.MDen), r14, I (m.MRest)] 71, rdE r14 m.MCells, bE g4 #[nS, I (0), I (0), nS, I (0)] 71, bE g1 #[vr, I (m.MNum), I (m.MDen), vc, I (m.MRest)] 71, rdE vr m.Rows, rdE vc m.MCells] H20 := hS20.row0 74
 refine wpF_seq ?_
 refine fcr (fun f H => f 2 = PT g4 0 ∧ f 3 = PT g8 0 ∧ f 16 = vr ∧ f 17 = I ((m.Rows.length : Int)) ∧ f 18 = I (0) ∧ H20 = H) ?_ ?_
 ·refine lq rfl (q_fieldAddr rfl Try.underlying71 rfl Try.sizeOf64 y1) ?_
  refine lq rfl (q_loadBlk rfl rfl Try.isAgg64 (hS21.blk 4 rfl) rfl (fun h => h)) ?_
  refine lq rfl (q_lenRd rfl Try.underlying64 rfl (hS21.rdl 5 rfl)) ?_
  refine lm (v := I (0)) rfl rfl rfl ?_
  exact ⟨y2, y3, rfl, rfl, rfl, rfl⟩
 clear y1 y2 y3
 rintro f22 _ ⟨y2, y3, y16, y17, y18, rfl⟩
 refine wpF_block ?_
 refine wpF_loop (fun mz f H => ∃ (k : Nat), ∃ (vo : Value), mz = m.Rows.length - k ∧ (k ≤ m.Rows.length) ∧ f 2 = PT g4 0 ∧ f 3 = PT g8 0 ∧ f 16 = vr ∧ f 17 = I ((m.Rows.length : Int)) ∧ f 18 = I ((k : Int)) ∧ St H0 NoB (SZ S H0) [rowE 74 vo (m.Rows.take k : List Entry), bE g8 #[vo, I (m.MNum), I (m.MDen), r14, I (m.MRest)] 71, rdE r14 m.MCells, bE g4 #[nS, I (0), I (0), nS, I (0)] 71, bE g1 #[vr, I (m.MNum), I (m.MDen), vc, I (m.MRest)] 71, rdE vr m.Rows, rdE vc m.MCells] H) (m.Rows.length - 0) ?_ ?_
 ·exact ⟨0, nS, rfl, Nat.zero_le _, y2, y3, y16, y17, (Eq.trans y18 (congrArg I (by omega))), (show St H0 NoB (SZ S H0) [rowE 74 nS (m.Rows.take 0 : List Entry), bE g8 #[nS, I (m.MNum), I (m.MDen), r14, I (m.MRest)] 71, rdE r14 m.MCells, bE g4 #[nS, I (0), I (0), nS, I (0)] 71, bE g1 #[vr, I (m.MNum), I (m.MDen), vc, I (m.MRest)] 71, rdE vr m.Rows, rdE vc m.MCells] H20 from hS21)⟩
 intro m23 f23 H23 hI23
 clear y16 y17 y18 y2 y3
 obtain ⟨k, vo, hm23, hk, y2, y3, y16, y17, y18, hS23⟩ := hI23
 refine fcr (fun f H => f 2 = PT g4 0 ∧ f 3 = PT g8 0 ∧ f 16 = vr ∧ f 17 = I ((m.Rows.length : Int)) ∧ f 18 = I ((k : Int)) ∧ f 19 = B (decide ((k : Int) < (m.Rows.length : Int))) ∧ H23 = H) ?_ ?_
 ·refine lq rfl (q_lss rfl y18 y17) ?_
  exact ⟨y2, y3, y16, y17, y18, rfl, rfl⟩
 clear y16 y17 y18 y2 y3
 rintro f24 _ ⟨y2, y3, y16, y17, y18, y19, rfl⟩
 refine wpF_seq ?_
 refine wpF_condP y19 (fun hlt => ?t55) (fun hlt => ?e55)
 case e55 =>
  have hS26 : St H0 NoB (SZ S H0) [rowE 74 vo (m.Rows : List Entry), bE g8 #[vo, I (m.MNum), I (m.MDen), r14, I (m.MRest)] 71, rdE r14 m.MCells, bE g4 #[nS, I (0), I (0), nS, I (0)] 71, bE g1 #[vr, I (m.MNum), I (m.MDen), vc, I (m.MRest)] 71, rdE vr m.Rows, rdE vc m.MCells] H23 := by have h__ := hS23; rw [List.take_of_length_le (show m.Rows.length ≤ k by omega)] at h__; exact h__
  refine wpF_exit ?_
  refine atX_here ?_
  refine fcr (fun f H => f 2 = PT g4 0 ∧ St H0 NoB (SZ S H0) [bE g4 #[vo, I (m.MNum), I (m.MDen), r14, I (m.MRest)] 71, rowE 74 vo (m.Rows : List Entry), bE g8 #[vo, I (m.MNum), I (m.MDen), r14, I (m.MRest)] 71, rdE r14 m.MCells, bE g1 #[vr, I (m.MNum), I (m.MDen), vc, I (m.MRest)] 71, rdE vr m.Rows, rdE vc m.MCells] H) ?_ ?_
  ·refine lq rfl (q_loadBlkA rfl y3 Try.isAgg71 Try.sizeOf71 rfl (hS26.blk 1 rfl) (fun h => h)) ?_
   refine lo rfl ?_
   refine e_storeBlkA (cs' := #[vo, I (m.MNum), I (m.MDen), r14, I (m.MRest)]) rfl y2 rfl Try.sizeOf71 rfl rfl (fa ((oneCell_rdL (hS26.rowl 0 rfl))) (fa rfl (fa rfl (fa ((oneCell_rdL (hS26.rdl 2 rfl))) (fa rfl fe))))) (hS26.front 3 rfl) (fun H51 hS52 hxx => ?_)
   exact ⟨y2, hS52⟩
  clear y16 y17 y18 y19 y2 y3
  rintro f53 H53 ⟨y2, hS53⟩
  refine wpF_ret ?_
  refine ⟨_, resC y2 (loadV_blkA Try.isAgg71 Try.sizeOf71 rfl (hS53.blk 0 rfl)) (resN), hS53.frame, ?_⟩
  show ∃ w0_ w1_, (Vg #[vo, I (m.MNum), I (m.MDen), r14, I (m.MRest)]) = Vg #[w0_, I m.MNum, I m.MDen, w1_, I m.MRest] ∧ Rd (SZ S H0) H53 w0_ m.Rows ∧ Rd (SZ S H0) H53 w1_ m.MCells ∧ In64 m.MNum ∧ In64 m.MDen ∧ In64 m.MRest
  have hS54 : St H0 NoB (SZ S H0) [rdE vo m.Rows, bE g4 #[vo, I (m.MNum), I (m.MDen), r14, I (m.MRest)] 71, bE g8 #[vo, I (m.MNum), I (m.MDen), r14, I (m.MRest)] 71, rdE r14 m.MCells, bE g1 #[vr, I (m.MNum), I (m.MDen), vc, I (m.MRest)] 71, rdE vr m.Rows, rdE vc m.MCells] H53 := St.fin (hS53.front 1 rfl)
  exact ⟨_, _, rfl, (hS54.result (hS54.rdS 0 rfl)), (hS54.result (hS54.rdS 3 rfl)), by assumption, by assumption, by assumption⟩
 refine wpF_skip ?_
 refine wpF_seq ?_
 refine wpF_block ?_
 refine fcr (fun f H => ∃ (u27n0 : Value), ∃ (u27n3 : Value), ∃ (g30 : Nat), (In64 (nth m.Rows k).ENum) ∧ (In64 (nth m.Rows k).EDen) ∧ (In64 (nth m.Rows k).ERest) ∧ f 2 = PT g4 0 ∧ f 3 = PT g8 0 ∧ f 5 = PT g30 0 ∧ f 16 = vr ∧ f 17 = I ((m.Rows.length : Int)) ∧ f 18 = I ((k : Int)) ∧ St H0 NoB (SZ S H0) [bE g30 #[u27n0, I ((nth m.Rows k).ENum), I ((nth m.Rows k).EDen), u27n3, I ((nth m.Rows k).ERest)] 74, rdE u27n3 ((nth m.Rows k).ECells), rdE u27n0 ((nth m.Rows k).Args), rowE 74 vo (m.Rows.take k : List Entry), bE g8 #[vo, I (m.MNum), I (m.MDen), r14, I (m.MRest)] 71, rdE r14 m.MCells, bE g4 #[nS, I (0), I (0), nS, I (0)] 71, bE g1 #[vr, I (m.MNum), I (m.MDen), vc, I (m.MRest)] 71, rdE vr m.Rows, rdE vc m.MCells] H) ?_ ?_
 ·refine lq rfl (q_indexRd (k := k) rfl Try.underlying64 el_Entry_74_ArrD1 y16 y18 (hS23.rdl 5 rfl) (by omega) (by omega)) ?_
  obtain ⟨u27, huu27, hlu27⟩ := (Rd.list.1 (hS23.rdS 5 rfl)).elem k (by omega)
  obtain ⟨u27n0, u27n3, rfl, hu270, hu271, hu272, hu273, hu274⟩ := Rd.entry.1 huu27
  have hS28 := hS23.rd hu270
  have hS29 : St H0 NoB (SZ S H0) [rdE u27n3 ((nth m.Rows k).ECells), rdE u27n0 ((nth m.Rows k).Args), rowE 74 vo (m.Rows.take k : List Entry), bE g8 #[vo, I (m.MNum), I (m.MDen), r14, I (m.MRest)] 71, rdE r14 m.MCells, bE g4 #[nS, I (0), I (0), nS, I (0)] 71, bE g1 #[vr, I (m.MNum), I (m.MDen), vc, I (m.MRest)] 71, rdE vr m.Rows, rdE vc m.MCells] H23 := hS28.rd (hu273.sub fun _ hb => SL_rd hb)
  refine lq rfl (q_loadE rfl rfl (hlu27 Try.prog 74 _ el_Entry_74_ArrD1 (fun _ h => False.elim h))) ?_
  refine lo rfl ?_
  refine e_alloc rfl Try.zeroValue74 hS29 (fun g30 H31 hS32 hxx => ?_)
  refine lo rfl ?_
  refine e_storeBlkA (cs' := #[u27n0, I ((nth m.Rows k).ENum), I ((nth m.Rows k).EDen), u27n3, I ((nth m.Rows k).ERest)]) rfl rfl rfl Try.sizeOf74 rfl rfl (fa ((oneCell_rdL (hS32.rdl 2 rfl))) (fa rfl (fa rfl (fa ((oneCell_rdL (hS32.rdl 1 rfl))) (fa rfl fe))))) hS32 (fun H33 hS34 hxx => ?_)
  exact ⟨u27n0, u27n3, g30, hu271, hu272, hu274, y2, y3, rfl, y16, y17, y18, hS34⟩
 clear y16 y17 y18 y19 y2 y3
 rintro f35 H35 ⟨u27n0, u27n3, g30, hu271, hu272, hu274, y2, y3, y5, y16, y17, y18, hS35⟩
 refine sc (fun f H => ∃ (r36o2 : Value), ∃ (r36o6 : Value), f 2 = PT g4 0 ∧ f 3 = PT g8 0 ∧ f 5 = PT g30 0 ∧ f 16 = vr ∧ f 17 = I ((m.Rows.length : Int)) ∧ f 18 = I ((k : Int)) ∧ St H0 NoB (SZ S H0) [bE g30 #[r36o2, I ((nth m.Rows k).ENum), I ((nth m.Rows k).EDen), r36o6, I ((nth m.Rows k).ERest)] 74, rdE r36o6 (((nth m.Rows k).ECells)), rdE r36o2 (((nth m.Rows k).Args)), rowE 74 vo (m.Rows.take k : List Entry), bE g8 #[vo, I (m.MNum), I (m.MDen), r14, I (m.MRest)] 71, rdE r14 m.MCells, bE g4 #[nS, I (0), I (0), nS, I (0)] 71, bE g1 #[vr, I (m.MNum), I (m.MDen), vc, I (m.MRest)] 71, rdE vr m.Rows, rdE vc m.MCells] H) ?_ ?_
 ·refine wpF_drawn [none, none, none, none, none, none, none, none, some 0, none, none, some 1] [[], [], [], [], [], [], [], [], [], [], [], []] (fun l b => match l with | 0 => True | 1 => True | _ => False) (by kernel_rfl) (by kernel_rfl) ?_
  refine rq 0 (by kernel_rfl) rfl rfl (q_fieldAddr rfl Try.underlying74 rfl Try.sizeOf24 y5) ?_
  refine rq 1 (by kernel_rfl) rfl rfl (q_loadBlk rfl rfl Try.isAgg24 (hS35.blk 0 rfl) rfl (labU_not [] rfl (fe))) ?_
  refine rq 3 (by kernel_rfl) rfl rfl (q_fieldAddr rfl Try.underlying74 rfl Try.sizeOf69 y5) ?_
  refine rq 4 (by kernel_rfl) rfl rfl (q_fieldAddr rfl Try.underlying69 rfl Try.sizeOf67 rfl) ?_
  refine rq 5 (by kernel_rfl) rfl rfl (q_loadBlk rfl rfl Try.isAgg67 (hS35.blk 0 rfl) rfl (labU_not [] rfl (fe))) ?_
  refine wpR_n [2] (by kernel_rfl) ?_
  refine fa ?_ fe
  refine exE rfl rfl ?_
  refine e_call rfl Try.call17 (arr1 (v0 := u27n0) rfl) (Clone u27n0 _ (hS35.rdS 2 rfl)) ?_
  rintro r36o2 H36o2 ⟨hxx, hrr36o2⟩
  have hS36o2 := hS35.res hxx hrr36o2
  refine ⟨Ext.mono hxx (fun _ h => h.elim), ?_⟩
  refine rq 7 (by kernel_rfl) rfl rfl (q_fieldAddr rfl Try.underlying74 rfl Try.sizeOf24 y5) ?_
  refine wpR_n [6] (by kernel_rfl) ?_
  refine fa ?_ fe
  refine exE rfl rfl ?_
  refine e_call rfl Try.call40 (arr1 (v0 := u27n3) rfl) (CloneC u27n3 _ (hS36o2.rdS 2 rfl)) ?_
  rintro r36o6 H36o6 ⟨hxx, hrr36o6⟩
  have hS36o6 := hS36o2.res hxx hrr36o6
  refine ⟨Ext.mono hxx (fun _ h => h.elim), ?_⟩
  refine wpR_n [8] (by kernel_rfl) ?_
  refine fa ?_ fe
  refine exE rfl rfl ?_
  refine e_storeBlk (v := r36o2) rfl rfl rfl (oneCell_rdL (hS36o6.rdl 1 rfl)) Try.sizeOf24 (by show _ < 5; decide) (hS36o6.front 2 rfl) (fun H36o8 hS36o8 hxx => ?_)
  refine ⟨Ext.mono hxx (labS_of 0 rfl (fun _ _ => trivial)), ?_⟩
  refine rq 9 (by kernel_rfl) rfl rfl (q_fieldAddr rfl Try.underlying74 rfl Try.sizeOf69 y5) ?_
  refine rq 10 (by kernel_rfl) rfl rfl (q_fieldAddr rfl Try.underlying69 rfl Try.sizeOf67 rfl) ?_
  refine wpR_n [11] (by kernel_rfl) ?_
  refine fa ?_ fe
  refine exE rfl rfl ?_
  refine e_storeBlk (v := r36o6) rfl rfl rfl (oneCell_rdL (hS36o8.rdl 1 rfl)) Try.sizeOf67 (by show _ < 5; decide) hS36o8 (fun H36o11 hS36o11 hxx => ?_)
  refine ⟨Ext.mono hxx (labS_of 1 rfl (fun _ _ => trivial)), ?_⟩
  refine wpR_end (by kernel_rfl) ?_
  exact ⟨r36o2, r36o6, y2, y3, y5, y16, y17, y18, (hS36o11.drop (sk (sk (sk (sn (sn (sk (sk (sk (sk (sk (sk (sk (List.Sublist.slnil))))))))))))))⟩
 clear y16 y17 y18 y2 y3 y5
 rintro f37 H37 ⟨r36o2, r36o6, y2, y3, y5, y16, y17, y18, hS37⟩
 refine wpF_cut (fun f H => ∃ (v43 : Value), f 2 = PT g4 0 ∧ f 3 = PT g8 0 ∧ f 16 = vr ∧ f 17 = I ((m.Rows.length : Int)) ∧ f 18 = I ((k : Int)) ∧ St H0 NoB (SZ S H0) [bE g8 #[v43, I (m.MNum), I (m.MDen), r14, I (m.MRest)] 71, rowE 74 v43 (m.Rows.take (k + 1) : List Entry), bE g30 #[r36o2, I ((nth m.Rows k).ENum), I ((nth m.Rows k).EDen), r36o6, I ((nth m.Rows k).ERest)] 74, rdE r36o6 (((nth m.Rows k).ECells)), rdE r36o2 (((nth m.Rows k).Args)), rdE r14 m.MCells, bE g4 #[nS, I (0), I (0), nS, I (0)] 71, bE g1 #[vr, I (m.MNum), I (m.MDen), vc, I (m.MRest)] 71, rdE vr m.Rows, rdE vc m.MCells] H) ?_ ?_
 ·refine wpF_region ?_
  refine lq rfl (q_fieldAddr rfl Try.underlying71 rfl Try.sizeOf64 y3) ?_
  refine lq rfl (q_loadBlk rfl rfl Try.isAgg64 (hS37.blk 4 rfl) rfl (fun h => h)) ?_
  refine lq rfl (q_loadBlkA rfl y5 Try.isAgg74 Try.sizeOf74 rfl (hS37.blk 0 rfl) (fun h => h)) ?_
  refine lo rfl ?_
  refine e_buildSlice (vs := [Vg #[r36o2, I ((nth m.Rows k).ENum), I ((nth m.Rows k).EDen), r36o6, I ((nth m.Rows k).ERest)]]) (xs := ([(nth m.Rows k)] : List Entry)) rfl Try.underlying64 Try.zeroValue74 rfl Try.sizeOf74 (par1 (v0 := Vg #[r36o2, I ((nth m.Rows k).ENum), I ((nth m.Rows k).EDen), r36o6, I ((nth m.Rows k).ERest)]) rfl) rfl hS37 (RdVs.cons (Rd.entry.2 ⟨_, _, rfl, (hS37.rdS 2 rfl), (by first | assumption | (constructor <;> (try dsimp only) <;> omega)), (by first | assumption | (constructor <;> (try dsimp only) <;> omega)), (hS37.rdS 1 rfl), (by first | assumption | (constructor <;> (try dsimp only) <;> omega))⟩) (RdVs.nil)) (by decide) (by decide) (fun v38 H39 hS40 hxx hvv38 => ?_)
  have hS41 : St H0 NoB (SZ S H0) [rdE v38 ([(nth m.Rows k)] : List Entry), bE g30 #[r36o2, I ((nth m.Rows k).ENum), I ((nth m.Rows k).EDen), r36o6, I ((nth m.Rows k).ERest)] 74, rdE r36o6 (((nth m.Rows k).ECells)), rdE r36o2 (((nth m.Rows k).Args)), rowE 74 vo (m.Rows.take k : List Entry), bE g8 #[vo, I (m.MNum), I (m.MDen), r14, I (m.MRest)] 71, rdE r14 m.MCells, bE g4 #[nS, I (0), I (0), nS, I (0)] 71, bE g1 #[vr, I (m.MNum), I (m.MDen), vc, I (m.MRest)] 71, rdE vr m.Rows, rdE vc m.MCells] H39 := St.fin hS40
  have hS42 := (hS41.front 4 rfl)
  refine lo rfl ?_
  refine e_append rfl Try.underlying64 em_Entry_74_ArrD1 rfl rfl hS42 (hS42.rdS 1 rfl) (fun _ h => h) (by have hb : GoT.bytes Entry = 72 := rfl; rw [hb]; simp only [List.length_append, List.length_take, List.length_cons, List.length_nil]; omega) (by decide) (fun v43 H44 hS45 hxx => ?_)
  have hS46 : St H0 NoB (SZ S H0) [rowE 74 v43 (m.Rows.take (k + 1) : List Entry), rdE v38 ([(nth m.Rows k)] : List Entry), bE g30 #[r36o2, I ((nth m.Rows k).ENum), I ((nth m.Rows k).EDen), r36o6, I ((nth m.Rows k).ERest)] 74, rdE r36o6 (((nth m.Rows k).ECells)), rdE r36o2 (((nth m.Rows k).Args)), bE g8 #[vo, I (m.MNum), I (m.MDen), r14, I (m.MRest)] 71, rdE r14 m.MCells, bE g4 #[nS, I (0), I (0), nS, I (0)] 71, bE g1 #[vr, I (m.MNum), I (m.MDen), vc, I (m.MRest)] 71, rdE vr m.Rows, rdE vc m.MCells] H44 := by rw [show (m.Rows.take (k + 1)) = ((m.Rows.take k) ++ ([(nth m.Rows k)])) from (take_succ_nth (by omega))]; exact hS45
  refine lq rfl (q_fieldAddr rfl Try.underlying71 rfl Try.sizeOf64 y3) ?_
  refine lo rfl ?_
  refine e_storeBlk (v := v43) rfl rfl rfl (oneCell_rdL (hS46.rowl 0 rfl)) Try.sizeOf64 (by show _ < 5; decide) (hS46.front 5 rfl) (fun H47 hS48 hxx => ?_)
  exact ⟨v43, y2, y3, y16, y17, y18, (hS48.drop (sk (sk (sn (sk (sk (sk (sk (sk (sk (sk (sk (List.Sublist.slnil)))))))))))))⟩
 clear y16 y17 y18 y2 y3 y5
 rintro f49 H49 ⟨v43, y2, y3, y16, y17, y18, hS49⟩
 refine wpF_cut (fun f H => f 2 = PT g4 0 ∧ f 3 = PT g8 0 ∧ f 16 = vr ∧ f 17 = I ((m.Rows.length : Int)) ∧ f 18 = I ((k : Int) + 1) ∧ H49 = H) ?_ ?_
 ·refine wpF_region ?_
  refine lq rfl (q_add rfl y18 rfl (by constructor <;> omega)) ?_
  refine lm (v := I ((k : Int) + 1)) rfl rfl rfl ?_
  exact ⟨y2, y3, y16, y17, rfl, rfl⟩
 clear y16 y17 y18 y2 y3
 rintro f50 _ ⟨y2, y3, y16, y17, y18, rfl⟩
 refine ⟨_, ?_, k + 1, v43, rfl, (by omega), y2, y3, y16, y17, (Eq.trans y18 (congrArg I (by omega))), (St.drop (show St H0 NoB (SZ S H0) [rowE 74 v43 (m.Rows.take (k + 1) : List Entry), bE g8 #[v43, I (m.MNum), I (m.MDen), r14, I (m.MRest)] 71, bE g30 #[r36o2, I ((nth m.Rows k).ENum), I ((nth m.Rows k).EDen), r36o6, I ((nth m.Rows k).ERest)] 74, rdE r36o6 (((nth m.Rows k).ECells)), rdE r36o2 (((nth m.Rows k).Args)), rdE r14 m.MCells, bE g4 #[nS, I (0), I (0), nS, I (0)] 71, bE g1 #[vr, I (m.MNum), I (m.MDen), vc, I (m.MRest)] 71, rdE vr m.Rows, rdE vc m.MCells] H49 from (hS49.front 1 rfl)) (sk (sk (sn (sn (sn (sk (sk (sk (sk (sk (List.Sublist.slnil))))))))))))⟩
 omega
set_option maxHeartbeats 1000000 in
set_option maxRecDepth 100000 in
theorem Down_A {H0 : Heap} {S : Nat → Prop} (vD vN vH vM : Value) (a : Ask) (w : Wld) (rvD : Rd S H0 vD a.Decls) (rvN : Rd S H0 vN a.Nodes) (rvH : Rd S H0 vH a.Hold) (rvM : Rd S H0 vM w.Means) : CallsH Try.prog 14 #[Vg #[vD, vN, vH], Vg #[vM]] H0 (fun rv_ H' => Ext NoB H0 H' ∧ ∃ w_, rv_ = Value.tuple #[Vg #[w_], Vg #[I (downF a w).1, I (downF a w).2]] ∧ Rd (SZ S H0) H' w_ (downW a w).Means) := by
 have hsD : a.Decls.length * 48 ≤ 140737488355328 := (Rd.list.1 rvD).bound
 have hsN : a.Nodes.length * 64 ≤ 140737488355328 := (Rd.list.1 rvN).bound
 have hsM : w.Means.length * 72 ≤ 140737488355328 := (Rd.list.1 rvM).bound
 have hS0 : St H0 NoB (SZ S H0) [rdE vD a.Decls, rdE vN a.Nodes, rdE vH a.Hold, rdE vM w.Means] H0 := St.arg (St.arg (St.arg (St.arg (St.start (fun _ h => h.2)) (Bl0.nil) rvM (fun _ h => h.1)) (Bl0.cons (Bl0.nil)) rvH (fun _ h => h.1)) (Bl0.cons (Bl0.cons (Bl0.nil))) rvN (fun _ h => h.1)) (Bl0.cons (Bl0.cons (Bl0.cons (Bl0.nil)))) rvD (fun _ h => h.1)
 refine callsH_of_wpF (args := [Vg #[vD, vN, vH], Vg #[vM]]) (rs := [.cell 4 47, .cell 5 28]) Try.func14 rfl Try.ntmps14 Try.results14 (by kernel_rfl) (Nat.le_of_ble_eq_true rfl) ?_
 have y0 : argF [Vg #[vD, vN, vH], Vg #[vM]] 0 = Vg #[vD, vN, vH] := rfl
 have y1 : argF [Vg #[vD, vN, vH], Vg #[vM]] 1 = Vg #[vM] := rfl
 generalize argF [Vg #[vD, vN, vH], Vg #[vM]] = f0 at *
 refine fcr (fun f H => ∃ (g1 : Nat), ∃ (g4 : Nat), ∃ (g7 : Nat), ∃ (g10 : Nat), f 2 = PT g1 0 ∧ f 3 = PT g4 0 ∧ f 4 = PT g7 0 ∧ f 5 = PT g10 0 ∧ St H0 NoB (SZ S H0) [bE g10 #[I (0), I (0)] 28, bE g7 #[nS] 47, bE g4 #[vM] 47, bE g1 #[vD, vN, vH] 26, rdE vD a.Decls, rdE vN a.Nodes, rdE vH a.Hold, rdE vM w.Means] H) ?_ ?_
 ·refine lo rfl ?_
  refine e_box (v := Vg #[vD, vN, vH]) rfl y0 hS0 (fun g1 H2 hS3 hxx => ?_)
  refine lo rfl ?_
  refine e_box (v := Vg #[vM]) rfl y1 hS3 (fun g4 H5 hS6 hxx => ?_)
  refine lo rfl ?_
  refine e_alloc rfl Try.zeroValue47 hS6 (fun g7 H8 hS9 hxx => ?_)
  refine lo rfl ?_
  refine e_alloc rfl Try.zeroValue28 hS9 (fun g10 H11 hS12 hxx => ?_)
  exact ⟨g1, g4, g7, g10, rfl, rfl, rfl, rfl, hS12⟩
 clear y0 y1
 rintro f13 H13 ⟨g1, g4, g7, g10, y2, y3, y4, y5, hS13⟩
 refine wpF_seq ?_
 refine fcr (fun f H => ∃ (g17 : Nat), f 2 = PT g1 0 ∧ f 3 = PT g4 0 ∧ f 4 = PT g7 0 ∧ f 5 = PT g10 0 ∧ f 6 = PT g17 0 ∧ St H0 NoB (SZ S H0) [bE g17 #[I (((meanF a w)).1), I (((meanF a w)).2)] 28, bE g10 #[I (0), I (0)] 28, bE g7 #[nS] 47, bE g4 #[vM] 47, bE g1 #[vD, vN, vH] 26, rdE vD a.Decls, rdE vN a.Nodes, rdE vH a.Hold, rdE vM w.Means] H) ?_ ?_
 ·refine lq rfl (q_loadBlkA rfl y2 Try.isAgg26 Try.sizeOf26 rfl (hS13.blk 3 rfl) (fun h => h)) ?_
  refine lq rfl (q_loadBlkA rfl y3 Try.isAgg47 Try.sizeOf47 rfl (hS13.blk 2 rfl) (fun h => h)) ?_
  refine lo rfl ?_
  refine e_call rfl Try.call15 (arr2 (v0 := Vg #[vD, vN, vH]) (v1 := Vg #[vM]) rfl rfl) (Check_M vD vN vH vM a w (hS13.rdN 4 rfl) (hS13.rdN 5 rfl) (hS13.rdN 6 rfl) (hS13.rdN 7 rfl) ) ?_
  rintro _ H14 ⟨hxx, rfl⟩
  have hS15 := hS13.ext hxx
  refine lo rfl ?_
  refine e_alloc rfl Try.zeroValue28 hS15 (fun g17 H18 hS19 hxx => ?_)
  refine lo rfl ?_
  refine e_storeBlkA (cs' := #[I (((meanF a w)).1), I (((meanF a w)).2)]) rfl rfl rfl Try.sizeOf28 rfl rfl (fa rfl (fa rfl fe)) hS19 (fun H20 hS21 hxx => ?_)
  exact ⟨g17, y2, y3, y4, y5, rfl, hS21⟩
 clear y2 y3 y4 y5
 rintro f22 H22 ⟨g17, y2, y3, y4, y5, y6, hS22⟩
 refine fcr (fun f H => f 2 = PT g1 0 ∧ f 3 = PT g4 0 ∧ f 4 = PT g7 0 ∧ f 5 = PT g10 0 ∧ f 6 = PT g17 0 ∧ f 20 = B (decide ((((meanF a w)).1) ≠ 0)) ∧ H22 = H) ?_ ?_
 ·refine lq rfl (q_fieldAddr rfl Try.underlying28 rfl Try.sizeOf3 y6) ?_
  refine lq rfl (q_loadBlk rfl rfl Try.isAgg3 (hS22.blk 0 rfl) rfl (fun h => h)) ?_
  refine lq rfl (q_neq rfl rfl rfl) ?_
  exact ⟨y2, y3, y4, y5, y6, rfl, rfl⟩
 clear y2 y3 y4 y5 y6
 rintro f23 _ ⟨y2, y3, y4, y5, y6, y20, rfl⟩
 refine wpF_condP y20 (fun h20 => ?t129) (fun h20 => ?e129)
 case t129 =>
  refine sc (fun f H => f 4 = PT g7 0 ∧ f 5 = PT g10 0 ∧ St H0 NoB (SZ S H0) [bE g10 #[I (((meanF a w)).1), I (((meanF a w)).2)] 28, bE g7 #[nS] 47, bE g17 #[I (((meanF a w)).1), I (((meanF a w)).2)] 28, bE g4 #[vM] 47, bE g1 #[vD, vN, vH] 26, rdE vD a.Decls, rdE vN a.Nodes, rdE vH a.Hold, rdE vM w.Means] H) ?_ ?_
  ·refine wpF_drawn [none, none, some 0, some 1] [[], [0], [], []] (fun l b => match l with | 0 => b = g7 | 1 => True | _ => False) (by kernel_rfl) (by kernel_rfl) ?_
   refine rq 0 (by kernel_rfl) rfl rfl (q_build (v := Vg #[nS]) rfl par0 (fun w__ => by kernel_rfl)) ?_
   refine rq 1 (by kernel_rfl) rfl rfl (q_loadBlkA rfl y6 Try.isAgg28 Try.sizeOf28 rfl (hS22.blk 0 rfl) (labU_not [0] rfl (fa (fun hb => hS22.dis 0 2 (by decide) rfl rfl _ rfl hb) fe))) ?_
   refine wpR_n [2] (by kernel_rfl) ?_
   refine fa ?_ fe
   refine exE rfl rfl ?_
   refine e_storeBlkA (cs' := #[nS]) rfl y4 rfl Try.sizeOf47 rfl rfl (fa rfl fe) (hS22.front 2 rfl) (fun H25o2 hS25o2 hxx => ?_)
   refine ⟨Ext.mono hxx (labS_of 0 rfl (fun b hb => hb)), ?_⟩
   refine wpR_n [3] (by kernel_rfl) ?_
   refine fa ?_ fe
   refine exE rfl rfl ?_
   refine e_storeBlkA (cs' := #[I (((meanF a w)).1), I (((meanF a w)).2)]) rfl y5 rfl Try.sizeOf28 rfl rfl (fa rfl (fa rfl fe)) (hS25o2.front 2 rfl) (fun H25o3 hS25o3 hxx => ?_)
   refine ⟨Ext.mono hxx (labS_of 1 rfl (fun _ _ => trivial)), ?_⟩
   refine wpR_end (by kernel_rfl) ?_
   exact ⟨y4, y5, hS25o3⟩
  clear y2 y20 y3 y4 y5 y6
  rintro f26 H26 ⟨y4, y5, hS26⟩
  refine wpF_ret ?_
  refine ⟨_, resC y4 (loadV_blkA Try.isAgg47 Try.sizeOf47 rfl (hS26.blk 1 rfl)) (resC y5 (loadV_blkA Try.isAgg28 Try.sizeOf28 rfl (hS26.blk 0 rfl)) (resN)), hS26.frame, ?_⟩
  show ∃ w_, (Value.tuple #[Vg #[nS], Vg #[I (((meanF a w)).1), I (((meanF a w)).2)]]) = Value.tuple #[Vg #[w_], Vg #[I (downF a w).1, I (downF a w).2]] ∧ Rd (SZ S H0) H26 w_ (downW a w).Means
  have hq_ : downF a w = _ := downF_mean h20
  exact ⟨_, by rw [hq_], by rw [downW_bad (by rw [hq_]; exact h20)]; exact rdNil⟩
 have hM : MeanOk a w := meanOk (Decidable.of_not_not h20)
 have hmm := hM.len
 have hfew := hM.ask.few
 refine wpF_skip ?_
 refine fcr (fun f H => ∃ (g27 : Nat), f 2 = PT g1 0 ∧ f 3 = PT g4 0 ∧ f 4 = PT g7 0 ∧ f 5 = PT g10 0 ∧ f 7 = PT g27 0 ∧ St H0 NoB (SZ S H0) [bE g27 #[nS] 47, bE g17 #[I (((meanF a w)).1), I (((meanF a w)).2)] 28, bE g10 #[I (0), I (0)] 28, bE g7 #[nS] 47, bE g4 #[vM] 47, bE g1 #[vD, vN, vH] 26, rdE vD a.Decls, rdE vN a.Nodes, rdE vH a.Hold, rdE vM w.Means] H) ?_ ?_
 ·refine lo rfl ?_
  refine e_alloc rfl Try.zeroValue47 hS22 (fun g27 H28 hS29 hxx => ?_)
  exact ⟨g27, y2, y3, y4, y5, rfl, hS29⟩
 clear y2 y20 y3 y4 y5 y6
 rintro f30 H30 ⟨g27, y2, y3, y4, y5, y7, hS30⟩
 have hS31 : St H0 NoB (SZ S H0) [rowE 71 nS ([] : List Meaning), bE g27 #[nS] 47, bE g17 #[I (((meanF a w)).1), I (((meanF a w)).2)] 28, bE g10 #[I (0), I (0)] 28, bE g7 #[nS] 47, bE g4 #[vM] 47, bE g1 #[vD, vN, vH] 26, rdE vD a.Decls, rdE vN a.Nodes, rdE vH a.Hold, rdE vM w.Means] H30 := hS30.row0 71
 refine wpF_seq ?_
 refine fcr (fun f H => f 3 = PT g4 0 ∧ f 4 = PT g7 0 ∧ f 5 = PT g10 0 ∧ f 7 = PT g27 0 ∧ f 24 = vD ∧ f 25 = I ((a.Decls.length : Int)) ∧ f 26 = I (0) ∧ H30 = H) ?_ ?_
 ·refine lq rfl (q_fieldAddr rfl Try.underlying26 rfl Try.sizeOf22 y2) ?_
  refine lq rfl (q_loadBlk rfl rfl Try.isAgg22 (hS31.blk 6 rfl) rfl (fun h => h)) ?_
  refine lq rfl (q_lenRd rfl Try.underlying22 rfl (hS31.rdl 7 rfl)) ?_
  refine lm (v := I (0)) rfl rfl rfl ?_
  exact ⟨y3, y4, y5, y7, rfl, rfl, rfl, rfl⟩
 clear y2 y3 y4 y5 y7
 rintro f32 _ ⟨y3, y4, y5, y7, y24, y25, y26, rfl⟩
 refine wpF_block ?_
 refine wpF_loop (fun mz f H => ∃ (k : Nat), ∃ (vo : Value), mz = a.Decls.length - k ∧ (k ≤ a.Decls.length) ∧ (∀ j, j < k → ¬ downMuch a w j) ∧ f 3 = PT g4 0 ∧ f 4 = PT g7 0 ∧ f 5 = PT g10 0 ∧ f 7 = PT g27 0 ∧ f 24 = vD ∧ f 25 = I ((a.Decls.length : Int)) ∧ f 26 = I ((k : Int)) ∧ St H0 NoB (SZ S H0) [rowE 71 vo (downTo a w k : List Meaning), bE g27 #[vo] 47, bE g17 #[I (((meanF a w)).1), I (((meanF a w)).2)] 28, bE g10 #[I (0), I (0)] 28, bE g7 #[nS] 47, bE g4 #[vM] 47, bE g1 #[vD, vN, vH] 26, rdE vD a.Decls, rdE vN a.Nodes, rdE vH a.Hold, rdE vM w.Means] H) (a.Decls.length - 0) ?_ ?_
 ·exact ⟨0, nS, rfl, Nat.zero_le _, (fun j hj => absurd hj (Nat.not_lt_zero j)), y3, y4, y5, y7, y24, y25, (Eq.trans y26 (congrArg I (by omega))), (show St H0 NoB (SZ S H0) [rowE 71 nS (downTo a w 0 : List Meaning), bE g27 #[nS] 47, bE g17 #[I (((meanF a w)).1), I (((meanF a w)).2)] 28, bE g10 #[I (0), I (0)] 28, bE g7 #[nS] 47, bE g4 #[vM] 47, bE g1 #[vD, vN, vH] 26, rdE vD a.Decls, rdE vN a.Nodes, rdE vH a.Hold, rdE vM w.Means] H30 from hS31)⟩
 intro m33 f33 H33 hI33
 clear y24 y25 y26 y3 y4 y5 y7
 obtain ⟨k, vo, hm33, hk, hp, y3, y4, y5, y7, y24, y25, y26, hS33⟩ := hI33
 refine fcr (fun f H => f 3 = PT g4 0 ∧ f 4 = PT g7 0 ∧ f 5 = PT g10 0 ∧ f 7 = PT g27 0 ∧ f 24 = vD ∧ f 25 = I ((a.Decls.length : Int)) ∧ f 26 = I ((k : Int)) ∧ f 27 = B (decide ((k : Int) < (a.Decls.length : Int))) ∧ H33 = H) ?_ ?_
 ·refine lq rfl (q_lss rfl y26 y25) ?_
  exact ⟨y3, y4, y5, y7, y24, y25, y26, rfl, rfl⟩
 clear y24 y25 y26 y3 y4 y5 y7
 rintro f34 _ ⟨y3, y4, y5, y7, y24, y25, y26, y27, rfl⟩
 refine wpF_seq ?_
 refine wpF_condP y27 (fun hlt => ?t128) (fun hlt => ?e128)
 case e128 =>
  obtain rfl : k = a.Decls.length := by omega
  refine wpF_exit ?_
  refine atX_here ?_
  refine fcr (fun f H => f 4 = PT g7 0 ∧ f 5 = PT g10 0 ∧ St H0 NoB (SZ S H0) [bE g10 #[I (0), I (0)] 28, bE g7 #[vo] 47, rowE 71 vo (downTo a w a.Decls.length : List Meaning), bE g27 #[vo] 47, bE g17 #[I (((meanF a w)).1), I (((meanF a w)).2)] 28, bE g4 #[vM] 47, bE g1 #[vD, vN, vH] 26, rdE vD a.Decls, rdE vN a.Nodes, rdE vH a.Hold, rdE vM w.Means] H) ?_ ?_
  ·refine lq rfl (q_loadBlkA rfl y7 Try.isAgg47 Try.sizeOf47 rfl (hS33.blk 1 rfl) (fun h => h)) ?_
   refine lq rfl (q_build (v := Vg #[I (0), I (0)]) rfl par0 (fun w__ => by kernel_rfl)) ?_
   refine lo rfl ?_
   refine e_storeBlkA (cs' := #[vo]) rfl y4 rfl Try.sizeOf47 rfl rfl (fa ((oneCell_rdL (hS33.rowl 0 rfl))) fe) (hS33.front 4 rfl) (fun H122 hS123 hxx => ?_)
   refine lo rfl ?_
   refine e_storeBlkA (cs' := #[I (0), I (0)]) rfl y5 rfl Try.sizeOf28 rfl rfl (fa rfl (fa rfl fe)) (hS123.front 4 rfl) (fun H124 hS125 hxx => ?_)
   exact ⟨y4, y5, hS125⟩
  clear y24 y25 y26 y27 y3 y4 y5 y7
  rintro f126 H126 ⟨y4, y5, hS126⟩
  refine wpF_ret ?_
  refine ⟨_, resC y4 (loadV_blkA Try.isAgg47 Try.sizeOf47 rfl (hS126.blk 1 rfl)) (resC y5 (loadV_blkA Try.isAgg28 Try.sizeOf28 rfl (hS126.blk 0 rfl)) (resN)), hS126.frame, ?_⟩
  show ∃ w_, (Value.tuple #[Vg #[vo], Vg #[I (0), I (0)]]) = Value.tuple #[Vg #[w_], Vg #[I (downF a w).1, I (downF a w).2]] ∧ Rd (SZ S H0) H126 w_ (downW a w).Means
  have hS127 : St H0 NoB (SZ S H0) [rdE vo (downTo a w a.Decls.length), bE g10 #[I (0), I (0)] 28, bE g7 #[vo] 47, bE g27 #[vo] 47, bE g17 #[I (((meanF a w)).1), I (((meanF a w)).2)] 28, bE g4 #[vM] 47, bE g1 #[vD, vN, vH] 26, rdE vD a.Decls, rdE vN a.Nodes, rdE vH a.Hold, rdE vM w.Means] H126 := St.fin (hS126.front 2 rfl)
  have hq_ : downF a w = _ := downF_ok h20 hp
  exact ⟨_, by rw [hq_], by rw [downW_ok hq_]; exact (hS127.result (hS127.rdS 0 rfl))⟩
 have hdl := downTo_len (a := a) (w := w) (k := k)
 refine wpF_skip ?_
 refine sc (fun f H => ∃ (vo2 : Value), (¬ downMuch a w k) ∧ f 3 = PT g4 0 ∧ f 4 = PT g7 0 ∧ f 5 = PT g10 0 ∧ f 7 = PT g27 0 ∧ f 24 = vD ∧ f 25 = I ((a.Decls.length : Int)) ∧ f 26 = I ((k : Int)) ∧ St H0 NoB (SZ S H0) [rowE 71 vo2 (downTo a w (k + 1) : List Meaning), bE g27 #[vo2] 47, bE g17 #[I (((meanF a w)).1), I (((meanF a w)).2)] 28, bE g10 #[I (0), I (0)] 28, bE g7 #[nS] 47, bE g4 #[vM] 47, bE g1 #[vD, vN, vH] 26, rdE vD a.Decls, rdE vN a.Nodes, rdE vH a.Hold, rdE vM w.Means] H) ?_ ?_
 ·refine wpF_block ?_
  refine fcr (fun f H => ∃ (u37n1 : Value), ∃ (g39 : Nat), ((nth a.Decls k).Name.size ≤ maxLen) ∧ (In64 (nth a.Decls k).Srt) ∧ f 3 = PT g4 0 ∧ f 4 = PT g7 0 ∧ f 5 = PT g10 0 ∧ f 7 = PT g27 0 ∧ f 8 = I ((k : Int)) ∧ f 9 = PT g39 0 ∧ f 24 = vD ∧ f 25 = I ((a.Decls.length : Int)) ∧ f 26 = I ((k : Int)) ∧ St H0 NoB (SZ S H0) [bE g39 #[SB ((nth a.Decls k).Name), u37n1, I ((nth a.Decls k).Srt)] 43, rdE u37n1 ((nth a.Decls k).Args), rowE 71 vo (downTo a w k : List Meaning), bE g27 #[vo] 47, bE g17 #[I (((meanF a w)).1), I (((meanF a w)).2)] 28, bE g10 #[I (0), I (0)] 28, bE g7 #[nS] 47, bE g4 #[vM] 47, bE g1 #[vD, vN, vH] 26, rdE vD a.Decls, rdE vN a.Nodes, rdE vH a.Hold, rdE vM w.Means] H) ?_ ?_
  ·refine lm (v := I ((k : Int))) rfl rfl y26 ?_
   refine lq rfl (q_indexRd (k := k) rfl Try.underlying22 el_Decl_43_ArrD1 y24 y26 (hS33.rdl 7 rfl) (by omega) (by omega)) ?_
   obtain ⟨u37, huu37, hlu37⟩ := (Rd.list.1 (hS33.rdS 7 rfl)).elem k (by omega)
   obtain ⟨u37n1, rfl, hu370, hu371, hu372⟩ := Rd.decl.1 huu37
   have hS38 := hS33.rd hu371
   refine lq rfl (q_loadE rfl rfl (hlu37 Try.prog 43 _ el_Decl_43_ArrD1 (fun _ h => False.elim h))) ?_
   refine lo rfl ?_
   refine e_alloc rfl Try.zeroValue43 hS38 (fun g39 H40 hS41 hxx => ?_)
   refine la (v := I ((k : Int))) rfl rfl rfl ?_
   refine lo rfl ?_
   refine e_storeBlkA (cs' := #[SB ((nth a.Decls k).Name), u37n1, I ((nth a.Decls k).Srt)]) rfl rfl rfl Try.sizeOf43 rfl rfl (fa rfl (fa ((oneCell_rdL (hS41.rdl 1 rfl))) (fa rfl fe))) hS41 (fun H42 hS43 hxx => ?_)
   exact ⟨u37n1, g39, hu370, hu372, y3, y4, y5, y7, rfl, rfl, y24, y25, y26, hS43⟩
  clear y24 y25 y26 y27 y3 y4 y5 y7
  rintro f44 H44 ⟨u37n1, g39, hu370, hu372, y3, y4, y5, y7, y8, y9, y24, y25, y26, hS44⟩
  refine fcr (fun f H => ∃ (u45n0 : Value), ∃ (u45n3 : Value), ∃ (g48 : Nat), (In64 (nth w.Means k).MNum) ∧ (In64 (nth w.Means k).MDen) ∧ (In64 (nth w.Means k).MRest) ∧ f 3 = PT g4 0 ∧ f 4 = PT g7 0 ∧ f 5 = PT g10 0 ∧ f 7 = PT g27 0 ∧ f 8 = I ((k : Int)) ∧ f 9 = PT g39 0 ∧ f 10 = PT g48 0 ∧ f 24 = vD ∧ f 25 = I ((a.Decls.length : Int)) ∧ f 26 = I ((k : Int)) ∧ St H0 NoB (SZ S H0) [bE g48 #[u45n0, I ((nth w.Means k).MNum), I ((nth w.Means k).MDen), u45n3, I ((nth w.Means k).MRest)] 71, rdE u45n3 ((nth w.Means k).MCells), rdE u45n0 ((nth w.Means k).Rows), bE g39 #[SB ((nth a.Decls k).Name), u37n1, I ((nth a.Decls k).Srt)] 43, rdE u37n1 ((nth a.Decls k).Args), rowE 71 vo (downTo a w k : List Meaning), bE g27 #[vo] 47, bE g17 #[I (((meanF a w)).1), I (((meanF a w)).2)] 28, bE g10 #[I (0), I (0)] 28, bE g7 #[nS] 47, bE g4 #[vM] 47, bE g1 #[vD, vN, vH] 26, rdE vD a.Decls, rdE vN a.Nodes, rdE vH a.Hold, rdE vM w.Means] H) ?_ ?_
  ·refine lq rfl (q_fieldAddr rfl Try.underlying47 rfl Try.sizeOf45 y3) ?_
   refine lq rfl (q_loadBlk rfl rfl Try.isAgg45 (hS44.blk 7 rfl) rfl (fun h => h)) ?_
   refine lm (v := I ((k : Int))) rfl rfl y8 ?_
   refine lq rfl (q_indexRd (k := k) rfl Try.underlying45 el_Meaning_71_ArrD1 rfl rfl (hS44.rdl 12 rfl) (by omega) (by omega)) ?_
   obtain ⟨u45, huu45, hlu45⟩ := (Rd.list.1 (hS44.rdS 12 rfl)).elem k (by omega)
   obtain ⟨u45n0, u45n3, rfl, hu450, hu451, hu452, hu453, hu454⟩ := Rd.meaning.1 huu45
   have hS46 := hS44.rd hu450
   have hS47 : St H0 NoB (SZ S H0) [rdE u45n3 ((nth w.Means k).MCells), rdE u45n0 ((nth w.Means k).Rows), bE g39 #[SB ((nth a.Decls k).Name), u37n1, I ((nth a.Decls k).Srt)] 43, rdE u37n1 ((nth a.Decls k).Args), rowE 71 vo (downTo a w k : List Meaning), bE g27 #[vo] 47, bE g17 #[I (((meanF a w)).1), I (((meanF a w)).2)] 28, bE g10 #[I (0), I (0)] 28, bE g7 #[nS] 47, bE g4 #[vM] 47, bE g1 #[vD, vN, vH] 26, rdE vD a.Decls, rdE vN a.Nodes, rdE vH a.Hold, rdE vM w.Means] H44 := hS46.rd (hu453.sub fun _ hb => SL_rd hb)
   refine lq rfl (q_loadE rfl rfl (hlu45 Try.prog 71 _ el_Meaning_71_ArrD1 (fun _ h => False.elim h))) ?_
   refine lo rfl ?_
   refine e_alloc rfl Try.zeroValue71 hS47 (fun g48 H49 hS50 hxx => ?_)
   refine lo rfl ?_
   refine e_storeBlkA (cs' := #[u45n0, I ((nth w.Means k).MNum), I ((nth w.Means k).MDen), u45n3, I ((nth w.Means k).MRest)]) rfl rfl rfl Try.sizeOf71 rfl rfl (fa ((oneCell_rdL (hS50.rdl 2 rfl))) (fa rfl (fa rfl (fa ((oneCell_rdL (hS50.rdl 1 rfl))) (fa rfl fe))))) hS50 (fun H51 hS52 hxx => ?_)
   exact ⟨u45n0, u45n3, g48, hu451, hu452, hu454, y3, y4, y5, y7, y8, y9, rfl, y24, y25, y26, hS52⟩
  clear y24 y25 y26 y3 y4 y5 y7 y8 y9
  rintro f53 H53 ⟨u45n0, u45n3, g48, hu451, hu452, hu454, y3, y4, y5, y7, y8, y9, y10, y24, y25, y26, hS53⟩
  refine wpF_seq ?_
  refine fcr (fun f H => f 3 = PT g4 0 ∧ f 4 = PT g7 0 ∧ f 5 = PT g10 0 ∧ f 7 = PT g27 0 ∧ f 8 = I ((k : Int)) ∧ f 10 = PT g48 0 ∧ f 24 = vD ∧ f 25 = I ((a.Decls.length : Int)) ∧ f 26 = I ((k : Int)) ∧ f 38 = B (decide (((nth a.Decls k).Srt) ≠ 5)) ∧ H53 = H) ?_ ?_
  ·refine lq rfl (q_fieldAddr rfl Try.underlying43 rfl Try.sizeOf3 y9) ?_
   refine lq rfl (q_loadBlk rfl rfl Try.isAgg3 (hS53.blk 3 rfl) rfl (fun h => h)) ?_
   refine lq rfl (q_neq rfl rfl rfl) ?_
   exact ⟨y3, y4, y5, y7, y8, y10, y24, y25, y26, rfl, rfl⟩
  clear y10 y24 y25 y26 y3 y4 y5 y7 y8 y9
  rintro f54 _ ⟨y3, y4, y5, y7, y8, y10, y24, y25, y26, y38, rfl⟩
  refine wpF_condP y38 (fun h38 => ?t120) (fun h38 => ?e120)
  case t120 =>
   refine sc (fun f H => ∃ (v56o5 : Value), (In64 (nth w.Means k).MNum) ∧ (In64 (nth w.Means k).MDen) ∧ (In64 (nth w.Means k).MRest) ∧ f 3 = PT g4 0 ∧ f 4 = PT g7 0 ∧ f 5 = PT g10 0 ∧ f 7 = PT g27 0 ∧ f 24 = vD ∧ f 25 = I ((a.Decls.length : Int)) ∧ f 26 = I ((k : Int)) ∧ St H0 NoB (SZ S H0) [bE g27 #[v56o5] 47, rowE 71 v56o5 (downTo a w (k + 1) : List Meaning), bE g48 #[u45n0, I ((nth w.Means k).MNum), I ((nth w.Means k).MDen), u45n3, I ((nth w.Means k).MRest)] 71, rdE u45n3 ((nth w.Means k).MCells), rdE u45n0 ((nth w.Means k).Rows), bE g39 #[SB ((nth a.Decls k).Name), u37n1, I ((nth a.Decls k).Srt)] 43, rdE u37n1 ((nth a.Decls k).Args), bE g17 #[I (((meanF a w)).1), I (((meanF a w)).2)] 28, bE g10 #[I (0), I (0)] 28, bE g7 #[nS] 47, bE g4 #[vM] 47, bE g1 #[vD, vN, vH] 26, rdE vD a.Decls, rdE vN a.Nodes, rdE vH a.Hold, rdE vM w.Means] H) ?_ ?_
   ·refine wpF_drawn [none, none, none, none, none, some 0, none, some 1] [[], [], [], [], [], [], [], []] (fun l b => match l with | 0 => True | 1 => True | _ => False) (by kernel_rfl) (by kernel_rfl) ?_
    refine rq 0 (by kernel_rfl) rfl rfl (q_fieldAddr rfl Try.underlying47 rfl Try.sizeOf45 y7) ?_
    refine rq 1 (by kernel_rfl) rfl rfl (q_loadBlk rfl rfl Try.isAgg45 (hS53.blk 6 rfl) rfl (labU_not [] rfl (fe))) ?_
    refine rq 2 (by kernel_rfl) rfl rfl (q_loadBlkA rfl y10 Try.isAgg71 Try.sizeOf71 rfl (hS53.blk 0 rfl) (labU_not [] rfl (fe))) ?_
    refine wpR_n [3] (by kernel_rfl) ?_
    refine fa ?_ fe
    refine exE rfl rfl ?_
    refine e_call rfl Try.call23 (arr1 (v0 := Vg #[u45n0, I ((nth w.Means k).MNum), I ((nth w.Means k).MDen), u45n3, I ((nth w.Means k).MRest)]) rfl) (Copied_A u45n0 u45n3 (nth w.Means k) (hS53.rdS 2 rfl) (by first | assumption | exact bitP_in | exact wrap_in64 | (constructor <;> (dsimp only; omega)) | (constructor <;> omega)) (by first | assumption | exact bitP_in | exact wrap_in64 | (constructor <;> (dsimp only; omega)) | (constructor <;> omega)) (hS53.rdS 1 rfl) (by first | assumption | exact bitP_in | exact wrap_in64 | (constructor <;> (dsimp only; omega)) | (constructor <;> omega))) ?_
    rintro _ H56o3 ⟨hxx, r56o3, r56o3x2, rfl, hrr56o3, hrr56o3x2, h6r56o3a, h6r56o3b, h6r56o3c⟩
    have hS56o3 := (hS53.res2 hxx hrr56o3 hrr56o3x2)
    refine ⟨Ext.mono hxx (fun _ h => h.elim), ?_⟩
    refine wpR_n [4] (by kernel_rfl) ?_
    refine fa ?_ fe
    refine exE rfl rfl ?_
    refine e_buildSlice (vs := [Vg #[r56o3, I ((nth w.Means k).MNum), I ((nth w.Means k).MDen), r56o3x2, I ((nth w.Means k).MRest)]]) (xs := ([(nth w.Means k)] : List Meaning)) rfl Try.underlying45 Try.zeroValue71 rfl Try.sizeOf71 (par1 (v0 := Vg #[r56o3, I ((nth w.Means k).MNum), I ((nth w.Means k).MDen), r56o3x2, I ((nth w.Means k).MRest)]) rfl) rfl hS56o3 (RdVs.cons (Rd.meaning.2 ⟨_, _, rfl, (hS56o3.rdS 0 rfl), (by first | assumption | (constructor <;> (try dsimp only) <;> omega)), (by first | assumption | (constructor <;> (try dsimp only) <;> omega)), (hS56o3.rdS 1 rfl), (by first | assumption | (constructor <;> (try dsimp only) <;> omega))⟩) (RdVs.nil)) (by decide) (by decide) (fun v56o4 H56o4 hS56o4 hxx hvv56o4 => ?_)
    refine ⟨Ext.mono hxx (fun _ h => h.elim), ?_⟩
    refine wpR_n [5] (by kernel_rfl) ?_
    refine fa ?_ fe
    have hS56o5 : St H0 NoB (SZ S H0) [rdE v56o4 ([(nth w.Means k)] : List Meaning), rdE r56o3 ((nth w.Means k).Rows), rdE r56o3x2 ((nth w.Means k).MCells), bE g48 #[u45n0, I ((nth w.Means k).MNum), I ((nth w.Means k).MDen), u45n3, I ((nth w.Means k).MRest)] 71, rdE u45n3 ((nth w.Means k).MCells), rdE u45n0 ((nth w.Means k).Rows), bE g39 #[SB ((nth a.Decls k).Name), u37n1, I ((nth a.Decls k).Srt)] 43, rdE u37n1 ((nth a.Decls k).Args), rowE 71 vo (downTo a w k : List Meaning), bE g27 #[vo] 47, bE g17 #[I (((meanF a w)).1), I (((meanF a w)).2)] 28, bE g10 #[I (0), I (0)] 28, bE g7 #[nS] 47, bE g4 #[vM] 47, bE g1 #[vD, vN, vH] 26, rdE vD a.Decls, rdE vN a.Nodes, rdE vH a.Hold, rdE vM w.Means] H56o4 := St.fin hS56o4
    have hS56o5x2 := (hS56o5.front 8 rfl)
    refine exE rfl rfl ?_
    refine e_append rfl Try.underlying45 em_Meaning_71_ArrD1 rfl rfl hS56o5x2 (hS56o5x2.rdS 1 rfl) (fun _ h => h) (by have hb : GoT.bytes Meaning = 72 := rfl; rw [hb]; simp only [List.length_append, List.length_cons, List.length_nil]; omega) (by decide) (fun v56o5 H56o5 hS56o5x3 hxx => ?_)
    have hS56o5x4 : St H0 NoB (SZ S H0) [rowE 71 v56o5 (downTo a w (k + 1) : List Meaning), rdE v56o4 ([(nth w.Means k)] : List Meaning), rdE r56o3 ((nth w.Means k).Rows), rdE r56o3x2 ((nth w.Means k).MCells), bE g48 #[u45n0, I ((nth w.Means k).MNum), I ((nth w.Means k).MDen), u45n3, I ((nth w.Means k).MRest)] 71, rdE u45n3 ((nth w.Means k).MCells), rdE u45n0 ((nth w.Means k).Rows), bE g39 #[SB ((nth a.Decls k).Name), u37n1, I ((nth a.Decls k).Srt)] 43, rdE u37n1 ((nth a.Decls k).Args), bE g27 #[vo] 47, bE g17 #[I (((meanF a w)).1), I (((meanF a w)).2)] 28, bE g10 #[I (0), I (0)] 28, bE g7 #[nS] 47, bE g4 #[vM] 47, bE g1 #[vD, vN, vH] 26, rdE vD a.Decls, rdE vN a.Nodes, rdE vH a.Hold, rdE vM w.Means] H56o5 := by rw [show (downTo a w (k + 1)) = ((downTo a w k) ++ ([(nth w.Means k)])) from (downTo_flat h38).symm]; exact hS56o5x3
    refine ⟨Ext.mono hxx (labS_of 0 rfl (fun _ _ => trivial)), ?_⟩
    refine rq 6 (by kernel_rfl) rfl rfl (q_fieldAddr rfl Try.underlying47 rfl Try.sizeOf45 y7) ?_
    refine wpR_n [7] (by kernel_rfl) ?_
    refine fa ?_ fe
    refine exE rfl rfl ?_
    refine e_storeBlk (v := v56o5) rfl rfl rfl (oneCell_rdL (hS56o5x4.rowl 0 rfl)) Try.sizeOf45 (by show _ < 1; decide) (hS56o5x4.front 9 rfl) (fun H56o7 hS56o7 hxx => ?_)
    refine ⟨Ext.mono hxx (labS_of 1 rfl (fun _ _ => trivial)), ?_⟩
    refine wpR_end (by kernel_rfl) ?_
    exact ⟨v56o5, h6r56o3a, h6r56o3b, h6r56o3c, y3, y4, y5, y7, y24, y25, y26, (hS56o7.drop (sk (sk (sn (sn (sn (sk (sk (sk (sk (sk (sk (sk (sk (sk (sk (sk (sk (sk (sk (List.Sublist.slnil)))))))))))))))))))))⟩
   clear y10 y24 y25 y26 y3 y38 y4 y5 y7 y8
   rintro f57 H57 ⟨v56o5, h6r56o3a, h6r56o3b, h6r56o3c, y3, y4, y5, y7, y24, y25, y26, hS57⟩
   refine wpF_exit ?_
   refine atX_here ?_
   exact ⟨v56o5, (by first | exact fun e => h38 e.1 | exact fun e => h60 e.2), y3, y4, y5, y7, y24, y25, y26, (St.drop (show St H0 NoB (SZ S H0) [rowE 71 v56o5 (downTo a w (k + 1) : List Meaning), bE g27 #[v56o5] 47, bE g48 #[u45n0, I ((nth w.Means k).MNum), I ((nth w.Means k).MDen), u45n3, I ((nth w.Means k).MRest)] 71, rdE u45n3 ((nth w.Means k).MCells), rdE u45n0 ((nth w.Means k).Rows), bE g39 #[SB ((nth a.Decls k).Name), u37n1, I ((nth a.Decls k).Srt)] 43, rdE u37n1 ((nth a.Decls k).Args), bE g17 #[I (((meanF a w)).1), I (((meanF a w)).2)] 28, bE g10 #[I (0), I (0)] 28, bE g7 #[nS] 47, bE g4 #[vM] 47, bE g1 #[vD, vN, vH] 26, rdE vD a.Decls, rdE vN a.Nodes, rdE vH a.Hold, rdE vM w.Means] H57 from (hS57.front 1 rfl)) (sk (sk (sn (sn (sn (sn (sn (sk (sk (sk (sk (sk (sk (sk (sk (sk (List.Sublist.slnil))))))))))))))))))⟩
  refine wpF_skip ?_
  refine fcr (fun f H => ∃ (g58 : Nat), f 3 = PT g4 0 ∧ f 4 = PT g7 0 ∧ f 5 = PT g10 0 ∧ f 7 = PT g27 0 ∧ f 8 = I ((k : Int)) ∧ f 10 = PT g48 0 ∧ f 11 = PT g58 0 ∧ f 24 = vD ∧ f 25 = I ((a.Decls.length : Int)) ∧ f 26 = I ((k : Int)) ∧ St H0 NoB (SZ S H0) [bE g58 #[I ((nth w.Means k).MNum), I ((nth w.Means k).MDen), u45n3, I ((nth w.Means k).MRest)] 69, bE g48 #[u45n0, I ((nth w.Means k).MNum), I ((nth w.Means k).MDen), u45n3, I ((nth w.Means k).MRest)] 71, rdE u45n3 ((nth w.Means k).MCells), rdE u45n0 ((nth w.Means k).Rows), bE g39 #[SB ((nth a.Decls k).Name), u37n1, I ((nth a.Decls k).Srt)] 43, rdE u37n1 ((nth a.Decls k).Args), rowE 71 vo (downTo a w k : List Meaning), bE g27 #[vo] 47, bE g17 #[I (((meanF a w)).1), I (((meanF a w)).2)] 28, bE g10 #[I (0), I (0)] 28, bE g7 #[nS] 47, bE g4 #[vM] 47, bE g1 #[vD, vN, vH] 26, rdE vD a.Decls, rdE vN a.Nodes, rdE vH a.Hold, rdE vM w.Means] H) ?_ ?_
  ·refine lq rfl (q_fieldAddr rfl Try.underlying71 rfl Try.sizeOf69 y10) ?_
   refine lq rfl (q_loadBlkP (ds := [I ((nth w.Means k).MNum), I ((nth w.Means k).MDen), u45n3, I ((nth w.Means k).MRest)]) rfl rfl Try.isAgg69 Try.sizeOf69 rfl rfl (hS53.blk 0 rfl) (fun h => h)) ?_
   refine lo rfl ?_
   refine e_alloc rfl Try.zeroValue69 hS53 (fun g58 H59 hS60 hxx => ?_)
   refine lo rfl ?_
   refine e_storeBlkA (cs' := #[I ((nth w.Means k).MNum), I ((nth w.Means k).MDen), u45n3, I ((nth w.Means k).MRest)]) rfl rfl rfl Try.sizeOf69 rfl rfl (fa rfl (fa rfl (fa ((oneCell_rdL (hS60.rdl 2 rfl))) (fa rfl fe)))) hS60 (fun H61 hS62 hxx => ?_)
   exact ⟨g58, y3, y4, y5, y7, y8, y10, rfl, y24, y25, y26, hS62⟩
  clear y10 y24 y25 y26 y3 y38 y4 y5 y7 y8
  rintro f63 H63 ⟨g58, y3, y4, y5, y7, y8, y10, y11, y24, y25, y26, hS63⟩
  refine wpF_seq ?_
  refine fcr (fun f H => f 3 = PT g4 0 ∧ f 4 = PT g7 0 ∧ f 5 = PT g10 0 ∧ f 7 = PT g27 0 ∧ f 8 = I ((k : Int)) ∧ f 10 = PT g48 0 ∧ f 11 = PT g58 0 ∧ f 24 = vD ∧ f 25 = I ((a.Decls.length : Int)) ∧ f 26 = I ((k : Int)) ∧ f 51 = B (decide (0 < (((nth w.Means k).Rows).length : Int))) ∧ H63 = H) ?_ ?_
  ·refine lq rfl (q_fieldAddr rfl Try.underlying71 rfl Try.sizeOf64 y10) ?_
   refine lq rfl (q_loadBlk rfl rfl Try.isAgg64 (hS63.blk 1 rfl) rfl (fun h => h)) ?_
   refine lq rfl (q_lenRd rfl Try.underlying64 rfl (hS63.rdl 3 rfl)) ?_
   refine lq rfl (q_gtr rfl rfl rfl) ?_
   exact ⟨y3, y4, y5, y7, y8, y10, y11, y24, y25, y26, rfl, rfl⟩
  clear y10 y11 y24 y25 y26 y3 y4 y5 y7 y8
  rintro f64 _ ⟨y3, y4, y5, y7, y8, y10, y11, y24, y25, y26, y51, rfl⟩
  refine wpF_cut (fun f H => ∃ (vC : Value), (In64 (downV (nth w.Means k)).Rest) ∧ f 3 = PT g4 0 ∧ f 4 = PT g7 0 ∧ f 5 = PT g10 0 ∧ f 7 = PT g27 0 ∧ f 8 = I ((k : Int)) ∧ f 11 = PT g58 0 ∧ f 24 = vD ∧ f 25 = I ((a.Decls.length : Int)) ∧ f 26 = I ((k : Int)) ∧ St H0 NoB (SZ S H0) [rdE vC ((downV (nth w.Means k)).Cells), bE g58 #[I ((downV (nth w.Means k)).VNum), I ((downV (nth w.Means k)).VDen), vC, I ((downV (nth w.Means k)).Rest)] 69, bE g39 #[SB ((nth a.Decls k).Name), u37n1, I ((nth a.Decls k).Srt)] 43, rowE 71 vo (downTo a w k : List Meaning), bE g27 #[vo] 47, bE g17 #[I (((meanF a w)).1), I (((meanF a w)).2)] 28, bE g10 #[I (0), I (0)] 28, bE g7 #[nS] 47, bE g4 #[vM] 47, bE g1 #[vD, vN, vH] 26, rdE vD a.Decls, rdE vN a.Nodes, rdE vH a.Hold, rdE vM w.Means] H) ?_ ?_
  ·refine wpF_condP y51 (fun h51 => ?t72) (fun h51 => ?e72)
   case e72 =>
    refine wpF_skip ?_
    exact ⟨u45n3, (by rw [downV_no h51]; exact (by assumption)), y3, y4, y5, y7, y8, y11, y24, y25, y26, (by have h__ := (St.drop (show St H0 NoB (SZ S H0) [rdE u45n3 ((nth w.Means k).MCells), bE g58 #[I ((nth w.Means k).MNum), I ((nth w.Means k).MDen), u45n3, I ((nth w.Means k).MRest)] 69, bE g48 #[u45n0, I ((nth w.Means k).MNum), I ((nth w.Means k).MDen), u45n3, I ((nth w.Means k).MRest)] 71, rdE u45n0 ((nth w.Means k).Rows), bE g39 #[SB ((nth a.Decls k).Name), u37n1, I ((nth a.Decls k).Srt)] 43, rdE u37n1 ((nth a.Decls k).Args), rowE 71 vo (downTo a w k : List Meaning), bE g27 #[vo] 47, bE g17 #[I (((meanF a w)).1), I (((meanF a w)).2)] 28, bE g10 #[I (0), I (0)] 28, bE g7 #[nS] 47, bE g4 #[vM] 47, bE g1 #[vD, vN, vH] 26, rdE vD a.Decls, rdE vN a.Nodes, rdE vH a.Hold, rdE vM w.Means] H63 from (hS63.front 2 rfl)) (sk (sk (sn (sn (sk (sn (sk (sk (sk (sk (sk (sk (sk (sk (sk (sk (sk (List.Sublist.slnil))))))))))))))))))); rw [downV_no h51]; exact h__)⟩
   refine wpF_cut (fun f H => ∃ (u67n3 : Value), (In64 (nth ((nth w.Means k).Rows) 0).ENum) ∧ (In64 (nth ((nth w.Means k).Rows) 0).EDen) ∧ (In64 (nth ((nth w.Means k).Rows) 0).ERest) ∧ f 3 = PT g4 0 ∧ f 4 = PT g7 0 ∧ f 5 = PT g10 0 ∧ f 7 = PT g27 0 ∧ f 8 = I ((k : Int)) ∧ f 11 = PT g58 0 ∧ f 24 = vD ∧ f 25 = I ((a.Decls.length : Int)) ∧ f 26 = I ((k : Int)) ∧ St H0 NoB (SZ S H0) [bE g58 #[I ((nth ((nth w.Means k).Rows) 0).ENum), I ((nth ((nth w.Means k).Rows) 0).EDen), u67n3, I ((nth ((nth w.Means k).Rows) 0).ERest)] 69, rdE u67n3 ((nth ((nth w.Means k).Rows) 0).ECells), bE g48 #[u45n0, I ((nth w.Means k).MNum), I ((nth w.Means k).MDen), u45n3, I ((nth w.Means k).MRest)] 71, rdE u45n3 ((nth w.Means k).MCells), rdE u45n0 ((nth w.Means k).Rows), bE g39 #[SB ((nth a.Decls k).Name), u37n1, I ((nth a.Decls k).Srt)] 43, rdE u37n1 ((nth a.Decls k).Args), rowE 71 vo (downTo a w k : List Meaning), bE g27 #[vo] 47, bE g17 #[I (((meanF a w)).1), I (((meanF a w)).2)] 28, bE g10 #[I (0), I (0)] 28, bE g7 #[nS] 47, bE g4 #[vM] 47, bE g1 #[vD, vN, vH] 26, rdE vD a.Decls, rdE vN a.Nodes, rdE vH a.Hold, rdE vM w.Means] H) ?_ ?_
   ·refine wpF_region ?_
    refine lq rfl (q_fieldAddr rfl Try.underlying71 rfl Try.sizeOf64 y10) ?_
    refine lq rfl (q_loadBlk rfl rfl Try.isAgg64 (hS63.blk 1 rfl) rfl (fun h => h)) ?_
    refine lq rfl (q_indexRd (k := 0) rfl Try.underlying64 el_Entry_74_ArrD1 rfl rfl (hS63.rdl 3 rfl) (by omega) (by omega)) ?_
    refine lq rfl (q_fieldE (k := 0) rfl Try.underlying74 rfl Try.sizeOf69 rfl rfl (hS63.rdl 3 rfl) (by omega)) ?_
    obtain ⟨_, hcu67, hFu67⟩ := RdL.cellsF (Rd.list.1 (hS63.rdS 3 rfl)) 0 (by omega)
    obtain ⟨u67n0, u67n3, rfl, hu670, hu671, hu672, hu673, hu674⟩ := hcu67
    have hS68 : St H0 NoB (SZ S H0) [rdE u67n3 ((nth ((nth w.Means k).Rows) 0).ECells), bE g58 #[I ((nth w.Means k).MNum), I ((nth w.Means k).MDen), u45n3, I ((nth w.Means k).MRest)] 69, bE g48 #[u45n0, I ((nth w.Means k).MNum), I ((nth w.Means k).MDen), u45n3, I ((nth w.Means k).MRest)] 71, rdE u45n3 ((nth w.Means k).MCells), rdE u45n0 ((nth w.Means k).Rows), bE g39 #[SB ((nth a.Decls k).Name), u37n1, I ((nth a.Decls k).Srt)] 43, rdE u37n1 ((nth a.Decls k).Args), rowE 71 vo (downTo a w k : List Meaning), bE g27 #[vo] 47, bE g17 #[I (((meanF a w)).1), I (((meanF a w)).2)] 28, bE g10 #[I (0), I (0)] 28, bE g7 #[nS] 47, bE g4 #[vM] 47, bE g1 #[vD, vN, vH] 26, rdE vD a.Decls, rdE vN a.Nodes, rdE vH a.Hold, rdE vM w.Means] H63 := hS63.rd (Rd.list.2 hu673)
    refine lq rfl (q_loadF rfl rfl (hFu67 1 4 [I ((nth ((nth w.Means k).Rows) 0).ENum), I ((nth ((nth w.Means k).Rows) 0).EDen), u67n3, I ((nth ((nth w.Means k).Rows) 0).ERest)] Try.prog 69 _ rfl rfl Try.isAgg69 Try.sizeOf69 (fun _ h => False.elim h))) ?_
    refine lo rfl ?_
    refine e_storeBlkA (cs' := #[I ((nth ((nth w.Means k).Rows) 0).ENum), I ((nth ((nth w.Means k).Rows) 0).EDen), u67n3, I ((nth ((nth w.Means k).Rows) 0).ERest)]) rfl y11 rfl Try.sizeOf69 rfl rfl (fa rfl (fa rfl (fa ((oneCell_rdL (hS68.rdl 0 rfl))) (fa rfl fe)))) (hS68.front 1 rfl) (fun H69 hS70 hxx => ?_)
    exact ⟨u67n3, hu671, hu672, hu674, y3, y4, y5, y7, y8, y11, y24, y25, y26, hS70⟩
   clear y10 y11 y24 y25 y26 y3 y4 y5 y51 y7 y8
   rintro f71 H71 ⟨u67n3, hu671, hu672, hu674, y3, y4, y5, y7, y8, y11, y24, y25, y26, hS71⟩
   exact ⟨u67n3, (by rw [downV_yes h51]; exact (by assumption)), y3, y4, y5, y7, y8, y11, y24, y25, y26, (by have h__ := (St.drop (show St H0 NoB (SZ S H0) [rdE u67n3 ((nth ((nth w.Means k).Rows) 0).ECells), bE g58 #[I ((nth ((nth w.Means k).Rows) 0).ENum), I ((nth ((nth w.Means k).Rows) 0).EDen), u67n3, I ((nth ((nth w.Means k).Rows) 0).ERest)] 69, bE g48 #[u45n0, I ((nth w.Means k).MNum), I ((nth w.Means k).MDen), u45n3, I ((nth w.Means k).MRest)] 71, rdE u45n3 ((nth w.Means k).MCells), rdE u45n0 ((nth w.Means k).Rows), bE g39 #[SB ((nth a.Decls k).Name), u37n1, I ((nth a.Decls k).Srt)] 43, rdE u37n1 ((nth a.Decls k).Args), rowE 71 vo (downTo a w k : List Meaning), bE g27 #[vo] 47, bE g17 #[I (((meanF a w)).1), I (((meanF a w)).2)] 28, bE g10 #[I (0), I (0)] 28, bE g7 #[nS] 47, bE g4 #[vM] 47, bE g1 #[vD, vN, vH] 26, rdE vD a.Decls, rdE vN a.Nodes, rdE vH a.Hold, rdE vM w.Means] H71 from (hS71.front 1 rfl)) (sk (sk (sn (sn (sn (sk (sn (sk (sk (sk (sk (sk (sk (sk (sk (sk (sk (sk (List.Sublist.slnil)))))))))))))))))))); rw [downV_yes h51]; exact h__)⟩
  clear y10 y11 y24 y25 y26 y3 y4 y5 y51 y7 y8
  rintro f65 H65 ⟨vC, h6r, y3, y4, y5, y7, y8, y11, y24, y25, y26, hS65⟩
  refine wpF_seq ?_
  refine fcr (fun f H => f 3 = PT g4 0 ∧ f 4 = PT g7 0 ∧ f 5 = PT g10 0 ∧ f 7 = PT g27 0 ∧ f 8 = I ((k : Int)) ∧ f 11 = PT g58 0 ∧ f 24 = vD ∧ f 25 = I ((a.Decls.length : Int)) ∧ f 26 = I ((k : Int)) ∧ f 60 = B (decide (1000 < (((downV (nth w.Means k)).Cells).length : Int))) ∧ H65 = H) ?_ ?_
  ·refine lq rfl (q_fieldAddr rfl Try.underlying69 rfl Try.sizeOf67 y11) ?_
   refine lq rfl (q_loadBlk rfl rfl Try.isAgg67 (hS65.blk 1 rfl) rfl (fun h => h)) ?_
   refine lq rfl (q_lenRd rfl Try.underlying67 rfl (hS65.rdl 0 rfl)) ?_
   refine lq rfl (q_gtr rfl rfl rfl) ?_
   exact ⟨y3, y4, y5, y7, y8, y11, y24, y25, y26, rfl, rfl⟩
  clear y11 y24 y25 y26 y3 y4 y5 y7 y8
  rintro f73 _ ⟨y3, y4, y5, y7, y8, y11, y24, y25, y26, y60, rfl⟩
  refine wpF_condP y60 (fun h60 => ?t119) (fun h60 => ?e119)
  case t119 =>
   refine fcr (fun f H => f 4 = PT g7 0 ∧ f 5 = PT g10 0 ∧ St H0 NoB (SZ S H0) [bE g10 #[I (10), I ((k : Int))] 28, bE g7 #[nS] 47, rdE vC ((downV (nth w.Means k)).Cells), bE g58 #[I ((downV (nth w.Means k)).VNum), I ((downV (nth w.Means k)).VDen), vC, I ((downV (nth w.Means k)).Rest)] 69, bE g39 #[SB ((nth a.Decls k).Name), u37n1, I ((nth a.Decls k).Srt)] 43, rowE 71 vo (downTo a w k : List Meaning), bE g27 #[vo] 47, bE g17 #[I (((meanF a w)).1), I (((meanF a w)).2)] 28, bE g4 #[vM] 47, bE g1 #[vD, vN, vH] 26, rdE vD a.Decls, rdE vN a.Nodes, rdE vH a.Hold, rdE vM w.Means] H) ?_ ?_
   ·refine lq rfl (q_build (v := Vg #[nS]) rfl par0 (fun w__ => by kernel_rfl)) ?_
    refine lm (v := I ((k : Int))) rfl rfl y8 ?_
    refine lq rfl (q_build (v := Vg #[I (10), I ((k : Int))]) rfl (par2 (v0 := I (10)) (v1 := I ((k : Int))) rfl rfl) (fun w__ => by kernel_rfl)) ?_
    refine lo rfl ?_
    refine e_storeBlkA (cs' := #[nS]) rfl y4 rfl Try.sizeOf47 rfl rfl (fa rfl fe) (hS65.front 7 rfl) (fun H75 hS76 hxx => ?_)
    refine lo rfl ?_
    refine e_storeBlkA (cs' := #[I (10), I ((k : Int))]) rfl y5 rfl Try.sizeOf28 rfl rfl (fa rfl (fa rfl fe)) (hS76.front 7 rfl) (fun H77 hS78 hxx => ?_)
    exact ⟨y4, y5, hS78⟩
   clear y11 y24 y25 y26 y3 y4 y5 y60 y7 y8
   rintro f79 H79 ⟨y4, y5, hS79⟩
   refine wpF_ret ?_
   refine ⟨_, resC y4 (loadV_blkA Try.isAgg47 Try.sizeOf47 rfl (hS79.blk 1 rfl)) (resC y5 (loadV_blkA Try.isAgg28 Try.sizeOf28 rfl (hS79.blk 0 rfl)) (resN)), hS79.frame, ?_⟩
   show ∃ w_, (Value.tuple #[Vg #[nS], Vg #[I (10), I ((k : Int))]]) = Value.tuple #[Vg #[w_], Vg #[I (downF a w).1, I (downF a w).2]] ∧ Rd (SZ S H0) H79 w_ (downW a w).Means
   have hq_ : downF a w = _ := downF_at h20 (by omega) hp ⟨Decidable.of_not_not h38, h60⟩
   exact ⟨_, by rw [hq_], by rw [downW_bad (by rw [hq_]; exact (by decide : (10 : Int) ≠ 0))]; exact rdNil⟩
  refine wpF_skip ?_
  refine fcr (fun f H => ∃ (g83 : Nat), f 3 = PT g4 0 ∧ f 4 = PT g7 0 ∧ f 5 = PT g10 0 ∧ f 7 = PT g27 0 ∧ f 11 = PT g58 0 ∧ f 12 = PT g83 0 ∧ f 24 = vD ∧ f 25 = I ((a.Decls.length : Int)) ∧ f 26 = I ((k : Int)) ∧ St H0 NoB (SZ S H0) [bE g83 #[nS, I ((downV (nth w.Means k)).Rest), I (1), nS, I (0)] 71, rdE vC ((downV (nth w.Means k)).Cells), bE g58 #[I ((downV (nth w.Means k)).VNum), I ((downV (nth w.Means k)).VDen), vC, I ((downV (nth w.Means k)).Rest)] 69, bE g39 #[SB ((nth a.Decls k).Name), u37n1, I ((nth a.Decls k).Srt)] 43, rowE 71 vo (downTo a w k : List Meaning), bE g27 #[vo] 47, bE g17 #[I (((meanF a w)).1), I (((meanF a w)).2)] 28, bE g10 #[I (0), I (0)] 28, bE g7 #[nS] 47, bE g4 #[vM] 47, bE g1 #[vD, vN, vH] 26, rdE vD a.Decls, rdE vN a.Nodes, rdE vH a.Hold, rdE vM w.Means] H) ?_ ?_
  ·refine lq rfl (q_fieldAddr rfl Try.underlying69 rfl Try.sizeOf3 y11) ?_
   refine lq rfl (q_loadBlk rfl rfl Try.isAgg3 (hS65.blk 1 rfl) rfl (fun h => h)) ?_
   refine lo rfl ?_
   refine e_call rfl Try.call24 (arr1 (v0 := I ((downV (nth w.Means k)).Rest)) rfl) (thing_A ((downV (nth w.Means k)).Rest)) ?_
   rintro _ H80 ⟨hxx, rfl⟩
   have hS81 := hS65.ext hxx
   refine lq rfl (q_build (v := Vg #[nS, I ((downV (nth w.Means k)).Rest), I (1), nS, I (0)]) rfl (par1 (v0 := Vg #[I ((downV (nth w.Means k)).Rest), I (1), nS, I (0)]) rfl) (fun w__ => by kernel_rfl)) ?_
   refine lo rfl ?_
   refine e_alloc rfl Try.zeroValue71 hS81 (fun g83 H84 hS85 hxx => ?_)
   refine lo rfl ?_
   refine e_storeBlkA (cs' := #[nS, I ((downV (nth w.Means k)).Rest), I (1), nS, I (0)]) rfl rfl rfl Try.sizeOf71 rfl rfl (fa rfl (fa rfl (fa rfl (fa rfl (fa rfl fe))))) hS85 (fun H86 hS87 hxx => ?_)
   exact ⟨g83, y3, y4, y5, y7, y11, rfl, y24, y25, y26, hS87⟩
  clear y11 y24 y25 y26 y3 y4 y5 y60 y7 y8
  rintro f88 H88 ⟨g83, y3, y4, y5, y7, y11, y12, y24, y25, y26, hS88⟩
  have hS89 : St H0 NoB (SZ S H0) [rowE 74 nS ([] : List Entry), bE g83 #[nS, I ((downV (nth w.Means k)).Rest), I (1), nS, I (0)] 71, rdE vC ((downV (nth w.Means k)).Cells), bE g58 #[I ((downV (nth w.Means k)).VNum), I ((downV (nth w.Means k)).VDen), vC, I ((downV (nth w.Means k)).Rest)] 69, bE g39 #[SB ((nth a.Decls k).Name), u37n1, I ((nth a.Decls k).Srt)] 43, rowE 71 vo (downTo a w k : List Meaning), bE g27 #[vo] 47, bE g17 #[I (((meanF a w)).1), I (((meanF a w)).2)] 28, bE g10 #[I (0), I (0)] 28, bE g7 #[nS] 47, bE g4 #[vM] 47, bE g1 #[vD, vN, vH] 26, rdE vD a.Decls, rdE vN a.Nodes, rdE vH a.Hold, rdE vM w.Means] H88 := hS88.row0 74
  refine wpF_seq ?_
  refine fcr (fun f H => f 3 = PT g4 0 ∧ f 4 = PT g7 0 ∧ f 5 = PT g10 0 ∧ f 7 = PT g27 0 ∧ f 12 = PT g83 0 ∧ f 24 = vD ∧ f 25 = I ((a.Decls.length : Int)) ∧ f 26 = I ((k : Int)) ∧ f 69 = vC ∧ f 70 = I ((((downV (nth w.Means k)).Cells).length : Int)) ∧ f 71 = I (0) ∧ H88 = H) ?_ ?_
  ·refine lq rfl (q_fieldAddr rfl Try.underlying69 rfl Try.sizeOf67 y11) ?_
   refine lq rfl (q_loadBlk rfl rfl Try.isAgg67 (hS89.blk 3 rfl) rfl (fun h => h)) ?_
   refine lq rfl (q_lenRd rfl Try.underlying67 rfl (hS89.rdl 2 rfl)) ?_
   refine lm (v := I (0)) rfl rfl rfl ?_
   exact ⟨y3, y4, y5, y7, y12, y24, y25, y26, rfl, rfl, rfl, rfl⟩
  clear y11 y12 y24 y25 y26 y3 y4 y5 y7
  rintro f90 _ ⟨y3, y4, y5, y7, y12, y24, y25, y26, y69, y70, y71, rfl⟩
  refine wpF_block ?_
  refine wpF_loop (fun mz f H => ∃ (j : Nat), ∃ (vE : Value), mz = (downV (nth w.Means k)).Cells.length - j ∧ (j ≤ (downV (nth w.Means k)).Cells.length) ∧ f 3 = PT g4 0 ∧ f 4 = PT g7 0 ∧ f 5 = PT g10 0 ∧ f 7 = PT g27 0 ∧ f 12 = PT g83 0 ∧ f 24 = vD ∧ f 25 = I ((a.Decls.length : Int)) ∧ f 26 = I ((k : Int)) ∧ f 69 = vC ∧ f 70 = I ((((downV (nth w.Means k)).Cells).length : Int)) ∧ f 71 = I ((j : Int)) ∧ St H0 NoB (SZ S H0) [rowE 74 vE (((downV (nth w.Means k)).Cells.take j).map cellE : List Entry), bE g83 #[vE, I ((downV (nth w.Means k)).Rest), I (1), nS, I (0)] 71, rdE vC ((downV (nth w.Means k)).Cells), bE g58 #[I ((downV (nth w.Means k)).VNum), I ((downV (nth w.Means k)).VDen), vC, I ((downV (nth w.Means k)).Rest)] 69, bE g39 #[SB ((nth a.Decls k).Name), u37n1, I ((nth a.Decls k).Srt)] 43, rowE 71 vo (downTo a w k : List Meaning), bE g27 #[vo] 47, bE g17 #[I (((meanF a w)).1), I (((meanF a w)).2)] 28, bE g10 #[I (0), I (0)] 28, bE g7 #[nS] 47, bE g4 #[vM] 47, bE g1 #[vD, vN, vH] 26, rdE vD a.Decls, rdE vN a.Nodes, rdE vH a.Hold, rdE vM w.Means] H) ((downV (nth w.Means k)).Cells.length - 0) ?_ ?_
  ·exact ⟨0, nS, rfl, Nat.zero_le _, y3, y4, y5, y7, y12, y24, y25, y26, y69, y70, (Eq.trans y71 (congrArg I (by omega))), (show St H0 NoB (SZ S H0) [rowE 74 nS (((downV (nth w.Means k)).Cells.take 0).map cellE : List Entry), bE g83 #[nS, I ((downV (nth w.Means k)).Rest), I (1), nS, I (0)] 71, rdE vC ((downV (nth w.Means k)).Cells), bE g58 #[I ((downV (nth w.Means k)).VNum), I ((downV (nth w.Means k)).VDen), vC, I ((downV (nth w.Means k)).Rest)] 69, bE g39 #[SB ((nth a.Decls k).Name), u37n1, I ((nth a.Decls k).Srt)] 43, rowE 71 vo (downTo a w k : List Meaning), bE g27 #[vo] 47, bE g17 #[I (((meanF a w)).1), I (((meanF a w)).2)] 28, bE g10 #[I (0), I (0)] 28, bE g7 #[nS] 47, bE g4 #[vM] 47, bE g1 #[vD, vN, vH] 26, rdE vD a.Decls, rdE vN a.Nodes, rdE vH a.Hold, rdE vM w.Means] H88 from hS89)⟩
  intro m91 f91 H91 hI91
  clear y12 y24 y25 y26 y3 y4 y5 y69 y7 y70 y71
  obtain ⟨j, vE, hm91, hj, y3, y4, y5, y7, y12, y24, y25, y26, y69, y70, y71, hS91⟩ := hI91
  refine fcr (fun f H => f 3 = PT g4 0 ∧ f 4 = PT g7 0 ∧ f 5 = PT g10 0 ∧ f 7 = PT g27 0 ∧ f 12 = PT g83 0 ∧ f 24 = vD ∧ f 25 = I ((a.Decls.length : Int)) ∧ f 26 = I ((k : Int)) ∧ f 69 = vC ∧ f 70 = I ((((downV (nth w.Means k)).Cells).length : Int)) ∧ f 71 = I ((j : Int)) ∧ f 72 = B (decide ((j : Int) < (((downV (nth w.Means k)).Cells).length : Int))) ∧ H91 = H) ?_ ?_
  ·refine lq rfl (q_lss rfl y71 y70) ?_
   exact ⟨y3, y4, y5, y7, y12, y24, y25, y26, y69, y70, y71, rfl, rfl⟩
  clear y12 y24 y25 y26 y3 y4 y5 y69 y7 y70 y71
  rintro f92 _ ⟨y3, y4, y5, y7, y12, y24, y25, y26, y69, y70, y71, y72, rfl⟩
  refine wpF_seq ?_
  refine wpF_condP y72 (fun hltj => ?t118) (fun hltj => ?e118)
  case e118 =>
   have hS94 : St H0 NoB (SZ S H0) [rowE 74 vE ((downV (nth w.Means k)).Cells.map cellE : List Entry), bE g83 #[vE, I ((downV (nth w.Means k)).Rest), I (1), nS, I (0)] 71, rdE vC ((downV (nth w.Means k)).Cells), bE g58 #[I ((downV (nth w.Means k)).VNum), I ((downV (nth w.Means k)).VDen), vC, I ((downV (nth w.Means k)).Rest)] 69, bE g39 #[SB ((nth a.Decls k).Name), u37n1, I ((nth a.Decls k).Srt)] 43, rowE 71 vo (downTo a w k : List Meaning), bE g27 #[vo] 47, bE g17 #[I (((meanF a w)).1), I (((meanF a w)).2)] 28, bE g10 #[I (0), I (0)] 28, bE g7 #[nS] 47, bE g4 #[vM] 47, bE g1 #[vD, vN, vH] 26, rdE vD a.Decls, rdE vN a.Nodes, rdE vH a.Hold, rdE vM w.Means] H91 := by have h__ := hS91; rw [List.take_of_length_le (show (downV (nth w.Means k)).Cells.length ≤ j by omega)] at h__; exact h__
   refine wpF_exit ?_
   refine atX_here ?_
   refine wpF_cut (fun f H => ∃ (v111 : Value), f 3 = PT g4 0 ∧ f 4 = PT g7 0 ∧ f 5 = PT g10 0 ∧ f 7 = PT g27 0 ∧ f 24 = vD ∧ f 25 = I ((a.Decls.length : Int)) ∧ f 26 = I ((k : Int)) ∧ St H0 NoB (SZ S H0) [bE g27 #[v111] 47, rowE 71 v111 (downTo a w (k + 1) : List Meaning), rdE vE ((downV (nth w.Means k)).Cells.map cellE), bE g83 #[vE, I ((downV (nth w.Means k)).Rest), I (1), nS, I (0)] 71, rdE vC ((downV (nth w.Means k)).Cells), bE g58 #[I ((downV (nth w.Means k)).VNum), I ((downV (nth w.Means k)).VDen), vC, I ((downV (nth w.Means k)).Rest)] 69, bE g39 #[SB ((nth a.Decls k).Name), u37n1, I ((nth a.Decls k).Srt)] 43, bE g17 #[I (((meanF a w)).1), I (((meanF a w)).2)] 28, bE g10 #[I (0), I (0)] 28, bE g7 #[nS] 47, bE g4 #[vM] 47, bE g1 #[vD, vN, vH] 26, rdE vD a.Decls, rdE vN a.Nodes, rdE vH a.Hold, rdE vM w.Means] H) ?_ ?_
   ·refine wpF_region ?_
    refine lq rfl (q_fieldAddr rfl Try.underlying47 rfl Try.sizeOf45 y7) ?_
    refine lq rfl (q_loadBlk rfl rfl Try.isAgg45 (hS94.blk 6 rfl) rfl (fun h => h)) ?_
    refine lq rfl (q_loadBlkA rfl y12 Try.isAgg71 Try.sizeOf71 rfl (hS94.blk 1 rfl) (fun h => h)) ?_
    have hS105 : St H0 NoB (SZ S H0) [rdE vE ((downV (nth w.Means k)).Cells.map cellE), bE g83 #[vE, I ((downV (nth w.Means k)).Rest), I (1), nS, I (0)] 71, rdE vC ((downV (nth w.Means k)).Cells), bE g58 #[I ((downV (nth w.Means k)).VNum), I ((downV (nth w.Means k)).VDen), vC, I ((downV (nth w.Means k)).Rest)] 69, bE g39 #[SB ((nth a.Decls k).Name), u37n1, I ((nth a.Decls k).Srt)] 43, rowE 71 vo (downTo a w k : List Meaning), bE g27 #[vo] 47, bE g17 #[I (((meanF a w)).1), I (((meanF a w)).2)] 28, bE g10 #[I (0), I (0)] 28, bE g7 #[nS] 47, bE g4 #[vM] 47, bE g1 #[vD, vN, vH] 26, rdE vD a.Decls, rdE vN a.Nodes, rdE vH a.Hold, rdE vM w.Means] H91 := St.fin hS94
    refine lo rfl ?_
    refine e_buildSlice (vs := [Vg #[vE, I ((downV (nth w.Means k)).Rest), I (1), nS, I (0)]]) (xs := ([(Meaning.mk ((downV (nth w.Means k)).Cells.map cellE) ((downV (nth w.Means k)).Rest) 1 ([]) 0)] : List Meaning)) rfl Try.underlying45 Try.zeroValue71 rfl Try.sizeOf71 (par1 (v0 := Vg #[vE, I ((downV (nth w.Means k)).Rest), I (1), nS, I (0)]) rfl) rfl hS105 (RdVs.cons (Rd.meaning.2 ⟨_, _, rfl, (hS105.rdS 0 rfl), (by first | assumption | (constructor <;> (try dsimp only) <;> omega)), (by first | assumption | (constructor <;> (try dsimp only) <;> omega)), rdNil, (by first | assumption | (constructor <;> (try dsimp only) <;> omega))⟩) (RdVs.nil)) (by decide) (by decide) (fun v106 H107 hS108 hxx hvv106 => ?_)
    have hS109 : St H0 NoB (SZ S H0) [rdE v106 ([(Meaning.mk ((downV (nth w.Means k)).Cells.map cellE) ((downV (nth w.Means k)).Rest) 1 ([]) 0)] : List Meaning), rdE vE ((downV (nth w.Means k)).Cells.map cellE), bE g83 #[vE, I ((downV (nth w.Means k)).Rest), I (1), nS, I (0)] 71, rdE vC ((downV (nth w.Means k)).Cells), bE g58 #[I ((downV (nth w.Means k)).VNum), I ((downV (nth w.Means k)).VDen), vC, I ((downV (nth w.Means k)).Rest)] 69, bE g39 #[SB ((nth a.Decls k).Name), u37n1, I ((nth a.Decls k).Srt)] 43, rowE 71 vo (downTo a w k : List Meaning), bE g27 #[vo] 47, bE g17 #[I (((meanF a w)).1), I (((meanF a w)).2)] 28, bE g10 #[I (0), I (0)] 28, bE g7 #[nS] 47, bE g4 #[vM] 47, bE g1 #[vD, vN, vH] 26, rdE vD a.Decls, rdE vN a.Nodes, rdE vH a.Hold, rdE vM w.Means] H107 := St.fin hS108
    have hS110 := (hS109.front 6 rfl)
    refine lo rfl ?_
    refine e_append rfl Try.underlying45 em_Meaning_71_ArrD1 rfl rfl hS110 (hS110.rdS 1 rfl) (fun _ h => h) (by have hb : GoT.bytes Meaning = 72 := rfl; rw [hb]; simp only [List.length_append, List.length_cons, List.length_nil]; omega) (by decide) (fun v111 H112 hS113 hxx => ?_)
    have hS114 : St H0 NoB (SZ S H0) [rowE 71 v111 (downTo a w (k + 1) : List Meaning), rdE v106 ([(Meaning.mk ((downV (nth w.Means k)).Cells.map cellE) ((downV (nth w.Means k)).Rest) 1 ([]) 0)] : List Meaning), rdE vE ((downV (nth w.Means k)).Cells.map cellE), bE g83 #[vE, I ((downV (nth w.Means k)).Rest), I (1), nS, I (0)] 71, rdE vC ((downV (nth w.Means k)).Cells), bE g58 #[I ((downV (nth w.Means k)).VNum), I ((downV (nth w.Means k)).VDen), vC, I ((downV (nth w.Means k)).Rest)] 69, bE g39 #[SB ((nth a.Decls k).Name), u37n1, I ((nth a.Decls k).Srt)] 43, bE g27 #[vo] 47, bE g17 #[I (((meanF a w)).1), I (((meanF a w)).2)] 28, bE g10 #[I (0), I (0)] 28, bE g7 #[nS] 47, bE g4 #[vM] 47, bE g1 #[vD, vN, vH] 26, rdE vD a.Decls, rdE vN a.Nodes, rdE vH a.Hold, rdE vM w.Means] H112 := by rw [show (downTo a w (k + 1)) = ((downTo a w k) ++ ([(Meaning.mk ((downV (nth w.Means k)).Cells.map cellE) ((downV (nth w.Means k)).Rest) 1 ([]) 0)])) from (downTo_arr h38).symm]; exact hS113
    refine lq rfl (q_fieldAddr rfl Try.underlying47 rfl Try.sizeOf45 y7) ?_
    refine lo rfl ?_
    refine e_storeBlk (v := v111) rfl rfl rfl (oneCell_rdL (hS114.rowl 0 rfl)) Try.sizeOf45 (by show _ < 1; decide) (hS114.front 7 rfl) (fun H115 hS116 hxx => ?_)
    exact ⟨v111, y3, y4, y5, y7, y24, y25, y26, (hS116.drop (sk (sk (sn (sk (sk (sk (sk (sk (sk (sk (sk (sk (sk (sk (sk (sk (sk (List.Sublist.slnil)))))))))))))))))))⟩
   clear y12 y24 y25 y26 y3 y4 y5 y69 y7 y70 y71 y72
   rintro f117 H117 ⟨v111, y3, y4, y5, y7, y24, y25, y26, hS117⟩
   exact ⟨v111, (by first | exact fun e => h38 e.1 | exact fun e => h60 e.2), y3, y4, y5, y7, y24, y25, y26, (St.drop (show St H0 NoB (SZ S H0) [rowE 71 v111 (downTo a w (k + 1) : List Meaning), bE g27 #[v111] 47, rdE vE ((downV (nth w.Means k)).Cells.map cellE), bE g83 #[vE, I ((downV (nth w.Means k)).Rest), I (1), nS, I (0)] 71, rdE vC ((downV (nth w.Means k)).Cells), bE g58 #[I ((downV (nth w.Means k)).VNum), I ((downV (nth w.Means k)).VDen), vC, I ((downV (nth w.Means k)).Rest)] 69, bE g39 #[SB ((nth a.Decls k).Name), u37n1, I ((nth a.Decls k).Srt)] 43, bE g17 #[I (((meanF a w)).1), I (((meanF a w)).2)] 28, bE g10 #[I (0), I (0)] 28, bE g7 #[nS] 47, bE g4 #[vM] 47, bE g1 #[vD, vN, vH] 26, rdE vD a.Decls, rdE vN a.Nodes, rdE vH a.Hold, rdE vM w.Means] H117 from (hS117.front 1 rfl)) (sk (sk (sn (sn (sn (sn (sn (sk (sk (sk (sk (sk (sk (sk (sk (sk (List.Sublist.slnil))))))))))))))))))⟩
  refine wpF_skip ?_
  refine wpF_seq ?_
  refine wpF_block ?_
  refine fcr (fun f H => ∃ (g96 : Nat), (In64 (nth ((downV (nth w.Means k)).Cells) j).At) ∧ (In64 (nth ((downV (nth w.Means k)).Cells) j).It) ∧ f 3 = PT g4 0 ∧ f 4 = PT g7 0 ∧ f 5 = PT g10 0 ∧ f 7 = PT g27 0 ∧ f 12 = PT g83 0 ∧ f 14 = PT g96 0 ∧ f 24 = vD ∧ f 25 = I ((a.Decls.length : Int)) ∧ f 26 = I ((k : Int)) ∧ f 69 = vC ∧ f 70 = I ((((downV (nth w.Means k)).Cells).length : Int)) ∧ f 71 = I ((j : Int)) ∧ St H0 NoB (SZ S H0) [bE g96 #[I ((nth ((downV (nth w.Means k)).Cells) j).At), I ((nth ((downV (nth w.Means k)).Cells) j).It)] 77, rowE 74 vE (((downV (nth w.Means k)).Cells.take j).map cellE : List Entry), bE g83 #[vE, I ((downV (nth w.Means k)).Rest), I (1), nS, I (0)] 71, rdE vC ((downV (nth w.Means k)).Cells), bE g58 #[I ((downV (nth w.Means k)).VNum), I ((downV (nth w.Means k)).VDen), vC, I ((downV (nth w.Means k)).Rest)] 69, bE g39 #[SB ((nth a.Decls k).Name), u37n1, I ((nth a.Decls k).Srt)] 43, rowE 71 vo (downTo a w k : List Meaning), bE g27 #[vo] 47, bE g17 #[I (((meanF a w)).1), I (((meanF a w)).2)] 28, bE g10 #[I (0), I (0)] 28, bE g7 #[nS] 47, bE g4 #[vM] 47, bE g1 #[vD, vN, vH] 26, rdE vD a.Decls, rdE vN a.Nodes, rdE vH a.Hold, rdE vM w.Means] H) ?_ ?_
  ·refine lq rfl (q_indexRd (k := j) rfl Try.underlying67 el_Cell_77_ArrD1 y69 y71 (hS91.rdl 2 rfl) (by omega) (by omega)) ?_
   obtain ⟨u95, huu95, hlu95⟩ := (Rd.list.1 (hS91.rdS 2 rfl)).elem j (by omega)
   obtain ⟨rfl, hu950, hu951⟩ := Rd.cell.1 huu95
   refine lq rfl (q_loadE rfl rfl (hlu95 Try.prog 77 _ el_Cell_77_ArrD1 (fun _ h => False.elim h))) ?_
   refine lo rfl ?_
   refine e_alloc rfl Try.zeroValue77 hS91 (fun g96 H97 hS98 hxx => ?_)
   refine lo rfl ?_
   refine e_storeBlkA (cs' := #[I ((nth ((downV (nth w.Means k)).Cells) j).At), I ((nth ((downV (nth w.Means k)).Cells) j).It)]) rfl rfl rfl Try.sizeOf77 rfl rfl (fa rfl (fa rfl fe)) hS98 (fun H99 hS100 hxx => ?_)
   exact ⟨g96, hu950, hu951, y3, y4, y5, y7, y12, rfl, y24, y25, y26, y69, y70, y71, hS100⟩
  clear y12 y24 y25 y26 y3 y4 y5 y69 y7 y70 y71 y72
  rintro f101 H101 ⟨g96, hu950, hu951, y3, y4, y5, y7, y12, y14, y24, y25, y26, y69, y70, y71, hS101⟩
  refine wpF_cut (fun f H => ∃ (v102o10 : Value), f 3 = PT g4 0 ∧ f 4 = PT g7 0 ∧ f 5 = PT g10 0 ∧ f 7 = PT g27 0 ∧ f 12 = PT g83 0 ∧ f 24 = vD ∧ f 25 = I ((a.Decls.length : Int)) ∧ f 26 = I ((k : Int)) ∧ f 69 = vC ∧ f 70 = I ((((downV (nth w.Means k)).Cells).length : Int)) ∧ f 71 = I ((j : Int)) ∧ St H0 NoB (SZ S H0) [bE g83 #[v102o10, I ((downV (nth w.Means k)).Rest), I (1), nS, I (0)] 71, rowE 74 v102o10 (((downV (nth w.Means k)).Cells.take (j + 1)).map cellE : List Entry), bE g96 #[I ((nth ((downV (nth w.Means k)).Cells) j).At), I ((nth ((downV (nth w.Means k)).Cells) j).It)] 77, rdE vC ((downV (nth w.Means k)).Cells), bE g58 #[I ((downV (nth w.Means k)).VNum), I ((downV (nth w.Means k)).VDen), vC, I ((downV (nth w.Means k)).Rest)] 69, bE g39 #[SB ((nth a.Decls k).Name), u37n1, I ((nth a.Decls k).Srt)] 43, rowE 71 vo (downTo a w k : List Meaning), bE g27 #[vo] 47, bE g17 #[I (((meanF a w)).1), I (((meanF a w)).2)] 28, bE g10 #[I (0), I (0)] 28, bE g7 #[nS] 47, bE g4 #[vM] 47, bE g1 #[vD, vN, vH] 26, rdE vD a.Decls, rdE vN a.Nodes, rdE vH a.Hold, rdE vM w.Means] H) ?_ ?_
  ·refine wpF_drawn [none, none, none, none, none, none, none, none, none, none, some 0, none, some 1] [[], [], [], [], [], [], [], [], [], [], [], [], []] (fun l b => match l with | 0 => True | 1 => True | _ => False) (by kernel_rfl) (by kernel_rfl) ?_
   refine rq 0 (by kernel_rfl) rfl rfl (q_fieldAddr rfl Try.underlying71 rfl Try.sizeOf64 y12) ?_
   refine rq 1 (by kernel_rfl) rfl rfl (q_loadBlk rfl rfl Try.isAgg64 (hS101.blk 2 rfl) rfl (labU_not [] rfl (fe))) ?_
   refine rq 2 (by kernel_rfl) rfl rfl (q_fieldAddr rfl Try.underlying77 rfl Try.sizeOf3 y14) ?_
   refine rq 3 (by kernel_rfl) rfl rfl (q_loadBlk rfl rfl Try.isAgg3 (hS101.blk 0 rfl) rfl (labU_not [] rfl (fe))) ?_
   refine rq 5 (by kernel_rfl) rfl rfl (q_fieldAddr rfl Try.underlying77 rfl Try.sizeOf3 y14) ?_
   refine rq 6 (by kernel_rfl) rfl rfl (q_loadBlk rfl rfl Try.isAgg3 (hS101.blk 0 rfl) rfl (labU_not [] rfl (fe))) ?_
   refine wpR_n [4, 7] (by kernel_rfl) ?_
   refine fa ?_ (fa ?_ fe)
   ·refine exE rfl rfl ?_
    refine e_buildSlice (vs := [I ((nth ((downV (nth w.Means k)).Cells) j).At)]) (xs := ([(nth ((downV (nth w.Means k)).Cells) j).At] : List Int)) rfl Try.underlying24 Try.zeroValue3 rfl Try.sizeOf3 (par1 (v0 := I ((nth ((downV (nth w.Means k)).Cells) j).At)) rfl) rfl hS101 (RdVs.cons (Rd.int.2 ⟨rfl, by first | assumption | (constructor <;> (dsimp only; omega)) | (constructor <;> omega)⟩) (RdVs.nil)) (by decide) (by decide) (fun v102o4 H102o4 hS102o4 hxx hvv102o4 => ?_)
    refine ⟨Ext.mono hxx (fun _ h => h.elim), ?_⟩
    refine wpR_n [7] (by kernel_rfl) ?_
    refine fa ?_ fe
    refine exE rfl rfl ?_
    refine e_call rfl Try.call24 (arr1 (v0 := I ((nth ((downV (nth w.Means k)).Cells) j).It)) rfl) (thing_A ((nth ((downV (nth w.Means k)).Cells) j).It)) ?_
    rintro _ H102o7 ⟨hxx, rfl⟩
    have hS102o7 := hS102o4.ext hxx
    refine ⟨Ext.mono hxx (fun _ h => h.elim), ?_⟩
    refine rq 8 (by kernel_rfl) rfl rfl (q_build (v := Vg #[v102o4, I ((nth ((downV (nth w.Means k)).Cells) j).It), I (1), nS, I (0)]) rfl (par2 (v0 := v102o4) (v1 := Vg #[I ((nth ((downV (nth w.Means k)).Cells) j).It), I (1), nS, I (0)]) rfl rfl) ((hS102o7.rowl 0 rfl).slc (fun zz0 => ∀ w__, (Instr.build 74 #[(0, zz0), (1, Vg #[I ((nth ((downV (nth w.Means k)).Cells) j).It), I (1), nS, I (0)])]).run Try.prog w__ = .ok (Vg #[zz0, I ((nth ((downV (nth w.Means k)).Cells) j).It), I (1), nS, I (0)]) w__) (fun a0 n0 c0 => (fun w__ => by kernel_rfl)))) ?_
    refine wpR_n [9] (by kernel_rfl) ?_
    refine fa ?_ fe
    have hS102o9 : St H0 NoB (SZ S H0) [rdE v102o4 ([(nth ((downV (nth w.Means k)).Cells) j).At] : List Int), bE g96 #[I ((nth ((downV (nth w.Means k)).Cells) j).At), I ((nth ((downV (nth w.Means k)).Cells) j).It)] 77, rowE 74 vE (((downV (nth w.Means k)).Cells.take j).map cellE : List Entry), bE g83 #[vE, I ((downV (nth w.Means k)).Rest), I (1), nS, I (0)] 71, rdE vC ((downV (nth w.Means k)).Cells), bE g58 #[I ((downV (nth w.Means k)).VNum), I ((downV (nth w.Means k)).VDen), vC, I ((downV (nth w.Means k)).Rest)] 69, bE g39 #[SB ((nth a.Decls k).Name), u37n1, I ((nth a.Decls k).Srt)] 43, rowE 71 vo (downTo a w k : List Meaning), bE g27 #[vo] 47, bE g17 #[I (((meanF a w)).1), I (((meanF a w)).2)] 28, bE g10 #[I (0), I (0)] 28, bE g7 #[nS] 47, bE g4 #[vM] 47, bE g1 #[vD, vN, vH] 26, rdE vD a.Decls, rdE vN a.Nodes, rdE vH a.Hold, rdE vM w.Means] H102o7 := St.fin hS102o7
    refine exE rfl rfl ?_
    refine e_buildSlice (vs := [Vg #[v102o4, I ((nth ((downV (nth w.Means k)).Cells) j).It), I (1), nS, I (0)]]) (xs := ([(Entry.mk ([(nth ((downV (nth w.Means k)).Cells) j).At]) ((nth ((downV (nth w.Means k)).Cells) j).It) 1 ([]) 0)] : List Entry)) rfl Try.underlying64 Try.zeroValue74 rfl Try.sizeOf74 (par1 (v0 := Vg #[v102o4, I ((nth ((downV (nth w.Means k)).Cells) j).It), I (1), nS, I (0)]) rfl) rfl hS102o9 (RdVs.cons (Rd.entry.2 ⟨_, _, rfl, (hS102o9.rdS 0 rfl), (by first | assumption | (constructor <;> (try dsimp only) <;> omega)), (by first | assumption | (constructor <;> (try dsimp only) <;> omega)), rdNil, (by first | assumption | (constructor <;> (try dsimp only) <;> omega))⟩) (RdVs.nil)) (by decide) (by decide) (fun v102o9 H102o9 hS102o9x2 hxx hvv102o9 => ?_)
    refine ⟨Ext.mono hxx (fun _ h => h.elim), ?_⟩
    refine wpR_n [10] (by kernel_rfl) ?_
    refine fa ?_ fe
    have hS102o10 : St H0 NoB (SZ S H0) [rdE v102o9 ([(Entry.mk ([(nth ((downV (nth w.Means k)).Cells) j).At]) ((nth ((downV (nth w.Means k)).Cells) j).It) 1 ([]) 0)] : List Entry), rdE v102o4 ([(nth ((downV (nth w.Means k)).Cells) j).At] : List Int), bE g96 #[I ((nth ((downV (nth w.Means k)).Cells) j).At), I ((nth ((downV (nth w.Means k)).Cells) j).It)] 77, rowE 74 vE (((downV (nth w.Means k)).Cells.take j).map cellE : List Entry), bE g83 #[vE, I ((downV (nth w.Means k)).Rest), I (1), nS, I (0)] 71, rdE vC ((downV (nth w.Means k)).Cells), bE g58 #[I ((downV (nth w.Means k)).VNum), I ((downV (nth w.Means k)).VDen), vC, I ((downV (nth w.Means k)).Rest)] 69, bE g39 #[SB ((nth a.Decls k).Name), u37n1, I ((nth a.Decls k).Srt)] 43, rowE 71 vo (downTo a w k : List Meaning), bE g27 #[vo] 47, bE g17 #[I (((meanF a w)).1), I (((meanF a w)).2)] 28, bE g10 #[I (0), I (0)] 28, bE g7 #[nS] 47, bE g4 #[vM] 47, bE g1 #[vD, vN, vH] 26, rdE vD a.Decls, rdE vN a.Nodes, rdE vH a.Hold, rdE vM w.Means] H102o9 := St.fin hS102o9x2
    have hS102o10x2 := (hS102o10.front 3 rfl)
    refine exE rfl rfl ?_
    refine e_append rfl Try.underlying64 em_Entry_74_ArrD1 rfl rfl hS102o10x2 (hS102o10x2.rdS 1 rfl) (fun _ h => h) (by have hb : GoT.bytes Entry = 72 := rfl; rw [hb]; simp only [List.length_append, List.length_map, List.length_take, List.length_cons, List.length_nil]; omega) (by decide) (fun v102o10 H102o10 hS102o10x3 hxx => ?_)
    have hS102o10x4 : St H0 NoB (SZ S H0) [rowE 74 v102o10 (((downV (nth w.Means k)).Cells.take (j + 1)).map cellE : List Entry), rdE v102o9 ([(Entry.mk ([(nth ((downV (nth w.Means k)).Cells) j).At]) ((nth ((downV (nth w.Means k)).Cells) j).It) 1 ([]) 0)] : List Entry), rdE v102o4 ([(nth ((downV (nth w.Means k)).Cells) j).At] : List Int), bE g96 #[I ((nth ((downV (nth w.Means k)).Cells) j).At), I ((nth ((downV (nth w.Means k)).Cells) j).It)] 77, bE g83 #[vE, I ((downV (nth w.Means k)).Rest), I (1), nS, I (0)] 71, rdE vC ((downV (nth w.Means k)).Cells), bE g58 #[I ((downV (nth w.Means k)).VNum), I ((downV (nth w.Means k)).VDen), vC, I ((downV (nth w.Means k)).Rest)] 69, bE g39 #[SB ((nth a.Decls k).Name), u37n1, I ((nth a.Decls k).Srt)] 43, rowE 71 vo (downTo a w k : List Meaning), bE g27 #[vo] 47, bE g17 #[I (((meanF a w)).1), I (((meanF a w)).2)] 28, bE g10 #[I (0), I (0)] 28, bE g7 #[nS] 47, bE g4 #[vM] 47, bE g1 #[vD, vN, vH] 26, rdE vD a.Decls, rdE vN a.Nodes, rdE vH a.Hold, rdE vM w.Means] H102o10 := by rw [show (((downV (nth w.Means k)).Cells.take (j + 1)).map cellE) = ((((downV (nth w.Means k)).Cells.take j).map cellE) ++ ([(Entry.mk ([(nth ((downV (nth w.Means k)).Cells) j).At]) ((nth ((downV (nth w.Means k)).Cells) j).It) 1 ([]) 0)])) from (map_cellE_next (by omega)).symm]; exact hS102o10x3
    refine ⟨Ext.mono hxx (labS_of 0 rfl (fun _ _ => trivial)), ?_⟩
    refine rq 11 (by kernel_rfl) rfl rfl (q_fieldAddr rfl Try.underlying71 rfl Try.sizeOf64 y12) ?_
    refine wpR_n [12] (by kernel_rfl) ?_
    refine fa ?_ fe
    refine exE rfl rfl ?_
    refine e_storeBlk (v := v102o10) rfl rfl rfl (oneCell_rdL (hS102o10x4.rowl 0 rfl)) Try.sizeOf64 (by show _ < 5; decide) (hS102o10x4.front 4 rfl) (fun H102o12 hS102o12 hxx => ?_)
    refine ⟨Ext.mono hxx (labS_of 1 rfl (fun _ _ => trivial)), ?_⟩
    refine wpR_end (by kernel_rfl) ?_
    exact ⟨v102o10, y3, y4, y5, y7, y12, y24, y25, y26, y69, y70, y71, (hS102o12.drop (sk (sk (sn (sn (sk (sk (sk (sk (sk (sk (sk (sk (sk (sk (sk (sk (sk (sk (sk (List.Sublist.slnil)))))))))))))))))))))⟩
   ·refine exE rfl rfl ?_
    refine e_call rfl Try.call24 (arr1 (v0 := I ((nth ((downV (nth w.Means k)).Cells) j).It)) rfl) (thing_A ((nth ((downV (nth w.Means k)).Cells) j).It)) ?_
    rintro _ H102o7 ⟨hxx, rfl⟩
    have hS102o7 := hS101.ext hxx
    refine ⟨Ext.mono hxx (fun _ h => h.elim), ?_⟩
    refine wpR_n [4] (by kernel_rfl) ?_
    refine fa ?_ fe
    refine exE rfl rfl ?_
    refine e_buildSlice (vs := [I ((nth ((downV (nth w.Means k)).Cells) j).At)]) (xs := ([(nth ((downV (nth w.Means k)).Cells) j).At] : List Int)) rfl Try.underlying24 Try.zeroValue3 rfl Try.sizeOf3 (par1 (v0 := I ((nth ((downV (nth w.Means k)).Cells) j).At)) rfl) rfl hS102o7 (RdVs.cons (Rd.int.2 ⟨rfl, by first | assumption | (constructor <;> (dsimp only; omega)) | (constructor <;> omega)⟩) (RdVs.nil)) (by decide) (by decide) (fun v102o4 H102o4 hS102o4 hxx hvv102o4 => ?_)
    refine ⟨Ext.mono hxx (fun _ h => h.elim), ?_⟩
    refine rq 8 (by kernel_rfl) rfl rfl (q_build (v := Vg #[v102o4, I ((nth ((downV (nth w.Means k)).Cells) j).It), I (1), nS, I (0)]) rfl (par2 (v0 := v102o4) (v1 := Vg #[I ((nth ((downV (nth w.Means k)).Cells) j).It), I (1), nS, I (0)]) rfl rfl) ((hS102o4.rowl 0 rfl).slc (fun zz0 => ∀ w__, (Instr.build 74 #[(0, zz0), (1, Vg #[I ((nth ((downV (nth w.Means k)).Cells) j).It), I (1), nS, I (0)])]).run Try.prog w__ = .ok (Vg #[zz0, I ((nth ((downV (nth w.Means k)).Cells) j).It), I (1), nS, I (0)]) w__) (fun a0 n0 c0 => (fun w__ => by kernel_rfl)))) ?_
    refine wpR_n [9] (by kernel_rfl) ?_
    refine fa ?_ fe
    have hS102o9 : St H0 NoB (SZ S H0) [rdE v102o4 ([(nth ((downV (nth w.Means k)).Cells) j).At] : List Int), bE g96 #[I ((nth ((downV (nth w.Means k)).Cells) j).At), I ((nth ((downV (nth w.Means k)).Cells) j).It)] 77, rowE 74 vE (((downV (nth w.Means k)).Cells.take j).map cellE : List Entry), bE g83 #[vE, I ((downV (nth w.Means k)).Rest), I (1), nS, I (0)] 71, rdE vC ((downV (nth w.Means k)).Cells), bE g58 #[I ((downV (nth w.Means k)).VNum), I ((downV (nth w.Means k)).VDen), vC, I ((downV (nth w.Means k)).Rest)] 69, bE g39 #[SB ((nth a.Decls k).Name), u37n1, I ((nth a.Decls k).Srt)] 43, rowE 71 vo (downTo a w k : List Meaning), bE g27 #[vo] 47, bE g17 #[I (((meanF a w)).1), I (((meanF a w)).2)] 28, bE g10 #[I (0), I (0)] 28, bE g7 #[nS] 47, bE g4 #[vM] 47, bE g1 #[vD, vN, vH] 26, rdE vD a.Decls, rdE vN a.Nodes, rdE vH a.Hold, rdE vM w.Means] H102o4 := St.fin hS102o4
    refine exE rfl rfl ?_
    refine e_buildSlice (vs := [Vg #[v102o4, I ((nth ((downV (nth w.Means k)).Cells) j).It), I (1), nS, I (0)]]) (xs := ([(Entry.mk ([(nth ((downV (nth w.Means k)).Cells) j).At]) ((nth ((downV (nth w.Means k)).Cells) j).It) 1 ([]) 0)] : List Entry)) rfl Try.underlying64 Try.zeroValue74 rfl Try.sizeOf74 (par1 (v0 := Vg #[v102o4, I ((nth ((downV (nth w.Means k)).Cells) j).It), I (1), nS, I (0)]) rfl) rfl hS102o9 (RdVs.cons (Rd.entry.2 ⟨_, _, rfl, (hS102o9.rdS 0 rfl), (by first | assumption | (constructor <;> (try dsimp only) <;> omega)), (by first | assumption | (constructor <;> (try dsimp only) <;> omega)), rdNil, (by first | assumption | (constructor <;> (try dsimp only) <;> omega))⟩) (RdVs.nil)) (by decide) (by decide) (fun v102o9 H102o9 hS102o9x2 hxx hvv102o9 => ?_)
    refine ⟨Ext.mono hxx (fun _ h => h.elim), ?_⟩
    refine wpR_n [10] (by kernel_rfl) ?_
    refine fa ?_ fe
    have hS102o10 : St H0 NoB (SZ S H0) [rdE v102o9 ([(Entry.mk ([(nth ((downV (nth w.Means k)).Cells) j).At]) ((nth ((downV (nth w.Means k)).Cells) j).It) 1 ([]) 0)] : List Entry), rdE v102o4 ([(nth ((downV (nth w.Means k)).Cells) j).At] : List Int), bE g96 #[I ((nth ((downV (nth w.Means k)).Cells) j).At), I ((nth ((downV (nth w.Means k)).Cells) j).It)] 77, rowE 74 vE (((downV (nth w.Means k)).Cells.take j).map cellE : List Entry), bE g83 #[vE, I ((downV (nth w.Means k)).Rest), I (1), nS, I (0)] 71, rdE vC ((downV (nth w.Means k)).Cells), bE g58 #[I ((downV (nth w.Means k)).VNum), I ((downV (nth w.Means k)).VDen), vC, I ((downV (nth w.Means k)).Rest)] 69, bE g39 #[SB ((nth a.Decls k).Name), u37n1, I ((nth a.Decls k).Srt)] 43, rowE 71 vo (downTo a w k : List Meaning), bE g27 #[vo] 47, bE g17 #[I (((meanF a w)).1), I (((meanF a w)).2)] 28, bE g10 #[I (0), I (0)] 28, bE g7 #[nS] 47, bE g4 #[vM] 47, bE g1 #[vD, vN, vH] 26, rdE vD a.Decls, rdE vN a.Nodes, rdE vH a.Hold, rdE vM w.Means] H102o9 := St.fin hS102o9x2
    have hS102o10x2 := (hS102o10.front 3 rfl)
    refine exE rfl rfl ?_
    refine e_append rfl Try.underlying64 em_Entry_74_ArrD1 rfl rfl hS102o10x2 (hS102o10x2.rdS 1 rfl) (fun _ h => h) (by have hb : GoT.bytes Entry = 72 := rfl; rw [hb]; simp only [List.length_append, List.length_map, List.length_take, List.length_cons, List.length_nil]; omega) (by decide) (fun v102o10 H102o10 hS102o10x3 hxx => ?_)
    have hS102o10x4 : St H0 NoB (SZ S H0) [rowE 74 v102o10 (((downV (nth w.Means k)).Cells.take (j + 1)).map cellE : List Entry), rdE v102o9 ([(Entry.mk ([(nth ((downV (nth w.Means k)).Cells) j).At]) ((nth ((downV (nth w.Means k)).Cells) j).It) 1 ([]) 0)] : List Entry), rdE v102o4 ([(nth ((downV (nth w.Means k)).Cells) j).At] : List Int), bE g96 #[I ((nth ((downV (nth w.Means k)).Cells) j).At), I ((nth ((downV (nth w.Means k)).Cells) j).It)] 77, bE g83 #[vE, I ((downV (nth w.Means k)).Rest), I (1), nS, I (0)] 71, rdE vC ((downV (nth w.Means k)).Cells), bE g58 #[I ((downV (nth w.Means k)).VNum), I ((downV (nth w.Means k)).VDen), vC, I ((downV (nth w.Means k)).Rest)] 69, bE g39 #[SB ((nth a.Decls k).Name), u37n1, I ((nth a.Decls k).Srt)] 43, rowE 71 vo (downTo a w k : List Meaning), bE g27 #[vo] 47, bE g17 #[I (((meanF a w)).1), I (((meanF a w)).2)] 28, bE g10 #[I (0), I (0)] 28, bE g7 #[nS] 47, bE g4 #[vM] 47, bE g1 #[vD, vN, vH] 26, rdE vD a.Decls, rdE vN a.Nodes, rdE vH a.Hold, rdE vM w.Means] H102o10 := by rw [show (((downV (nth w.Means k)).Cells.take (j + 1)).map cellE) = ((((downV (nth w.Means k)).Cells.take j).map cellE) ++ ([(Entry.mk ([(nth ((downV (nth w.Means k)).Cells) j).At]) ((nth ((downV (nth w.Means k)).Cells) j).It) 1 ([]) 0)])) from (map_cellE_next (by omega)).symm]; exact hS102o10x3
    refine ⟨Ext.mono hxx (labS_of 0 rfl (fun _ _ => trivial)), ?_⟩
    refine rq 11 (by kernel_rfl) rfl rfl (q_fieldAddr rfl Try.underlying71 rfl Try.sizeOf64 y12) ?_
    refine wpR_n [12] (by kernel_rfl) ?_
    refine fa ?_ fe
    refine exE rfl rfl ?_
    refine e_storeBlk (v := v102o10) rfl rfl rfl (oneCell_rdL (hS102o10x4.rowl 0 rfl)) Try.sizeOf64 (by show _ < 5; decide) (hS102o10x4.front 4 rfl) (fun H102o12 hS102o12 hxx => ?_)
    refine ⟨Ext.mono hxx (labS_of 1 rfl (fun _ _ => trivial)), ?_⟩
    refine wpR_end (by kernel_rfl) ?_
    exact ⟨v102o10, y3, y4, y5, y7, y12, y24, y25, y26, y69, y70, y71, (hS102o12.drop (sk (sk (sn (sn (sk (sk (sk (sk (sk (sk (sk (sk (sk (sk (sk (sk (sk (sk (sk (List.Sublist.slnil)))))))))))))))))))))⟩
  clear y12 y14 y24 y25 y26 y3 y4 y5 y69 y7 y70 y71
  rintro f103 H103 ⟨v102o10, y3, y4, y5, y7, y12, y24, y25, y26, y69, y70, y71, hS103⟩
  refine wpF_cut (fun f H => f 3 = PT g4 0 ∧ f 4 = PT g7 0 ∧ f 5 = PT g10 0 ∧ f 7 = PT g27 0 ∧ f 12 = PT g83 0 ∧ f 24 = vD ∧ f 25 = I ((a.Decls.length : Int)) ∧ f 26 = I ((k : Int)) ∧ f 69 = vC ∧ f 70 = I ((((downV (nth w.Means k)).Cells).length : Int)) ∧ f 71 = I ((j : Int) + 1) ∧ H103 = H) ?_ ?_
  ·refine wpF_region ?_
   refine lq rfl (q_add rfl y71 rfl (by constructor <;> omega)) ?_
   refine lm (v := I ((j : Int) + 1)) rfl rfl rfl ?_
   exact ⟨y3, y4, y5, y7, y12, y24, y25, y26, y69, y70, rfl, rfl⟩
  clear y12 y24 y25 y26 y3 y4 y5 y69 y7 y70 y71
  rintro f104 _ ⟨y3, y4, y5, y7, y12, y24, y25, y26, y69, y70, y71, rfl⟩
  refine ⟨_, ?_, j + 1, v102o10, rfl, (by omega), y3, y4, y5, y7, y12, y24, y25, y26, y69, y70, (Eq.trans y71 (congrArg I (by omega))), (St.drop (show St H0 NoB (SZ S H0) [rowE 74 v102o10 (((downV (nth w.Means k)).Cells.take (j + 1)).map cellE : List Entry), bE g83 #[v102o10, I ((downV (nth w.Means k)).Rest), I (1), nS, I (0)] 71, bE g96 #[I ((nth ((downV (nth w.Means k)).Cells) j).At), I ((nth ((downV (nth w.Means k)).Cells) j).It)] 77, rdE vC ((downV (nth w.Means k)).Cells), bE g58 #[I ((downV (nth w.Means k)).VNum), I ((downV (nth w.Means k)).VDen), vC, I ((downV (nth w.Means k)).Rest)] 69, bE g39 #[SB ((nth a.Decls k).Name), u37n1, I ((nth a.Decls k).Srt)] 43, rowE 71 vo (downTo a w k : List Meaning), bE g27 #[vo] 47, bE g17 #[I (((meanF a w)).1), I (((meanF a w)).2)] 28, bE g10 #[I (0), I (0)] 28, bE g7 #[nS] 47, bE g4 #[vM] 47, bE g1 #[vD, vN, vH] 26, rdE vD a.Decls, rdE vN a.Nodes, rdE vH a.Hold, rdE vM w.Means] H103 from (hS103.front 1 rfl)) (sk (sk (sn (sk (sk (sk (sk (sk (sk (sk (sk (sk (sk (sk (sk (sk (sk (List.Sublist.slnil)))))))))))))))))))⟩
  omega
 clear y24 y25 y26 y27 y3 y4 y5 y7
 rintro f36 H36 ⟨vo2, hno, y3, y4, y5, y7, y24, y25, y26, hS36⟩
 refine wpF_cut (fun f H => f 3 = PT g4 0 ∧ f 4 = PT g7 0 ∧ f 5 = PT g10 0 ∧ f 7 = PT g27 0 ∧ f 24 = vD ∧ f 25 = I ((a.Decls.length : Int)) ∧ f 26 = I ((k : Int) + 1) ∧ H36 = H) ?_ ?_
 ·refine wpF_region ?_
  refine lq rfl (q_add rfl y26 rfl (by constructor <;> omega)) ?_
  refine lm (v := I ((k : Int) + 1)) rfl rfl rfl ?_
  exact ⟨y3, y4, y5, y7, y24, y25, rfl, rfl⟩
 clear y24 y25 y26 y3 y4 y5 y7
 rintro f121 _ ⟨y3, y4, y5, y7, y24, y25, y26, rfl⟩
 refine ⟨_, ?_, k + 1, vo2, rfl, (by omega), (all_succ hp hno), y3, y4, y5, y7, y24, y25, (Eq.trans y26 (congrArg I (by omega))), hS36⟩
 omega
end Go.Um
