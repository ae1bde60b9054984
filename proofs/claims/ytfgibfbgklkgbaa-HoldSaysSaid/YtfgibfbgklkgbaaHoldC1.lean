import Derived.Test.YtfgibfbgklkgbaaProg
import Derived.Test.YtfgibfbgklkgbaaLoopS5
import Derived.Test.YtfgibfbgklkgbaaHoldPlain
import Derived.Test.YtfgibfbgklkgbaaUmSub
namespace Go.Um
open Go.Proofs
open GoT (sz ag rdc)
open KeyT (kv)

theorem el_LInt_32_HoldC1 : ElT Try.prog (List Int) 32 := ⟨Try.isAgg32, Try.sizeOf32⟩

set_option maxRecDepth 100000 in
theorem check_L {H0 : Heap} (wa wb wc wd we vr : Value) (l : Loop) (r : List LRow) (rwa : Rd NoB H0 wa l.Low) (rwb : Rd NoB H0 wb l.High) (rwc : Rd NoB H0 wc l.Start) (rwd : Rd NoB H0 wd l.Jumps) (rwe : Rd NoB H0 we l.Bad) (rr : Rd NoB H0 vr r) : CallsH Try.prog 50 #[Value.agg #[wa, wb, wc, wd, we], vr] H0 (fun rv_ H' => Ext NoB H0 H' ∧ rv_ = Value.agg #[I (chkFault l r).1, I (chkFault l r).2]) := by
  have hs1 := (Rd.list.1 rwa).small
  have hs2 := (Rd.list.1 rwb).small
  have hs4 := (Rd.list.1 rwd).small
  have hsr := (Rd.list.1 rr).small
  have hS0 : St H0 NoB NoB [rdE wa l.Low, rdE wb l.High, rdE wc l.Start, rdE wd l.Jumps, rdE we l.Bad, rdE vr r] H0 := St.arg (St.arg (St.arg (St.arg (St.arg (St.arg (St.start (fun _ h => h.elim)) (Bl0.nil) rr (fun _ h => h)) (Bl0.cons (Bl0.nil)) rwe (fun _ h => h)) (Bl0.cons (Bl0.cons (Bl0.nil))) rwd (fun _ h => h)) (Bl0.cons (Bl0.cons (Bl0.cons (Bl0.nil)))) rwc (fun _ h => h)) (Bl0.cons (Bl0.cons (Bl0.cons (Bl0.cons (Bl0.nil))))) rwb (fun _ h => h)) (Bl0.cons (Bl0.cons (Bl0.cons (Bl0.cons (Bl0.cons (Bl0.nil)))))) rwa (fun _ h => h)
  refine callsH_of_wpF (args := [Value.agg #[wa, wb, wc, wd, we], vr]) (rs := [.cell 4 27]) Try.func50 rfl Try.ntmps50 Try.results50 (by kernel_rfl) (Nat.le_of_ble_eq_true rfl) ?_
  have a0_0 : argF [Value.agg #[wa, wb, wc, wd, we], vr] 0 = Value.agg #[wa, wb, wc, wd, we] := rfl
  have a0_1 : argF [Value.agg #[wa, wb, wc, wd, we], vr] 1 = vr := rfl
  generalize argF [Value.agg #[wa, wb, wc, wd, we], vr] = f0 at *
  refine wpF_seq ?_
  refine wpF_cut (fun f H => ∃ (g1 : Nat), ∃ (g4 : Nat), f 1 = vr ∧ f 2 = PT g1 0 ∧ f 4 = PT g4 0 ∧ St H0 NoB NoB [blkE g4 (.cells #[I (0), I (0)] 27), blkE g1 (.cells #[wa, wb, wc, wd, we] 42), rdE wa l.Low, rdE wb l.High, rdE wc l.Start, rdE wd l.Jumps, rdE we l.Bad, rdE vr r] H) ?_ ?_
  · refine wpF_region ?_
    refine wpL_o rfl ?_
    refine e_box (v := Value.agg #[wa, wb, wc, wd, we]) rfl a0_0 hS0 (fun g1 H2 hS3 hxx => ?_)
    replace hS3 : St H0 NoB NoB [blkE g1 (.cells #[wa, wb, wc, wd, we] 42), rdE wa l.Low, rdE wb l.High, rdE wc l.Start, rdE wd l.Jumps, rdE we l.Bad, rdE vr r] H2 := hS3
    refine wpL_o rfl ?_
    refine e_alloc rfl Try.zeroValue27 hS3 (fun g4 H5 hS6 hxx => ?_)
    replace hS6 : St H0 NoB NoB [blkE g4 (.cells #[I (0), I (0)] 27), blkE g1 (.cells #[wa, wb, wc, wd, we] 42), rdE wa l.Low, rdE wb l.High, rdE wc l.Start, rdE wd l.Jumps, rdE we l.Bad, rdE vr r] H5 := hS6
    exact ⟨g1, g4, a0_1, rfl, rfl, hS6⟩
  rintro f7 H7 ⟨g1, g4, a7_1, a7_2, a7_4, hS7⟩
  clear a0_0 a0_1
  refine wpF_seq ?_
  refine wpF_seq ?_
  refine wpF_cut (fun f H => ∃ (g11 : Nat), f 1 = vr ∧ f 2 = PT g1 0 ∧ f 4 = PT g4 0 ∧ f 5 = PT g11 0 ∧ St H0 NoB NoB [blkE g11 (.cells #[I ((loopFault l).1), I ((loopFault l).2)] 27), blkE g4 (.cells #[I (0), I (0)] 27), blkE g1 (.cells #[wa, wb, wc, wd, we] 42), rdE wa l.Low, rdE wb l.High, rdE wc l.Start, rdE wd l.Jumps, rdE we l.Bad, rdE vr r] H) ?_ ?_
  · refine wpF_region ?_
    refine wpL_q (U := NoB) rfl (q_loadBlkA rfl a7_2 Try.isAgg42 Try.sizeOf42 rfl (hS7.blk 1 rfl) (fun h => h)) ?_
    refine wpL_o rfl ?_
    refine e_call rfl Try.call27 (arr1 (v0 := Value.agg #[wa, wb, wc, wd, we]) rfl) (Check_L wa wb wc wd we l (hS7.rdN 2 rfl) (hS7.rdN 3 rfl) (hS7.rdN 4 rfl) (hS7.rdN 5 rfl) (hS7.rdN 6 rfl) ) ?_
    rintro _ H8 ⟨hxx, rfl⟩
    have hS9 : St H0 NoB NoB [blkE g4 (.cells #[I (0), I (0)] 27), blkE g1 (.cells #[wa, wb, wc, wd, we] 42), rdE wa l.Low, rdE wb l.High, rdE wc l.Start, rdE wd l.Jumps, rdE we l.Bad, rdE vr r] H8 := hS7.ext hxx
    refine wpL_o rfl ?_
    refine e_alloc rfl Try.zeroValue27 hS9 (fun g11 H12 hS13 hxx => ?_)
    replace hS13 : St H0 NoB NoB [blkE g11 (.cells #[I (0), I (0)] 27), blkE g4 (.cells #[I (0), I (0)] 27), blkE g1 (.cells #[wa, wb, wc, wd, we] 42), rdE wa l.Low, rdE wb l.High, rdE wc l.Start, rdE wd l.Jumps, rdE we l.Bad, rdE vr r] H12 := hS13
    refine wpL_o rfl ?_
    refine e_storeBlkA (cs' := #[I ((loopFault l).1), I ((loopFault l).2)]) rfl rfl rfl Try.sizeOf27 rfl rfl (List.forall_mem_cons.2 ⟨rfl, List.forall_mem_cons.2 ⟨rfl, List.forall_mem_nil _⟩⟩) hS13 (fun H14 hS15 hxx => ?_)
    replace hS15 : St H0 NoB NoB [blkE g11 (.cells #[I ((loopFault l).1), I ((loopFault l).2)] 27), blkE g4 (.cells #[I (0), I (0)] 27), blkE g1 (.cells #[wa, wb, wc, wd, we] 42), rdE wa l.Low, rdE wb l.High, rdE wc l.Start, rdE wd l.Jumps, rdE we l.Bad, rdE vr r] H14 := hS15
    exact ⟨g11, a7_1, a7_2, a7_4, rfl, hS15⟩
  rintro f16 H16 ⟨g11, a16_1, a16_2, a16_4, a16_5, hS16⟩
  clear a7_1 a7_2 a7_4
  refine wpF_seq ?_
  refine wpF_cut (fun f H => f 1 = vr ∧ f 2 = PT g1 0 ∧ f 4 = PT g4 0 ∧ f 5 = PT g11 0 ∧ f 11 = B (decide (((loopFault l).1) ≠ 0)) ∧ H16 = H) ?_ ?_
  · refine wpF_region ?_
    refine wpL_q (U := NoB) rfl (q_fieldAddr rfl Try.underlying27 rfl Try.sizeOf3 a16_5) ?_
    refine wpL_q (U := NoB) rfl (q_loadBlk rfl rfl Try.isAgg3 (hS16.blk 0 rfl) rfl (fun h => h)) ?_
    refine wpL_q (U := NoB) rfl (q_neq rfl rfl rfl) ?_
    exact ⟨a16_1, a16_2, a16_4, a16_5, rfl, rfl⟩
  rintro f17 _ ⟨a17_1, a17_2, a17_4, a17_5, a17_11, rfl⟩
  clear a16_1 a16_2 a16_4 a16_5
  refine wpF_condP a17_11 (fun h1 => ?t35) (fun h1 => ?e35)
  case t35 =>
    refine wpF_seq ?_
    refine wpF_cut (fun f H => f 4 = PT g4 0 ∧ St H0 NoB NoB [blkE g4 (.cells #[I ((loopFault l).1), I ((loopFault l).2)] 27), blkE g11 (.cells #[I ((loopFault l).1), I ((loopFault l).2)] 27), blkE g1 (.cells #[wa, wb, wc, wd, we] 42), rdE wa l.Low, rdE wb l.High, rdE wc l.Start, rdE wd l.Jumps, rdE we l.Bad, rdE vr r] H) ?_ ?_
    · refine wpF_region ?_
      refine wpL_q (U := NoB) rfl (q_loadBlkA rfl a17_5 Try.isAgg27 Try.sizeOf27 rfl (hS16.blk 0 rfl) (fun h => h)) ?_
      refine wpL_o rfl ?_
      refine e_storeBlkA (cs' := #[I ((loopFault l).1), I ((loopFault l).2)]) rfl a17_4 rfl Try.sizeOf27 rfl rfl (List.forall_mem_cons.2 ⟨rfl, List.forall_mem_cons.2 ⟨rfl, List.forall_mem_nil _⟩⟩) (hS16.front 1 rfl) (fun H19 hS20 hxx => ?_)
      replace hS20 : St H0 NoB NoB [blkE g4 (.cells #[I ((loopFault l).1), I ((loopFault l).2)] 27), blkE g11 (.cells #[I ((loopFault l).1), I ((loopFault l).2)] 27), blkE g1 (.cells #[wa, wb, wc, wd, we] 42), rdE wa l.Low, rdE wb l.High, rdE wc l.Start, rdE wd l.Jumps, rdE we l.Bad, rdE vr r] H19 := hS20
      exact ⟨a17_4, hS20⟩
    rintro f21 H21 ⟨a21_4, hS21⟩
    clear a17_1 a17_11 a17_2 a17_4 a17_5
    refine wpF_ret ?_
    refine ⟨_, resC a21_4 (loadV_blkA Try.isAgg27 Try.sizeOf27 rfl (hS21.blk 0 rfl)) (resN), hS21.frame, ?_⟩
    show (Value.agg #[I ((loopFault l).1), I ((loopFault l).2)]) = Value.agg #[I (chkFault l r).1, I (chkFault l r).2]
    have hq := chk_loop (r := r) h1
    rw [hq]
  refine wpF_skip ?_
  refine wpF_seq ?_
  refine wpF_seq ?_
  refine wpF_cut (fun f H => f 4 = PT g4 0 ∧ f 6 = I (rowsFault r (l.Low.length : Int)) ∧ St H0 NoB NoB [blkE g11 (.cells #[I ((loopFault l).1), I ((loopFault l).2)] 27), blkE g4 (.cells #[I (0), I (0)] 27), blkE g1 (.cells #[wa, wb, wc, wd, we] 42), rdE wa l.Low, rdE wb l.High, rdE wc l.Start, rdE wd l.Jumps, rdE we l.Bad, rdE vr r] H) ?_ ?_
  · refine wpF_region ?_
    refine wpL_q (U := NoB) rfl (q_move (v := vr) rfl a17_1) ?_
    refine wpL_q (U := NoB) rfl (q_fieldAddr rfl Try.underlying42 rfl Try.sizeOf32 a17_2) ?_
    refine wpL_q (U := NoB) rfl (q_loadBlk rfl rfl Try.isAgg32 (hS16.blk 2 rfl) rfl (fun h => h)) ?_
    refine wpL_q (U := NoB) rfl (q_lenRd rfl Try.underlying32 rfl (hS16.rdl 3 rfl)) ?_
    refine wpL_o rfl ?_
    refine e_call rfl Try.call46 (arr2 (v0 := vr) (v1 := I ((l.Low.length : Int))) rfl rfl) (Rows_L vr r (l.Low.length : Int) (hS16.rdN 8 rfl)) ?_
    rintro _ H22 ⟨hxx, rfl⟩
    have hS23 : St H0 NoB NoB [blkE g11 (.cells #[I ((loopFault l).1), I ((loopFault l).2)] 27), blkE g4 (.cells #[I (0), I (0)] 27), blkE g1 (.cells #[wa, wb, wc, wd, we] 42), rdE wa l.Low, rdE wb l.High, rdE wc l.Start, rdE wd l.Jumps, rdE we l.Bad, rdE vr r] H22 := hS16.ext hxx
    refine wpL_q (U := NoB) rfl (q_assign (v := I (rowsFault r (l.Low.length : Int))) rfl rfl) ?_
    exact ⟨a17_4, rfl, hS23⟩
  rintro f25 H25 ⟨a25_4, a25_6, hS25⟩
  clear a17_1 a17_11 a17_2 a17_4 a17_5
  refine wpF_seq ?_
  refine wpF_cut (fun f H => f 4 = PT g4 0 ∧ f 6 = I (rowsFault r (l.Low.length : Int)) ∧ f 19 = B (decide ((rowsFault r (l.Low.length : Int)) ≠ 0)) ∧ H25 = H) ?_ ?_
  · refine wpF_region ?_
    refine wpL_q (U := NoB) rfl (q_move (v := I (rowsFault r (l.Low.length : Int))) rfl a25_6) ?_
    refine wpL_q (U := NoB) rfl (q_neq rfl rfl rfl) ?_
    exact ⟨a25_4, a25_6, rfl, rfl⟩
  rintro f26 _ ⟨a26_4, a26_6, a26_19, rfl⟩
  clear a25_4 a25_6
  refine wpF_condP a26_19 (fun h2 => ?t34) (fun h2 => ?e34)
  case t34 =>
    refine wpF_seq ?_
    refine wpF_cut (fun f H => f 4 = PT g4 0 ∧ St H0 NoB NoB [blkE g4 (.cells #[I (rowsFault r (l.Low.length : Int)), I (-4)] 27), blkE g11 (.cells #[I ((loopFault l).1), I ((loopFault l).2)] 27), blkE g1 (.cells #[wa, wb, wc, wd, we] 42), rdE wa l.Low, rdE wb l.High, rdE wc l.Start, rdE wd l.Jumps, rdE we l.Bad, rdE vr r] H) ?_ ?_
    · refine wpF_region ?_
      refine wpL_q (U := NoB) rfl (q_move (v := I (rowsFault r (l.Low.length : Int))) rfl a26_6) ?_
      refine wpL_q (U := NoB) rfl (q_build (v := Value.agg #[I (rowsFault r (l.Low.length : Int)), I (-4)]) rfl (par2 (v0 := I (rowsFault r (l.Low.length : Int))) (v1 := I (-4)) rfl rfl) (fun w => by kernel_rfl)) ?_
      refine wpL_o rfl ?_
      refine e_storeBlkA (cs' := #[I (rowsFault r (l.Low.length : Int)), I (-4)]) rfl a26_4 rfl Try.sizeOf27 rfl rfl (List.forall_mem_cons.2 ⟨rfl, List.forall_mem_cons.2 ⟨rfl, List.forall_mem_nil _⟩⟩) (hS25.front 1 rfl) (fun H28 hS29 hxx => ?_)
      replace hS29 : St H0 NoB NoB [blkE g4 (.cells #[I (rowsFault r (l.Low.length : Int)), I (-4)] 27), blkE g11 (.cells #[I ((loopFault l).1), I ((loopFault l).2)] 27), blkE g1 (.cells #[wa, wb, wc, wd, we] 42), rdE wa l.Low, rdE wb l.High, rdE wc l.Start, rdE wd l.Jumps, rdE we l.Bad, rdE vr r] H28 := hS29
      exact ⟨a26_4, hS29⟩
    rintro f30 H30 ⟨a30_4, hS30⟩
    clear a26_19 a26_4 a26_6
    refine wpF_ret ?_
    refine ⟨_, resC a30_4 (loadV_blkA Try.isAgg27 Try.sizeOf27 rfl (hS30.blk 0 rfl)) (resN), hS30.frame, ?_⟩
    show (Value.agg #[I (rowsFault r (l.Low.length : Int)), I (-4)]) = Value.agg #[I (chkFault l r).1, I (chkFault l r).2]
    have hq := chk_rows h1 h2
    rw [hq]
  refine wpF_skip ?_
  refine wpF_seq ?_
  refine wpF_cut (fun f H => f 4 = PT g4 0 ∧ St H0 NoB NoB [blkE g4 (.cells #[I (0), I (0)] 27), blkE g11 (.cells #[I ((loopFault l).1), I ((loopFault l).2)] 27), blkE g1 (.cells #[wa, wb, wc, wd, we] 42), rdE wa l.Low, rdE wb l.High, rdE wc l.Start, rdE wd l.Jumps, rdE we l.Bad, rdE vr r] H) ?_ ?_
  · refine wpF_region ?_
    refine wpL_q (U := NoB) rfl (q_build (v := Value.agg #[I (0), I (0)]) rfl par0 (fun w => by kernel_rfl)) ?_
    refine wpL_o rfl ?_
    refine e_storeBlkA (cs' := #[I (0), I (0)]) rfl a26_4 rfl Try.sizeOf27 rfl rfl (List.forall_mem_cons.2 ⟨rfl, List.forall_mem_cons.2 ⟨rfl, List.forall_mem_nil _⟩⟩) (hS25.front 1 rfl) (fun H31 hS32 hxx => ?_)
    replace hS32 : St H0 NoB NoB [blkE g4 (.cells #[I (0), I (0)] 27), blkE g11 (.cells #[I ((loopFault l).1), I ((loopFault l).2)] 27), blkE g1 (.cells #[wa, wb, wc, wd, we] 42), rdE wa l.Low, rdE wb l.High, rdE wc l.Start, rdE wd l.Jumps, rdE we l.Bad, rdE vr r] H31 := hS32
    exact ⟨a26_4, hS32⟩
  rintro f33 H33 ⟨a33_4, hS33⟩
  clear a26_19 a26_4 a26_6
  refine wpF_ret ?_
  refine ⟨_, resC a33_4 (loadV_blkA Try.isAgg27 Try.sizeOf27 rfl (hS33.blk 0 rfl)) (resN), hS33.frame, ?_⟩
  show (Value.agg #[I (0), I (0)]) = Value.agg #[I (chkFault l r).1, I (chkFault l r).2]
  have hq := chk_no h1 h2
  rw [hq]

set_option maxRecDepth 100000 in
theorem leaves_1 {H0 : Heap} (vx : Value) (gx : Nat) (vr : Value) (x : List Int) (r : List LRow) (hb : H0[gx]? = some (.cells #[vr] 22)) (rx : Rd NoB H0 vx x) (rr : Rd NoB H0 vr r) (hok : HoldOk r x) : CallsH Try.prog 73 #[vx, PT gx 0] H0 (fun rv_ H' => Ext NoB H0 H' ∧ rv_ = B (!holdB r x)) := by
  have hS0 : St H0 NoB NoB [fixE gx (.cells #[vr] 22), rdE vx x, rdE vr r] H0 := St.argFix (St.arg (St.arg (St.start (fun _ h => h.elim)) (Bl0.nil) rr (fun _ h => h)) (Bl0.cons (Bl0.nil)) rx (fun _ h => h)) (Bl0.cons (Bl0.cons (Bl0.nil))) hb (fun h => h)
  refine callsH_of_wpF (args := [vx, PT gx 0]) (rs := [.tmp 3]) Try.func73 rfl Try.ntmps73 Try.results73 (by kernel_rfl) (Nat.le_of_ble_eq_true rfl) ?_
  have a0_0 : argF [vx, PT gx 0] 0 = vx := rfl
  have a0_1 : argF [vx, PT gx 0] 1 = PT gx 0 := rfl
  generalize argF [vx, PT gx 0] = f0 at *
  refine wpF_seq ?_
  refine wpF_cut (fun f H => f 0 = vx ∧ f 1 = PT gx 0 ∧ H0 = H) ?_ ?_
  · refine wpF_region ?_
    refine wpL_q (U := NoB) rfl (q_assign (v := B (false)) rfl rfl) ?_
    exact ⟨a0_0, a0_1, rfl⟩
  rintro f1 _ ⟨a1_0, a1_1, rfl⟩
  clear a0_0 a0_1
  refine wpF_seq ?_
  refine wpF_cut (fun f H => f 3 = B (!(holdB r x)) ∧ St H0 NoB NoB [fixE gx (.cells #[vr] 22), rdE vx x, rdE vr r] H) ?_ ?_
  · refine wpF_region ?_
    refine wpL_q (U := NoB) rfl (q_loadBlk rfl a1_1 Try.isAgg22 (hS0.fixd 0 rfl) rfl (fun h => h)) ?_
    refine wpL_q (U := NoB) rfl (q_move (v := vx) rfl a1_0) ?_
    refine wpL_o rfl ?_
    refine e_call rfl Try.call52 (arr2 (v0 := vr) (v1 := vx) rfl rfl) (Hold_L vr vx r x (hS0.rdN 2 rfl) (hS0.rdN 1 rfl) hok) ?_
    rintro _ H2 ⟨hxx, rfl⟩
    have hS3 : St H0 NoB NoB [fixE gx (.cells #[vr] 22), rdE vx x, rdE vr r] H2 := hS0.ext hxx
    refine wpL_q (U := NoB) rfl (q_not rfl rfl) ?_
    refine wpL_q (U := NoB) rfl (q_assign (v := B (!(holdB r x))) rfl rfl) ?_
    exact ⟨rfl, hS3⟩
  rintro f5 H5 ⟨a5_3, hS5⟩
  clear a1_0 a1_1
  refine wpF_ret ?_
  refine ⟨_, resT a5_3 resN, hS5.frame, ?_⟩
  show (B (!(holdB r x))) = B (!holdB r x)
  rfl

set_option maxRecDepth 100000 in
theorem leaves_L {H0 : Heap} (wa wb wc wd we vs vr : Value) (l : Loop) (s : List Int) (r : List LRow) (rwa : Rd NoB H0 wa l.Low) (rwb : Rd NoB H0 wb l.High) (rwc : Rd NoB H0 wc l.Start) (rwd : Rd NoB H0 wd l.Jumps) (rwe : Rd NoB H0 we l.Bad) (rs : Rd NoB H0 vs s) (rr : Rd NoB H0 vr r) (hl : LW l) (hst : St_ l s) (hrz : rowsFault r l.Low.length = 0) : CallsH Try.prog 54 #[Value.agg #[wa, wb, wc, wd, we], vs, vr] H0 (fun rv_ H' => Ext NoB H0 H' ∧ rv_ = B (leaveB l r s)) := by
  have hokT : ∀ t ∈ nextL l s, HoldOk r t := fun t ht => holdok_st hl hrz (next_st hl ht)
  have hS0 : St H0 NoB NoB [rdE wa l.Low, rdE wb l.High, rdE wc l.Start, rdE wd l.Jumps, rdE we l.Bad, rdE vs s, rdE vr r] H0 := St.arg (St.arg (St.arg (St.arg (St.arg (St.arg (St.arg (St.start (fun _ h => h.elim)) (Bl0.nil) rr (fun _ h => h)) (Bl0.cons (Bl0.nil)) rs (fun _ h => h)) (Bl0.cons (Bl0.cons (Bl0.nil))) rwe (fun _ h => h)) (Bl0.cons (Bl0.cons (Bl0.cons (Bl0.nil)))) rwd (fun _ h => h)) (Bl0.cons (Bl0.cons (Bl0.cons (Bl0.cons (Bl0.nil))))) rwc (fun _ h => h)) (Bl0.cons (Bl0.cons (Bl0.cons (Bl0.cons (Bl0.cons (Bl0.nil)))))) rwb (fun _ h => h)) (Bl0.cons (Bl0.cons (Bl0.cons (Bl0.cons (Bl0.cons (Bl0.cons (Bl0.nil))))))) rwa (fun _ h => h)
  refine callsH_of_wpF (args := [Value.agg #[wa, wb, wc, wd, we], vs, vr]) (rs := [.tmp 6]) Try.func54 rfl Try.ntmps54 Try.results54 (by kernel_rfl) (Nat.le_of_ble_eq_true rfl) ?_
  have a0_0 : argF [Value.agg #[wa, wb, wc, wd, we], vs, vr] 0 = Value.agg #[wa, wb, wc, wd, we] := rfl
  have a0_1 : argF [Value.agg #[wa, wb, wc, wd, we], vs, vr] 1 = vs := rfl
  have a0_2 : argF [Value.agg #[wa, wb, wc, wd, we], vs, vr] 2 = vr := rfl
  generalize argF [Value.agg #[wa, wb, wc, wd, we], vs, vr] = f0 at *
  refine wpF_seq ?_
  refine wpF_cut (fun f H => ∃ (g1 : Nat), ∃ (g4 : Nat), f 1 = vs ∧ f 3 = PT g1 0 ∧ f 5 = PT g4 0 ∧ St H0 NoB NoB [blkE g4 (.cells #[vr] 22), blkE g1 (.cells #[wa, wb, wc, wd, we] 42), rdE wa l.Low, rdE wb l.High, rdE wc l.Start, rdE wd l.Jumps, rdE we l.Bad, rdE vs s, rdE vr r] H) ?_ ?_
  · refine wpF_region ?_
    refine wpL_o rfl ?_
    refine e_box (v := Value.agg #[wa, wb, wc, wd, we]) rfl a0_0 hS0 (fun g1 H2 hS3 hxx => ?_)
    replace hS3 : St H0 NoB NoB [blkE g1 (.cells #[wa, wb, wc, wd, we] 42), rdE wa l.Low, rdE wb l.High, rdE wc l.Start, rdE wd l.Jumps, rdE we l.Bad, rdE vs s, rdE vr r] H2 := hS3
    refine wpL_o rfl ?_
    refine e_box (v := vr) rfl a0_2 hS3 (fun g4 H5 hS6 hxx => ?_)
    rw [cells_rdL (hS3.rdl 7 rfl)] at hS6
    replace hS6 : St H0 NoB NoB [blkE g4 (.cells #[vr] 22), blkE g1 (.cells #[wa, wb, wc, wd, we] 42), rdE wa l.Low, rdE wb l.High, rdE wc l.Start, rdE wd l.Jumps, rdE we l.Bad, rdE vs s, rdE vr r] H5 := hS6
    refine wpL_q (U := NoB) rfl (q_assign (v := B (false)) rfl rfl) ?_
    exact ⟨g1, g4, a0_1, rfl, rfl, hS6⟩
  rintro f7 H7 ⟨g1, g4, a7_1, a7_3, a7_5, hS7⟩
  clear a0_0 a0_1 a0_2
  refine wpF_seq ?_
  refine wpF_cut (fun f H => f 6 = B ((nextL l s).any (fun t => !holdB r t)) ∧ St H0 NoB NoB [blkE g4 (.cells #[vr] 22), blkE g1 (.cells #[wa, wb, wc, wd, we] 42), rdE wa l.Low, rdE wb l.High, rdE wc l.Start, rdE wd l.Jumps, rdE we l.Bad, rdE vs s, rdE vr r] H) ?_ ?_
  · refine wpF_region ?_
    refine wpL_q (U := NoB) rfl (q_loadBlkA rfl a7_3 Try.isAgg42 Try.sizeOf42 rfl (hS7.blk 1 rfl) (fun h => h)) ?_
    refine wpL_q (U := NoB) rfl (q_move (v := vs) rfl a7_1) ?_
    refine wpL_o rfl ?_
    refine e_call rfl Try.call55 (arr2 (v0 := Value.agg #[wa, wb, wc, wd, we]) (v1 := vs) rfl rfl) (Succ_L wa wb wc wd we vs l s (hS7.rdS 2 rfl) (hS7.rdS 3 rfl) (hS7.rdS 4 rfl) (hS7.rdS 5 rfl) (hS7.rdS 6 rfl) (hS7.rdS 7 rfl) hl hst.1 (inside_small hl hst.1 hst.2)) ?_
    rintro r8 H9 ⟨hxx, hrr8⟩
    have hS10 : St H0 NoB NoB [rdE r8 (nextL l s), blkE g4 (.cells #[vr] 22), blkE g1 (.cells #[wa, wb, wc, wd, we] 42), rdE wa l.Low, rdE wb l.High, rdE wc l.Start, rdE wd l.Jumps, rdE we l.Bad, rdE vs s, rdE vr r] H9 := hS7.res hxx hrr8
    refine wpL_q (U := NoB) rfl (q_makeFunc (fi' := #[]) rfl (by simp) (arr1 (v0 := PT g4 0) a7_5)) ?_
    refine wpL_o rfl ?_
    refine e_call rfl Try.call60 (arr2 (v0 := r8) (v1 := Value.func (.func 73) #[] #[PT g4 0]) rfl rfl) (ContainsFuncL r8 (Value.func (.func 73) #[] #[PT g4 0]) (nextL l s) (fun t => !holdB r t) (hS10.rdN 0 rfl) (fun u x hx H hE hr => ⟨_, _, rfl, Try.call73, leaves_1 u g4 vr x r (hE.blk (hS10.blk 1 rfl)) hr ((hS10.rdN 9 rfl).extN hE) (hokT x hx)⟩)) ?_
    rintro _ H12 ⟨hxx, rfl⟩
    have hS13 : St H0 NoB NoB [rdE r8 (nextL l s), blkE g4 (.cells #[vr] 22), blkE g1 (.cells #[wa, wb, wc, wd, we] 42), rdE wa l.Low, rdE wb l.High, rdE wc l.Start, rdE wd l.Jumps, rdE we l.Bad, rdE vs s, rdE vr r] H12 := hS10.ext hxx
    refine wpL_q (U := NoB) rfl (q_assign (v := B ((nextL l s).any (fun t => !holdB r t))) rfl rfl) ?_
    exact ⟨rfl, (hS13.drop (sn (sk (sk (sk (sk (sk (sk (sk (sk (sk (List.Sublist.slnil))))))))))))⟩
  rintro f15 H15 ⟨a15_6, hS15⟩
  clear a7_1 a7_3 a7_5
  refine wpF_ret ?_
  refine ⟨_, resT a15_6 resN, hS15.frame, ?_⟩
  show (B ((nextL l s).any (fun t => !holdB r t))) = B (leaveB l r s)
  rfl

set_option maxHeartbeats 1000000 in
set_option maxRecDepth 100000 in
theorem Kept_L {H0 : Heap} {S : Nat → Prop} (wa wb wc wd we vr : Value) (l : Loop) (r : List LRow) (rwa : Rd S H0 wa l.Low) (rwb : Rd S H0 wb l.High) (rwc : Rd S H0 wc l.Start) (rwd : Rd S H0 wd l.Jumps) (rwe : Rd S H0 we l.Bad) (rr : Rd S H0 vr r) : CallsH Try.prog 21 #[Value.agg #[wa, wb, wc, wd, we], vr] H0 (fun rv_ H' => Ext NoB H0 H' ∧ ∃ w1_, rv_ = Value.tuple #[B (keptB l r), w1_, Value.agg #[I (chkFault l r).1, I (chkFault l r).2]] ∧ Rd (fun b => S b ∧ b < H0.size) H' w1_ (keptS l r)) := by
  have hs1 := (Rd.list.1 rwa).small
  have hs2 := (Rd.list.1 rwb).small
  have hs4 := (Rd.list.1 rwd).small
  have hsr := (Rd.list.1 rr).small
  have hS0 : St H0 NoB (fun b => S b ∧ b < H0.size) [rdE wa l.Low, rdE wb l.High, rdE wc l.Start, rdE wd l.Jumps, rdE we l.Bad, rdE vr r] H0 := St.arg (St.arg (St.arg (St.arg (St.arg (St.arg (St.start (fun _ h => h.2)) (Bl0.nil) rr (fun _ h => h.1)) (Bl0.cons (Bl0.nil)) rwe (fun _ h => h.1)) (Bl0.cons (Bl0.cons (Bl0.nil))) rwd (fun _ h => h.1)) (Bl0.cons (Bl0.cons (Bl0.cons (Bl0.nil)))) rwc (fun _ h => h.1)) (Bl0.cons (Bl0.cons (Bl0.cons (Bl0.cons (Bl0.nil))))) rwb (fun _ h => h.1)) (Bl0.cons (Bl0.cons (Bl0.cons (Bl0.cons (Bl0.cons (Bl0.nil)))))) rwa (fun _ h => h.1)
  refine callsH_of_wpF (args := [Value.agg #[wa, wb, wc, wd, we], vr]) (rs := [.tmp 4, .tmp 5, .cell 6 27]) Try.func21 rfl Try.ntmps21 Try.results21 (by kernel_rfl) (Nat.le_of_ble_eq_true rfl) ?_
  have a0_0 : argF [Value.agg #[wa, wb, wc, wd, we], vr] 0 = Value.agg #[wa, wb, wc, wd, we] := rfl
  have a0_1 : argF [Value.agg #[wa, wb, wc, wd, we], vr] 1 = vr := rfl
  generalize argF [Value.agg #[wa, wb, wc, wd, we], vr] = f0 at *
  refine wpF_seq ?_
  refine wpF_cut (fun f H => ∃ (g1 : Nat), ∃ (g4 : Nat), f 1 = vr ∧ f 2 = PT g1 0 ∧ f 6 = PT g4 0 ∧ St H0 NoB (fun b => S b ∧ b < H0.size) [blkE g4 (.cells #[I (0), I (0)] 27), blkE g1 (.cells #[wa, wb, wc, wd, we] 42), rdE wa l.Low, rdE wb l.High, rdE wc l.Start, rdE wd l.Jumps, rdE we l.Bad, rdE vr r] H) ?_ ?_
  · refine wpF_region ?_
    refine wpL_o rfl ?_
    refine e_box (v := Value.agg #[wa, wb, wc, wd, we]) rfl a0_0 hS0 (fun g1 H2 hS3 hxx => ?_)
    replace hS3 : St H0 NoB (fun b => S b ∧ b < H0.size) [blkE g1 (.cells #[wa, wb, wc, wd, we] 42), rdE wa l.Low, rdE wb l.High, rdE wc l.Start, rdE wd l.Jumps, rdE we l.Bad, rdE vr r] H2 := hS3
    refine wpL_q (U := NoB) rfl (q_assign (v := B (false)) rfl rfl) ?_
    refine wpL_q (U := NoB) rfl (q_assign (v := (Value.slice none 0 0)) rfl rfl) ?_
    refine wpL_o rfl ?_
    refine e_alloc rfl Try.zeroValue27 hS3 (fun g4 H5 hS6 hxx => ?_)
    replace hS6 : St H0 NoB (fun b => S b ∧ b < H0.size) [blkE g4 (.cells #[I (0), I (0)] 27), blkE g1 (.cells #[wa, wb, wc, wd, we] 42), rdE wa l.Low, rdE wb l.High, rdE wc l.Start, rdE wd l.Jumps, rdE we l.Bad, rdE vr r] H5 := hS6
    exact ⟨g1, g4, a0_1, rfl, rfl, hS6⟩
  rintro f7 H7 ⟨g1, g4, a7_1, a7_2, a7_6, hS7⟩
  clear a0_0 a0_1
  refine wpF_seq ?_
  refine wpF_seq ?_
  refine wpF_cut (fun f H => ∃ (g11 : Nat), f 1 = vr ∧ f 2 = PT g1 0 ∧ f 6 = PT g4 0 ∧ f 7 = PT g11 0 ∧ St H0 NoB (fun b => S b ∧ b < H0.size) [blkE g11 (.cells #[I ((chkFault l r).1), I ((chkFault l r).2)] 27), blkE g4 (.cells #[I (0), I (0)] 27), blkE g1 (.cells #[wa, wb, wc, wd, we] 42), rdE wa l.Low, rdE wb l.High, rdE wc l.Start, rdE wd l.Jumps, rdE we l.Bad, rdE vr r] H) ?_ ?_
  · refine wpF_region ?_
    refine wpL_q (U := NoB) rfl (q_loadBlkA rfl a7_2 Try.isAgg42 Try.sizeOf42 rfl (hS7.blk 1 rfl) (fun h => h)) ?_
    refine wpL_q (U := NoB) rfl (q_move (v := vr) rfl a7_1) ?_
    refine wpL_o rfl ?_
    refine e_call rfl Try.call50 (arr2 (v0 := Value.agg #[wa, wb, wc, wd, we]) (v1 := vr) rfl rfl) (check_L wa wb wc wd we vr l r (hS7.rdN 2 rfl) (hS7.rdN 3 rfl) (hS7.rdN 4 rfl) (hS7.rdN 5 rfl) (hS7.rdN 6 rfl) (hS7.rdN 7 rfl) ) ?_
    rintro _ H8 ⟨hxx, rfl⟩
    have hS9 : St H0 NoB (fun b => S b ∧ b < H0.size) [blkE g4 (.cells #[I (0), I (0)] 27), blkE g1 (.cells #[wa, wb, wc, wd, we] 42), rdE wa l.Low, rdE wb l.High, rdE wc l.Start, rdE wd l.Jumps, rdE we l.Bad, rdE vr r] H8 := hS7.ext hxx
    refine wpL_o rfl ?_
    refine e_alloc rfl Try.zeroValue27 hS9 (fun g11 H12 hS13 hxx => ?_)
    replace hS13 : St H0 NoB (fun b => S b ∧ b < H0.size) [blkE g11 (.cells #[I (0), I (0)] 27), blkE g4 (.cells #[I (0), I (0)] 27), blkE g1 (.cells #[wa, wb, wc, wd, we] 42), rdE wa l.Low, rdE wb l.High, rdE wc l.Start, rdE wd l.Jumps, rdE we l.Bad, rdE vr r] H12 := hS13
    refine wpL_o rfl ?_
    refine e_storeBlkA (cs' := #[I ((chkFault l r).1), I ((chkFault l r).2)]) rfl rfl rfl Try.sizeOf27 rfl rfl (List.forall_mem_cons.2 ⟨rfl, List.forall_mem_cons.2 ⟨rfl, List.forall_mem_nil _⟩⟩) hS13 (fun H14 hS15 hxx => ?_)
    replace hS15 : St H0 NoB (fun b => S b ∧ b < H0.size) [blkE g11 (.cells #[I ((chkFault l r).1), I ((chkFault l r).2)] 27), blkE g4 (.cells #[I (0), I (0)] 27), blkE g1 (.cells #[wa, wb, wc, wd, we] 42), rdE wa l.Low, rdE wb l.High, rdE wc l.Start, rdE wd l.Jumps, rdE we l.Bad, rdE vr r] H14 := hS15
    exact ⟨g11, a7_1, a7_2, a7_6, rfl, hS15⟩
  rintro f16 H16 ⟨g11, a16_1, a16_2, a16_6, a16_7, hS16⟩
  clear a7_1 a7_2 a7_6
  refine wpF_seq ?_
  refine wpF_cut (fun f H => f 1 = vr ∧ f 2 = PT g1 0 ∧ f 6 = PT g4 0 ∧ f 7 = PT g11 0 ∧ f 18 = B (decide (((chkFault l r).1) ≠ 0)) ∧ H16 = H) ?_ ?_
  · refine wpF_region ?_
    refine wpL_q (U := NoB) rfl (q_fieldAddr rfl Try.underlying27 rfl Try.sizeOf3 a16_7) ?_
    refine wpL_q (U := NoB) rfl (q_loadBlk rfl rfl Try.isAgg3 (hS16.blk 0 rfl) rfl (fun h => h)) ?_
    refine wpL_q (U := NoB) rfl (q_neq rfl rfl rfl) ?_
    exact ⟨a16_1, a16_2, a16_6, a16_7, rfl, rfl⟩
  rintro f17 _ ⟨a17_1, a17_2, a17_6, a17_7, a17_18, rfl⟩
  clear a16_1 a16_2 a16_6 a16_7
  refine wpF_condP a17_18 (fun h1 => ?t85) (fun h1 => ?e85)
  case t85 =>
    refine wpF_seq ?_
    refine wpF_cut (fun f H => f 4 = B (false) ∧ f 5 = (Value.slice none 0 0) ∧ f 6 = PT g4 0 ∧ St H0 NoB (fun b => S b ∧ b < H0.size) [blkE g4 (.cells #[I ((chkFault l r).1), I ((chkFault l r).2)] 27), blkE g11 (.cells #[I ((chkFault l r).1), I ((chkFault l r).2)] 27), blkE g1 (.cells #[wa, wb, wc, wd, we] 42), rdE wa l.Low, rdE wb l.High, rdE wc l.Start, rdE wd l.Jumps, rdE we l.Bad, rdE vr r] H) ?_ ?_
    · refine wpF_drawn [none, none, none, some 0] [[], [], [], []] (fun l b => match l with | 0 => True | _ => False) (by kernel_rfl) (by kernel_rfl) ?_
      refine wpR_q 0 (by kernel_rfl) rfl (quietAt rfl rfl (q_loadBlkA rfl a17_7 Try.isAgg27 Try.sizeOf27 rfl (hS16.blk 0 rfl) (labU_not [] rfl (List.forall_mem_nil _)))) ?_
      refine wpR_q 1 (by kernel_rfl) rfl (quietAt rfl rfl (q_assign (v := B (false)) rfl rfl)) ?_
      refine wpR_q 2 (by kernel_rfl) rfl (quietAt rfl rfl (q_assign (v := (Value.slice none 0 0)) rfl rfl)) ?_
      refine wpR_n [3] (by kernel_rfl) ?_
      refine List.forall_mem_cons.2 ⟨?_, List.forall_mem_nil _⟩
      refine exE rfl rfl ?_
      refine e_storeBlkA (cs' := #[I ((chkFault l r).1), I ((chkFault l r).2)]) rfl a17_6 rfl Try.sizeOf27 rfl rfl (List.forall_mem_cons.2 ⟨rfl, List.forall_mem_cons.2 ⟨rfl, List.forall_mem_nil _⟩⟩) (hS16.front 1 rfl) (fun H19o3 hS19o3 hxx => ?_)
      replace hS19o3 : St H0 NoB (fun b => S b ∧ b < H0.size) [blkE g4 (.cells #[I ((chkFault l r).1), I ((chkFault l r).2)] 27), blkE g11 (.cells #[I ((chkFault l r).1), I ((chkFault l r).2)] 27), blkE g1 (.cells #[wa, wb, wc, wd, we] 42), rdE wa l.Low, rdE wb l.High, rdE wc l.Start, rdE wd l.Jumps, rdE we l.Bad, rdE vr r] H19o3 := hS19o3
      refine ⟨Ext.mono hxx (labS_of 0 rfl (fun _ _ => trivial)), ?_⟩
      refine wpR_end (by kernel_rfl) ?_
      exact ⟨rfl, rfl, a17_6, hS19o3⟩
    rintro f20 H20 ⟨a20_4, a20_5, a20_6, hS20⟩
    clear a17_1 a17_18 a17_2 a17_6 a17_7
    refine wpF_ret ?_
    refine ⟨_, resT a20_4 (resT a20_5 (resC a20_6 (loadV_blkA Try.isAgg27 Try.sizeOf27 rfl (hS20.blk 0 rfl)) (resN))), hS20.frame, ?_⟩
    show ∃ w1_, (Value.tuple #[B (false), (Value.slice none 0 0), Value.agg #[I ((chkFault l r).1), I ((chkFault l r).2)]]) = Value.tuple #[B (keptB l r), w1_, Value.agg #[I (chkFault l r).1, I (chkFault l r).2]] ∧ Rd (fun b => S b ∧ b < H0.size) H20 w1_ (keptS l r)
    have q1 : keptB l r = false := if_pos h1
    have q2 : keptS l r = [] := if_pos h1
    exact ⟨(Value.slice none 0 0), by rw [q1], by rw [q2]; exact rdNil⟩
  obtain ⟨hl, hrz, hcz⟩ := chk_zero (Decidable.of_not_not h1)
  have hmany := hl.many
  have hsll : (statesL l).length ≤ 1200 := allTo_le hl (Nat.le_refl l.Low.length)
  refine wpF_skip ?_
  refine wpF_seq ?_
  refine wpF_cut (fun f H => ∃ (r21 : Value), f 1 = vr ∧ f 2 = PT g1 0 ∧ f 6 = PT g4 0 ∧ f 8 = r21 ∧ St H0 NoB (fun b => S b ∧ b < H0.size) [rdE r21 (statesL l), blkE g11 (.cells #[I ((chkFault l r).1), I ((chkFault l r).2)] 27), blkE g4 (.cells #[I (0), I (0)] 27), blkE g1 (.cells #[wa, wb, wc, wd, we] 42), rdE wa l.Low, rdE wb l.High, rdE wc l.Start, rdE wd l.Jumps, rdE we l.Bad, rdE vr r] H) ?_ ?_
  · refine wpF_region ?_
    refine wpL_q (U := NoB) rfl (q_loadBlkA rfl a17_2 Try.isAgg42 Try.sizeOf42 rfl (hS16.blk 2 rfl) (fun h => h)) ?_
    refine wpL_o rfl ?_
    refine e_call rfl Try.call51 (arr1 (v0 := Value.agg #[wa, wb, wc, wd, we]) rfl) (All_L wa wb wc wd we l (hS16.rdS 3 rfl) (hS16.rdS 4 rfl) (hS16.rdS 5 rfl) (hS16.rdS 6 rfl) (hS16.rdS 7 rfl) hl) ?_
    rintro r21 H22 ⟨hxx, hrr21⟩
    have hS23 : St H0 NoB (fun b => S b ∧ b < H0.size) [rdE r21 (statesL l), blkE g11 (.cells #[I ((chkFault l r).1), I ((chkFault l r).2)] 27), blkE g4 (.cells #[I (0), I (0)] 27), blkE g1 (.cells #[wa, wb, wc, wd, we] 42), rdE wa l.Low, rdE wb l.High, rdE wc l.Start, rdE wd l.Jumps, rdE we l.Bad, rdE vr r] H22 := hS16.res hxx hrr21
    refine wpL_q (U := NoB) rfl (q_assign (v := r21) rfl rfl) ?_
    exact ⟨r21, a17_1, a17_2, a17_6, rfl, hS23⟩
  rintro f25 H25 ⟨r21, a25_1, a25_2, a25_6, a25_8, hS25⟩
  clear a17_1 a17_18 a17_2 a17_6 a17_7
  refine wpF_seq ?_
  refine wpF_seq ?_
  refine wpF_cut (fun f H => f 1 = vr ∧ f 2 = PT g1 0 ∧ f 6 = PT g4 0 ∧ f 8 = r21 ∧ f 22 = r21 ∧ f 23 = I (((statesL l).length : Int)) ∧ f 24 = I (0) ∧ H25 = H) ?_ ?_
  · refine wpF_region ?_
    refine wpL_q (U := NoB) rfl (q_move (v := r21) rfl a25_8) ?_
    refine wpL_q (U := NoB) rfl (q_lenRd rfl Try.underlying23 rfl (hS25.rdl 0 rfl)) ?_
    refine wpL_q (U := NoB) rfl (q_move (v := I (0)) rfl rfl) ?_
    exact ⟨a25_1, a25_2, a25_6, a25_8, rfl, rfl, rfl, rfl⟩
  rintro f26 _ ⟨a26_1, a26_2, a26_6, a26_8, a26_22, a26_23, a26_24, rfl⟩
  clear a25_1 a25_2 a25_6 a25_8
  refine wpF_block ?_
  refine wpF_loop (fun mz f H => ∃ (i : Nat), mz = (statesL l).length - i ∧ (i ≤ (statesL l).length) ∧ (∀ j, j < i → lost1 l r (nth (statesL l) j) = false) ∧ f 1 = vr ∧ f 2 = PT g1 0 ∧ f 6 = PT g4 0 ∧ f 8 = r21 ∧ f 22 = r21 ∧ f 23 = I (((statesL l).length : Int)) ∧ f 24 = I ((i : Int)) ∧ St H0 NoB (fun b => S b ∧ b < H0.size) [rdE r21 (statesL l), blkE g11 (.cells #[I ((chkFault l r).1), I ((chkFault l r).2)] 27), blkE g4 (.cells #[I (0), I (0)] 27), blkE g1 (.cells #[wa, wb, wc, wd, we] 42), rdE wa l.Low, rdE wb l.High, rdE wc l.Start, rdE wd l.Jumps, rdE we l.Bad, rdE vr r] H) ((statesL l).length - 0) ?_ ?_
  · exact ⟨0, rfl, Nat.zero_le _, (fun j hj => absurd hj (Nat.not_lt_zero j)), a26_1, a26_2, a26_6, a26_8, a26_22, a26_23, (Eq.trans a26_24 (congrArg I (by omega))), hS25⟩
  intro m27 f27 H27 hI27
  obtain ⟨i, hm27, hi, hp1, a27_1, a27_2, a27_6, a27_8, a27_22, a27_23, a27_24, hS27⟩ := hI27
  clear a26_1 a26_2 a26_22 a26_23 a26_24 a26_6 a26_8
  refine wpF_seq ?_
  refine wpF_cut (fun f H => f 1 = vr ∧ f 2 = PT g1 0 ∧ f 6 = PT g4 0 ∧ f 8 = r21 ∧ f 22 = r21 ∧ f 23 = I (((statesL l).length : Int)) ∧ f 24 = I ((i : Int)) ∧ f 25 = B (decide ((i : Int) < ((statesL l).length : Int))) ∧ H27 = H) ?_ ?_
  · refine wpF_region ?_
    refine wpL_q (U := NoB) rfl (q_lss rfl a27_24 a27_23) ?_
    exact ⟨a27_1, a27_2, a27_6, a27_8, a27_22, a27_23, a27_24, rfl, rfl⟩
  rintro f28 _ ⟨a28_1, a28_2, a28_6, a28_8, a28_22, a28_23, a28_24, a28_25, rfl⟩
  clear a27_1 a27_2 a27_22 a27_23 a27_24 a27_6 a27_8
  refine wpF_seq ?_
  refine wpF_condP a28_25 (fun hlt => ?t84) (fun hlt => ?e84)
  case t84 =>
    have hst := state_st hl (i := i) (by omega)
    refine wpF_skip ?_
    refine wpF_seq ?_
    refine wpF_block ?_
    refine wpF_seq ?_
    obtain ⟨u30, huu30, hlu30⟩ := (Rd.list.1 (hS27.rdS 0 rfl)).elem i (by omega)
    have hS31 : St H0 NoB (fun b => S b ∧ b < H0.size) [rdE u30 (nth (statesL l) i), rdE r21 (statesL l), blkE g11 (.cells #[I ((chkFault l r).1), I ((chkFault l r).2)] 27), blkE g4 (.cells #[I (0), I (0)] 27), blkE g1 (.cells #[wa, wb, wc, wd, we] 42), rdE wa l.Low, rdE wb l.High, rdE wc l.Start, rdE wd l.Jumps, rdE we l.Bad, rdE vr r] H27 := hS27.rd huu30
    refine wpF_cut (fun f H => f 1 = vr ∧ f 2 = PT g1 0 ∧ f 6 = PT g4 0 ∧ f 8 = r21 ∧ f 10 = u30 ∧ f 22 = r21 ∧ f 23 = I (((statesL l).length : Int)) ∧ f 24 = I ((i : Int)) ∧ St H0 NoB (fun b => S b ∧ b < H0.size) [rdE u30 (nth (statesL l) i), rdE r21 (statesL l), blkE g11 (.cells #[I ((chkFault l r).1), I ((chkFault l r).2)] 27), blkE g4 (.cells #[I (0), I (0)] 27), blkE g1 (.cells #[wa, wb, wc, wd, we] 42), rdE wa l.Low, rdE wb l.High, rdE wc l.Start, rdE wd l.Jumps, rdE we l.Bad, rdE vr r] H) ?_ ?_
    · refine wpF_region ?_
      refine wpL_q (U := NoB) rfl (q_indexRd (k := i) rfl Try.underlying23 el_LInt_32_HoldC1 a28_22 a28_24 (hS27.rdl 0 rfl) (by omega) (by omega)) ?_
      refine wpL_q (U := NoB) rfl (q_loadE rfl rfl (hlu30 Try.prog 32 _ el_LInt_32_HoldC1 (fun _ h => False.elim h))) ?_
      refine wpL_q (U := NoB) rfl (q_assign (v := u30) rfl rfl) ?_
      exact ⟨a28_1, a28_2, a28_6, a28_8, rfl, a28_22, a28_23, a28_24, hS31⟩
    rintro f32 H32 ⟨a32_1, a32_2, a32_6, a32_8, a32_10, a32_22, a32_23, a32_24, hS32⟩
    clear a28_1 a28_2 a28_22 a28_23 a28_24 a28_25 a28_6 a28_8
    refine wpF_seq ?_
    refine wpF_cut (fun f H => f 1 = vr ∧ f 2 = PT g1 0 ∧ f 6 = PT g4 0 ∧ f 8 = r21 ∧ f 10 = u30 ∧ f 22 = r21 ∧ f 23 = I (((statesL l).length : Int)) ∧ f 24 = I ((i : Int)) ∧ f 37 = B (decide (((holdB l.Start (nth (statesL l) i)) = true) ∧ ((!(holdB r (nth (statesL l) i))) = true))) ∧ St H0 NoB (fun b => S b ∧ b < H0.size) [rdE u30 (nth (statesL l) i), rdE r21 (statesL l), blkE g11 (.cells #[I ((chkFault l r).1), I ((chkFault l r).2)] 27), blkE g4 (.cells #[I (0), I (0)] 27), blkE g1 (.cells #[wa, wb, wc, wd, we] 42), rdE wa l.Low, rdE wb l.High, rdE wc l.Start, rdE wd l.Jumps, rdE we l.Bad, rdE vr r] H) ?_ ?_
    · refine wpF_region ?_
      refine wpL_q (U := NoB) rfl (q_fieldAddr rfl Try.underlying42 rfl Try.sizeOf22 a32_2) ?_
      refine wpL_q (U := NoB) rfl (q_loadBlk rfl rfl Try.isAgg22 (hS32.blk 4 rfl) rfl (fun h => h)) ?_
      refine wpL_q (U := NoB) rfl (q_move (v := u30) rfl a32_10) ?_
      refine wpL_o rfl ?_
      refine e_call rfl Try.call52 (arr2 (v0 := wc) (v1 := u30) rfl rfl) (Hold_L wc u30 l.Start (nth (statesL l) i) (hS32.rdN 7 rfl) (hS32.rdN 0 rfl) (HoldOk.of hl.start hmany.2 (inside_small hl hst.1 hst.2) (by rw [hst.1]; exact Int.le_refl _))) ?_
      rintro _ H33 ⟨hxx, rfl⟩
      have hS34 : St H0 NoB (fun b => S b ∧ b < H0.size) [rdE u30 (nth (statesL l) i), rdE r21 (statesL l), blkE g11 (.cells #[I ((chkFault l r).1), I ((chkFault l r).2)] 27), blkE g4 (.cells #[I (0), I (0)] 27), blkE g1 (.cells #[wa, wb, wc, wd, we] 42), rdE wa l.Low, rdE wb l.High, rdE wc l.Start, rdE wd l.Jumps, rdE we l.Bad, rdE vr r] H33 := hS32.ext hxx
      refine wpL_q (U := NoB) rfl (q_move (v := B (holdB l.Start (nth (statesL l) i))) rfl rfl) ?_
      by_cases hg36 : (holdB l.Start (nth (statesL l) i)) = true
      · have hb37 := Eq.trans rfl (congrArg B hg36)
        refine wpL_gq (U := NoB) rfl rfl rfl hb37 (q_move (v := vr) rfl a32_1) ?_
        refine wpL_gq (U := NoB) rfl rfl rfl hb37 (q_move (v := u30) rfl a32_10) ?_
        refine wpL_go rfl rfl rfl hb37 ?_
        refine e_call rfl Try.call52 (arr2 (v0 := vr) (v1 := u30) rfl rfl) (Hold_L vr u30 r (nth (statesL l) i) (hS34.rdN 10 rfl) (hS34.rdN 0 rfl) (holdok_st hl hrz hst)) ?_
        rintro _ H39 ⟨hxx, rfl⟩
        have hS40 : St H0 NoB (fun b => S b ∧ b < H0.size) [rdE u30 (nth (statesL l) i), rdE r21 (statesL l), blkE g11 (.cells #[I ((chkFault l r).1), I ((chkFault l r).2)] 27), blkE g4 (.cells #[I (0), I (0)] 27), blkE g1 (.cells #[wa, wb, wc, wd, we] 42), rdE wa l.Low, rdE wb l.High, rdE wc l.Start, rdE wd l.Jumps, rdE we l.Bad, rdE vr r] H39 := hS34.ext hxx
        refine wpL_gq (U := NoB) rfl rfl rfl hb37 (q_not rfl rfl) ?_
        refine wpL_q (U := NoB) rfl (q_pickT (v := B (!(holdB r (nth (statesL l) i)))) rfl hb37 rfl) ?_
        exact ⟨a32_1, a32_2, a32_6, a32_8, a32_10, a32_22, a32_23, a32_24, (Eq.trans rfl (congrArg B (bool_congr_of ((Iff.rfl).trans (((and_iff_right hg36).trans Iff.rfl)).symm)))), hS40⟩
      · have hb38 := Eq.trans rfl (congrArg B (Bool.eq_false_iff.2 hg36))
        refine wpL_gs rfl rfl rfl hb38 rfl ?_
        refine wpL_gs rfl rfl rfl hb38 rfl ?_
        refine wpL_gs rfl rfl rfl hb38 rfl ?_
        refine wpL_gs rfl rfl rfl hb38 rfl ?_
        refine wpL_q (U := NoB) rfl (q_pickF (v := B (false)) rfl hb38 rfl) ?_
        exact ⟨a32_1, a32_2, a32_6, a32_8, a32_10, a32_22, a32_23, a32_24, (Eq.trans rfl (congrArg B ((decide_eq_false (fun h => hg36 h.1)).symm))), hS34⟩
    rintro f42 H42 ⟨a42_1, a42_2, a42_6, a42_8, a42_10, a42_22, a42_23, a42_24, a42_37, hS42⟩
    clear a32_1 a32_10 a32_2 a32_22 a32_23 a32_24 a32_6 a32_8
    refine wpF_condP a42_37 (fun h37 => ?t52) (fun h37 => ?e52)
    case e52 =>
      refine wpF_skip ?_
      refine wpF_cut (fun f H => f 1 = vr ∧ f 2 = PT g1 0 ∧ f 6 = PT g4 0 ∧ f 8 = r21 ∧ f 22 = r21 ∧ f 23 = I (((statesL l).length : Int)) ∧ f 24 = I ((i : Int) + 1) ∧ H42 = H) ?_ ?_
      · refine wpF_region ?_
        refine wpL_q (U := NoB) rfl (q_add rfl a42_24 rfl (by constructor <;> omega)) ?_
        refine wpL_q (U := NoB) rfl (q_move (v := I ((i : Int) + 1)) rfl rfl) ?_
        exact ⟨a42_1, a42_2, a42_6, a42_8, a42_22, a42_23, rfl, rfl⟩
      rintro f51 _ ⟨a51_1, a51_2, a51_6, a51_8, a51_22, a51_23, a51_24, rfl⟩
      clear a42_1 a42_10 a42_2 a42_22 a42_23 a42_24 a42_37 a42_6 a42_8
      refine ⟨_, ?_, i + 1, rfl, (by omega), (all_succ hp1 (lost1_no h37)), a51_1, a51_2, a51_6, a51_8, a51_22, a51_23, (Eq.trans a51_24 (congrArg I (by omega))), (hS42.drop (sn (sk (sk (sk (sk (sk (sk (sk (sk (sk (sk (List.Sublist.slnil)))))))))))))⟩
      omega
    refine wpF_seq ?_
    refine wpF_cut (fun f H => ∃ (r44 : Value), f 4 = B (false) ∧ f 5 = r44 ∧ f 6 = PT g4 0 ∧ St H0 NoB (fun b => S b ∧ b < H0.size) [blkE g4 (.cells #[I (0), I (0)] 27), rdE r44 ((nth (statesL l) i)), blkE g11 (.cells #[I ((chkFault l r).1), I ((chkFault l r).2)] 27), blkE g1 (.cells #[wa, wb, wc, wd, we] 42), rdE wa l.Low, rdE wb l.High, rdE wc l.Start, rdE wd l.Jumps, rdE we l.Bad, rdE vr r] H) ?_ ?_
    · refine wpF_region ?_
      refine wpL_q (U := NoB) rfl (q_move (v := u30) rfl a42_10) ?_
      refine wpL_o rfl ?_
      refine e_call rfl Try.call53 (arr1 (v0 := u30) rfl) (Clone u30 _ (hS42.rdS 0 rfl)) ?_
      rintro r44 H45 ⟨hxx, hrr44⟩
      have hS46 : St H0 NoB (fun b => S b ∧ b < H0.size) [rdE r44 ((nth (statesL l) i)), rdE u30 (nth (statesL l) i), rdE r21 (statesL l), blkE g11 (.cells #[I ((chkFault l r).1), I ((chkFault l r).2)] 27), blkE g4 (.cells #[I (0), I (0)] 27), blkE g1 (.cells #[wa, wb, wc, wd, we] 42), rdE wa l.Low, rdE wb l.High, rdE wc l.Start, rdE wd l.Jumps, rdE we l.Bad, rdE vr r] H45 := hS42.res hxx hrr44
      refine wpL_q (U := NoB) rfl (q_build (v := Value.agg #[I (0), I (0)]) rfl par0 (fun w => by kernel_rfl)) ?_
      refine wpL_q (U := NoB) rfl (q_assign (v := B (false)) rfl rfl) ?_
      refine wpL_q (U := NoB) rfl (q_assign (v := r44) rfl rfl) ?_
      refine wpL_o rfl ?_
      refine e_storeBlkA (cs' := #[I (0), I (0)]) rfl a42_6 rfl Try.sizeOf27 rfl rfl (List.forall_mem_cons.2 ⟨rfl, List.forall_mem_cons.2 ⟨rfl, List.forall_mem_nil _⟩⟩) (hS46.front 4 rfl) (fun H48 hS49 hxx => ?_)
      replace hS49 : St H0 NoB (fun b => S b ∧ b < H0.size) [blkE g4 (.cells #[I (0), I (0)] 27), rdE r44 ((nth (statesL l) i)), rdE u30 (nth (statesL l) i), rdE r21 (statesL l), blkE g11 (.cells #[I ((chkFault l r).1), I ((chkFault l r).2)] 27), blkE g1 (.cells #[wa, wb, wc, wd, we] 42), rdE wa l.Low, rdE wb l.High, rdE wc l.Start, rdE wd l.Jumps, rdE we l.Bad, rdE vr r] H48 := hS49
      exact ⟨r44, rfl, rfl, a42_6, (hS49.drop (sk (sk (sn (sn (sk (sk (sk (sk (sk (sk (sk (sk (List.Sublist.slnil))))))))))))))⟩
    rintro f50 H50 ⟨r44, a50_4, a50_5, a50_6, hS50⟩
    clear a42_1 a42_10 a42_2 a42_22 a42_23 a42_24 a42_37 a42_6 a42_8
    refine wpF_ret ?_
    refine ⟨_, resT a50_4 (resT a50_5 (resC a50_6 (loadV_blkA Try.isAgg27 Try.sizeOf27 rfl (hS50.blk 0 rfl)) (resN))), hS50.frame, ?_⟩
    show ∃ w1_, (Value.tuple #[B (false), r44, Value.agg #[I (0), I (0)]]) = Value.tuple #[B (keptB l r), w1_, Value.agg #[I (chkFault l r).1, I (chkFault l r).2]] ∧ Rd (fun b => S b ∧ b < H0.size) H50 w1_ (keptS l r)
    have hls : lostS l r = _ := lostS_1 (k := i) (by omega) hp1 (by rw [lost1, h37.1]; exact h37.2)
    have q1 : keptB l r = false := by rw [keptB, if_neg h1, hls]; rfl
    have q2 : keptS l r = (lostS l r).getD [] := if_neg h1
    rw [hls] at q2
    exact ⟨r44, by rw [q1, hcz], by rw [q2]; exact (hS50.result (hS50.rdS 1 rfl))⟩
  refine wpF_exit ?_
  refine atX_here ?_
  refine wpF_seq ?_
  refine wpF_seq ?_
  refine wpF_cut (fun f H => f 1 = vr ∧ f 2 = PT g1 0 ∧ f 6 = PT g4 0 ∧ f 42 = r21 ∧ f 43 = I (((statesL l).length : Int)) ∧ f 44 = I (0) ∧ H27 = H) ?_ ?_
  · refine wpF_region ?_
    refine wpL_q (U := NoB) rfl (q_move (v := r21) rfl a28_8) ?_
    refine wpL_q (U := NoB) rfl (q_lenRd rfl Try.underlying23 rfl (hS27.rdl 0 rfl)) ?_
    refine wpL_q (U := NoB) rfl (q_move (v := I (0)) rfl rfl) ?_
    exact ⟨a28_1, a28_2, a28_6, rfl, rfl, rfl, rfl⟩
  rintro f53 _ ⟨a53_1, a53_2, a53_6, a53_42, a53_43, a53_44, rfl⟩
  clear a28_1 a28_2 a28_22 a28_23 a28_24 a28_25 a28_6 a28_8
  refine wpF_block ?_
  refine wpF_loop (fun mz f H => ∃ (i2 : Nat), mz = (statesL l).length - i2 ∧ (i2 ≤ (statesL l).length) ∧ (∀ j, j < i2 → lost2 l r (nth (statesL l) j) = false) ∧ f 1 = vr ∧ f 2 = PT g1 0 ∧ f 6 = PT g4 0 ∧ f 42 = r21 ∧ f 43 = I (((statesL l).length : Int)) ∧ f 44 = I ((i2 : Int)) ∧ St H0 NoB (fun b => S b ∧ b < H0.size) [rdE r21 (statesL l), blkE g11 (.cells #[I ((chkFault l r).1), I ((chkFault l r).2)] 27), blkE g4 (.cells #[I (0), I (0)] 27), blkE g1 (.cells #[wa, wb, wc, wd, we] 42), rdE wa l.Low, rdE wb l.High, rdE wc l.Start, rdE wd l.Jumps, rdE we l.Bad, rdE vr r] H) ((statesL l).length - 0) ?_ ?_
  · exact ⟨0, rfl, Nat.zero_le _, (fun j hj => absurd hj (Nat.not_lt_zero j)), a53_1, a53_2, a53_6, a53_42, a53_43, (Eq.trans a53_44 (congrArg I (by omega))), hS27⟩
  intro m54 f54 H54 hI54
  obtain ⟨i2, hm54, hi2, hp2, a54_1, a54_2, a54_6, a54_42, a54_43, a54_44, hS54⟩ := hI54
  clear a53_1 a53_2 a53_42 a53_43 a53_44 a53_6
  refine wpF_seq ?_
  refine wpF_cut (fun f H => f 1 = vr ∧ f 2 = PT g1 0 ∧ f 6 = PT g4 0 ∧ f 42 = r21 ∧ f 43 = I (((statesL l).length : Int)) ∧ f 44 = I ((i2 : Int)) ∧ f 45 = B (decide ((i2 : Int) < ((statesL l).length : Int))) ∧ H54 = H) ?_ ?_
  · refine wpF_region ?_
    refine wpL_q (U := NoB) rfl (q_lss rfl a54_44 a54_43) ?_
    exact ⟨a54_1, a54_2, a54_6, a54_42, a54_43, a54_44, rfl, rfl⟩
  rintro f55 _ ⟨a55_1, a55_2, a55_6, a55_42, a55_43, a55_44, a55_45, rfl⟩
  clear a54_1 a54_2 a54_42 a54_43 a54_44 a54_6
  refine wpF_seq ?_
  refine wpF_condP a55_45 (fun hlt2 => ?t83) (fun hlt2 => ?e83)
  case e83 =>
    refine wpF_exit ?_
    refine atX_here ?_
    refine wpF_seq ?_
    refine wpF_cut (fun f H => f 4 = B (true) ∧ f 5 = (Value.slice none 0 0) ∧ f 6 = PT g4 0 ∧ St H0 NoB (fun b => S b ∧ b < H0.size) [blkE g4 (.cells #[I (0), I (0)] 27), blkE g11 (.cells #[I ((chkFault l r).1), I ((chkFault l r).2)] 27), blkE g1 (.cells #[wa, wb, wc, wd, we] 42), rdE wa l.Low, rdE wb l.High, rdE wc l.Start, rdE wd l.Jumps, rdE we l.Bad, rdE vr r] H) ?_ ?_
    · refine wpF_region ?_
      refine wpL_q (U := NoB) rfl (q_build (v := Value.agg #[I (0), I (0)]) rfl par0 (fun w => by kernel_rfl)) ?_
      refine wpL_q (U := NoB) rfl (q_assign (v := B (true)) rfl rfl) ?_
      refine wpL_q (U := NoB) rfl (q_assign (v := (Value.slice none 0 0)) rfl rfl) ?_
      refine wpL_o rfl ?_
      refine e_storeBlkA (cs' := #[I (0), I (0)]) rfl a55_6 rfl Try.sizeOf27 rfl rfl (List.forall_mem_cons.2 ⟨rfl, List.forall_mem_cons.2 ⟨rfl, List.forall_mem_nil _⟩⟩) (hS54.front 2 rfl) (fun H80 hS81 hxx => ?_)
      replace hS81 : St H0 NoB (fun b => S b ∧ b < H0.size) [blkE g4 (.cells #[I (0), I (0)] 27), rdE r21 (statesL l), blkE g11 (.cells #[I ((chkFault l r).1), I ((chkFault l r).2)] 27), blkE g1 (.cells #[wa, wb, wc, wd, we] 42), rdE wa l.Low, rdE wb l.High, rdE wc l.Start, rdE wd l.Jumps, rdE we l.Bad, rdE vr r] H80 := hS81
      exact ⟨rfl, rfl, a55_6, (hS81.drop (sk (sn (sk (sk (sk (sk (sk (sk (sk (sk (List.Sublist.slnil))))))))))))⟩
    rintro f82 H82 ⟨a82_4, a82_5, a82_6, hS82⟩
    clear a55_1 a55_2 a55_42 a55_43 a55_44 a55_45 a55_6
    refine wpF_ret ?_
    refine ⟨_, resT a82_4 (resT a82_5 (resC a82_6 (loadV_blkA Try.isAgg27 Try.sizeOf27 rfl (hS82.blk 0 rfl)) (resN))), hS82.frame, ?_⟩
    show ∃ w1_, (Value.tuple #[B (true), (Value.slice none 0 0), Value.agg #[I (0), I (0)]]) = Value.tuple #[B (keptB l r), w1_, Value.agg #[I (chkFault l r).1, I (chkFault l r).2]] ∧ Rd (fun b => S b ∧ b < H0.size) H82 w1_ (keptS l r)
    have hls : lostS l r = _ := lostS_no (fun j hj => hp1 j (by omega)) (fun j hj => hp2 j (by omega))
    have q1 : keptB l r = true := by rw [keptB, if_neg h1, hls]; rfl
    have q2 : keptS l r = (lostS l r).getD [] := if_neg h1
    rw [hls] at q2
    exact ⟨(Value.slice none 0 0), by rw [q1, hcz], by rw [q2]; exact rdNil⟩
  have hst := state_st hl (i := i2) (by omega)
  refine wpF_skip ?_
  refine wpF_seq ?_
  refine wpF_block ?_
  refine wpF_seq ?_
  obtain ⟨u57, huu57, hlu57⟩ := (Rd.list.1 (hS54.rdS 0 rfl)).elem i2 (by omega)
  have hS58 : St H0 NoB (fun b => S b ∧ b < H0.size) [rdE u57 (nth (statesL l) i2), rdE r21 (statesL l), blkE g11 (.cells #[I ((chkFault l r).1), I ((chkFault l r).2)] 27), blkE g4 (.cells #[I (0), I (0)] 27), blkE g1 (.cells #[wa, wb, wc, wd, we] 42), rdE wa l.Low, rdE wb l.High, rdE wc l.Start, rdE wd l.Jumps, rdE we l.Bad, rdE vr r] H54 := hS54.rd huu57
  refine wpF_cut (fun f H => f 1 = vr ∧ f 2 = PT g1 0 ∧ f 6 = PT g4 0 ∧ f 12 = u57 ∧ f 42 = r21 ∧ f 43 = I (((statesL l).length : Int)) ∧ f 44 = I ((i2 : Int)) ∧ St H0 NoB (fun b => S b ∧ b < H0.size) [rdE u57 (nth (statesL l) i2), rdE r21 (statesL l), blkE g11 (.cells #[I ((chkFault l r).1), I ((chkFault l r).2)] 27), blkE g4 (.cells #[I (0), I (0)] 27), blkE g1 (.cells #[wa, wb, wc, wd, we] 42), rdE wa l.Low, rdE wb l.High, rdE wc l.Start, rdE wd l.Jumps, rdE we l.Bad, rdE vr r] H) ?_ ?_
  · refine wpF_region ?_
    refine wpL_q (U := NoB) rfl (q_indexRd (k := i2) rfl Try.underlying23 el_LInt_32_HoldC1 a55_42 a55_44 (hS54.rdl 0 rfl) (by omega) (by omega)) ?_
    refine wpL_q (U := NoB) rfl (q_loadE rfl rfl (hlu57 Try.prog 32 _ el_LInt_32_HoldC1 (fun _ h => False.elim h))) ?_
    refine wpL_q (U := NoB) rfl (q_assign (v := u57) rfl rfl) ?_
    exact ⟨a55_1, a55_2, a55_6, rfl, a55_42, a55_43, a55_44, hS58⟩
  rintro f59 H59 ⟨a59_1, a59_2, a59_6, a59_12, a59_42, a59_43, a59_44, hS59⟩
  clear a55_1 a55_2 a55_42 a55_43 a55_44 a55_45 a55_6
  refine wpF_seq ?_
  refine wpF_cut (fun f H => f 1 = vr ∧ f 2 = PT g1 0 ∧ f 6 = PT g4 0 ∧ f 12 = u57 ∧ f 42 = r21 ∧ f 43 = I (((statesL l).length : Int)) ∧ f 44 = I ((i2 : Int)) ∧ f 56 = B (decide (((holdB r (nth (statesL l) i2)) = true) ∧ ((leaveB l r (nth (statesL l) i2)) = true))) ∧ St H0 NoB (fun b => S b ∧ b < H0.size) [rdE u57 (nth (statesL l) i2), rdE r21 (statesL l), blkE g11 (.cells #[I ((chkFault l r).1), I ((chkFault l r).2)] 27), blkE g4 (.cells #[I (0), I (0)] 27), blkE g1 (.cells #[wa, wb, wc, wd, we] 42), rdE wa l.Low, rdE wb l.High, rdE wc l.Start, rdE wd l.Jumps, rdE we l.Bad, rdE vr r] H) ?_ ?_
  · refine wpF_region ?_
    refine wpL_q (U := NoB) rfl (q_move (v := vr) rfl a59_1) ?_
    refine wpL_q (U := NoB) rfl (q_move (v := u57) rfl a59_12) ?_
    refine wpL_o rfl ?_
    refine e_call rfl Try.call52 (arr2 (v0 := vr) (v1 := u57) rfl rfl) (Hold_L vr u57 r (nth (statesL l) i2) (hS59.rdN 10 rfl) (hS59.rdN 0 rfl) (holdok_st hl hrz hst)) ?_
    rintro _ H60 ⟨hxx, rfl⟩
    have hS61 : St H0 NoB (fun b => S b ∧ b < H0.size) [rdE u57 (nth (statesL l) i2), rdE r21 (statesL l), blkE g11 (.cells #[I ((chkFault l r).1), I ((chkFault l r).2)] 27), blkE g4 (.cells #[I (0), I (0)] 27), blkE g1 (.cells #[wa, wb, wc, wd, we] 42), rdE wa l.Low, rdE wb l.High, rdE wc l.Start, rdE wd l.Jumps, rdE we l.Bad, rdE vr r] H60 := hS59.ext hxx
    refine wpL_q (U := NoB) rfl (q_move (v := B (holdB r (nth (statesL l) i2))) rfl rfl) ?_
    by_cases hg63 : (holdB r (nth (statesL l) i2)) = true
    · have hb64 := Eq.trans rfl (congrArg B hg63)
      refine wpL_gq (U := NoB) rfl rfl rfl hb64 (q_loadBlkA rfl a59_2 Try.isAgg42 Try.sizeOf42 rfl (hS61.blk 4 rfl) (fun h => h)) ?_
      refine wpL_gq (U := NoB) rfl rfl rfl hb64 (q_move (v := u57) rfl a59_12) ?_
      refine wpL_gq (U := NoB) rfl rfl rfl hb64 (q_move (v := vr) rfl a59_1) ?_
      refine wpL_go rfl rfl rfl hb64 ?_
      refine e_call rfl Try.call54 (arr3 (v0 := Value.agg #[wa, wb, wc, wd, we]) (v1 := u57) (v2 := vr) rfl rfl rfl) (leaves_L wa wb wc wd we u57 vr l (nth (statesL l) i2) r (hS61.rdN 5 rfl) (hS61.rdN 6 rfl) (hS61.rdN 7 rfl) (hS61.rdN 8 rfl) (hS61.rdN 9 rfl) (hS61.rdN 0 rfl) (hS61.rdN 10 rfl) hl hst hrz) ?_
      rintro _ H66 ⟨hxx, rfl⟩
      have hS67 : St H0 NoB (fun b => S b ∧ b < H0.size) [rdE u57 (nth (statesL l) i2), rdE r21 (statesL l), blkE g11 (.cells #[I ((chkFault l r).1), I ((chkFault l r).2)] 27), blkE g4 (.cells #[I (0), I (0)] 27), blkE g1 (.cells #[wa, wb, wc, wd, we] 42), rdE wa l.Low, rdE wb l.High, rdE wc l.Start, rdE wd l.Jumps, rdE we l.Bad, rdE vr r] H66 := hS61.ext hxx
      refine wpL_q (U := NoB) rfl (q_pickT (v := B (leaveB l r (nth (statesL l) i2))) rfl hb64 rfl) ?_
      exact ⟨a59_1, a59_2, a59_6, a59_12, a59_42, a59_43, a59_44, (Eq.trans rfl (congrArg B (bool_congr_of ((Iff.rfl).trans (((and_iff_right hg63).trans Iff.rfl)).symm)))), hS67⟩
    · have hb65 := Eq.trans rfl (congrArg B (Bool.eq_false_iff.2 hg63))
      refine wpL_gs rfl rfl rfl hb65 rfl ?_
      refine wpL_gs rfl rfl rfl hb65 rfl ?_
      refine wpL_gs rfl rfl rfl hb65 rfl ?_
      refine wpL_gs rfl rfl rfl hb65 rfl ?_
      refine wpL_q (U := NoB) rfl (q_pickF (v := B (false)) rfl hb65 rfl) ?_
      exact ⟨a59_1, a59_2, a59_6, a59_12, a59_42, a59_43, a59_44, (Eq.trans rfl (congrArg B ((decide_eq_false (fun h => hg63 h.1)).symm))), hS61⟩
  rintro f69 H69 ⟨a69_1, a69_2, a69_6, a69_12, a69_42, a69_43, a69_44, a69_56, hS69⟩
  clear a59_1 a59_12 a59_2 a59_42 a59_43 a59_44 a59_6
  refine wpF_condP a69_56 (fun h56 => ?t79) (fun h56 => ?e79)
  case e79 =>
    refine wpF_skip ?_
    refine wpF_cut (fun f H => f 1 = vr ∧ f 2 = PT g1 0 ∧ f 6 = PT g4 0 ∧ f 42 = r21 ∧ f 43 = I (((statesL l).length : Int)) ∧ f 44 = I ((i2 : Int) + 1) ∧ H69 = H) ?_ ?_
    · refine wpF_region ?_
      refine wpL_q (U := NoB) rfl (q_add rfl a69_44 rfl (by constructor <;> omega)) ?_
      refine wpL_q (U := NoB) rfl (q_move (v := I ((i2 : Int) + 1)) rfl rfl) ?_
      exact ⟨a69_1, a69_2, a69_6, a69_42, a69_43, rfl, rfl⟩
    rintro f78 _ ⟨a78_1, a78_2, a78_6, a78_42, a78_43, a78_44, rfl⟩
    clear a69_1 a69_12 a69_2 a69_42 a69_43 a69_44 a69_56 a69_6
    refine ⟨_, ?_, i2 + 1, rfl, (by omega), (all_succ hp2 (lost2_no h56)), a78_1, a78_2, a78_6, a78_42, a78_43, (Eq.trans a78_44 (congrArg I (by omega))), (hS69.drop (sn (sk (sk (sk (sk (sk (sk (sk (sk (sk (sk (List.Sublist.slnil)))))))))))))⟩
    omega
  refine wpF_seq ?_
  refine wpF_cut (fun f H => ∃ (r71 : Value), f 4 = B (false) ∧ f 5 = r71 ∧ f 6 = PT g4 0 ∧ St H0 NoB (fun b => S b ∧ b < H0.size) [blkE g4 (.cells #[I (0), I (0)] 27), rdE r71 ((nth (statesL l) i2)), blkE g11 (.cells #[I ((chkFault l r).1), I ((chkFault l r).2)] 27), blkE g1 (.cells #[wa, wb, wc, wd, we] 42), rdE wa l.Low, rdE wb l.High, rdE wc l.Start, rdE wd l.Jumps, rdE we l.Bad, rdE vr r] H) ?_ ?_
  · refine wpF_region ?_
    refine wpL_q (U := NoB) rfl (q_move (v := u57) rfl a69_12) ?_
    refine wpL_o rfl ?_
    refine e_call rfl Try.call53 (arr1 (v0 := u57) rfl) (Clone u57 _ (hS69.rdS 0 rfl)) ?_
    rintro r71 H72 ⟨hxx, hrr71⟩
    have hS73 : St H0 NoB (fun b => S b ∧ b < H0.size) [rdE r71 ((nth (statesL l) i2)), rdE u57 (nth (statesL l) i2), rdE r21 (statesL l), blkE g11 (.cells #[I ((chkFault l r).1), I ((chkFault l r).2)] 27), blkE g4 (.cells #[I (0), I (0)] 27), blkE g1 (.cells #[wa, wb, wc, wd, we] 42), rdE wa l.Low, rdE wb l.High, rdE wc l.Start, rdE wd l.Jumps, rdE we l.Bad, rdE vr r] H72 := hS69.res hxx hrr71
    refine wpL_q (U := NoB) rfl (q_build (v := Value.agg #[I (0), I (0)]) rfl par0 (fun w => by kernel_rfl)) ?_
    refine wpL_q (U := NoB) rfl (q_assign (v := B (false)) rfl rfl) ?_
    refine wpL_q (U := NoB) rfl (q_assign (v := r71) rfl rfl) ?_
    refine wpL_o rfl ?_
    refine e_storeBlkA (cs' := #[I (0), I (0)]) rfl a69_6 rfl Try.sizeOf27 rfl rfl (List.forall_mem_cons.2 ⟨rfl, List.forall_mem_cons.2 ⟨rfl, List.forall_mem_nil _⟩⟩) (hS73.front 4 rfl) (fun H75 hS76 hxx => ?_)
    replace hS76 : St H0 NoB (fun b => S b ∧ b < H0.size) [blkE g4 (.cells #[I (0), I (0)] 27), rdE r71 ((nth (statesL l) i2)), rdE u57 (nth (statesL l) i2), rdE r21 (statesL l), blkE g11 (.cells #[I ((chkFault l r).1), I ((chkFault l r).2)] 27), blkE g1 (.cells #[wa, wb, wc, wd, we] 42), rdE wa l.Low, rdE wb l.High, rdE wc l.Start, rdE wd l.Jumps, rdE we l.Bad, rdE vr r] H75 := hS76
    exact ⟨r71, rfl, rfl, a69_6, (hS76.drop (sk (sk (sn (sn (sk (sk (sk (sk (sk (sk (sk (sk (List.Sublist.slnil))))))))))))))⟩
  rintro f77 H77 ⟨r71, a77_4, a77_5, a77_6, hS77⟩
  clear a69_1 a69_12 a69_2 a69_42 a69_43 a69_44 a69_56 a69_6
  refine wpF_ret ?_
  refine ⟨_, resT a77_4 (resT a77_5 (resC a77_6 (loadV_blkA Try.isAgg27 Try.sizeOf27 rfl (hS77.blk 0 rfl)) (resN))), hS77.frame, ?_⟩
  show ∃ w1_, (Value.tuple #[B (false), r71, Value.agg #[I (0), I (0)]]) = Value.tuple #[B (keptB l r), w1_, Value.agg #[I (chkFault l r).1, I (chkFault l r).2]] ∧ Rd (fun b => S b ∧ b < H0.size) H77 w1_ (keptS l r)
  have hls : lostS l r = _ := lostS_2 (k := i2) (fun j hj => hp1 j (by omega)) (by omega) hp2 (by rw [lost2, h56.1]; exact h56.2)
  have q1 : keptB l r = false := by rw [keptB, if_neg h1, hls]; rfl
  have q2 : keptS l r = (lostS l r).getD [] := if_neg h1
  rw [hls] at q2
  exact ⟨r71, by rw [q1, hcz], by rw [q2]; exact (hS77.result (hS77.rdS 1 rfl))⟩

end Go.Um
