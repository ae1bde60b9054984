import Derived.Test.YtfgibfbgklkgbaaProg
import Derived.Test.YtfgibfbgklkgbaaLoopS4
import Derived.Test.YtfgibfbgklkgbaaUmSub
namespace Go.Um
open Go.Proofs
open GoT (sz ag rdc)
open KeyT (kv)

theorem el_LInt_32_LoopS5 : ElT Try.prog (List Int) 32 := ⟨Try.isAgg32, Try.sizeOf32⟩
theorem em_LInt_32_LoopS5 : ElemOk Try.prog (List Int) 32 := ⟨Try.t32, (.slice none 0 0), by kernel_rfl, by kernel_rfl, by kernel_rfl, by kernel_rfl, by kernel_rfl⟩

set_option maxHeartbeats 2000000 in
set_option maxRecDepth 100000 in
theorem Runs_L {H0 : Heap} {S : Nat → Prop} (wa wb wc wd we : Value) (l : Loop) (rwa : Rd S H0 wa l.Low) (rwb : Rd S H0 wb l.High) (rwc : Rd S H0 wc l.Start) (rwd : Rd S H0 wd l.Jumps) (rwe : Rd S H0 we l.Bad) : CallsH Try.prog 22 #[Value.agg #[wa, wb, wc, wd, we]] H0 (fun rv_ H' => Ext NoB H0 H' ∧ ∃ w0_, rv_ = Value.tuple #[w0_, Value.agg #[I (loopFault l).1, I (loopFault l).2]] ∧ Rd (fun b => S b ∧ b < H0.size) H' w0_ (runsOut l)) := by
  have hs1 := (Rd.list.1 rwa).small
  have hs2 := (Rd.list.1 rwb).small
  have hs4 := (Rd.list.1 rwd).small
  have hS0 : St H0 NoB (fun b => S b ∧ b < H0.size) [rdE wa l.Low, rdE wb l.High, rdE wc l.Start, rdE wd l.Jumps, rdE we l.Bad] H0 := St.arg (St.arg (St.arg (St.arg (St.arg (St.start (fun _ h => h.2)) (Bl0.nil) rwe (fun _ h => h.1)) (Bl0.cons (Bl0.nil)) rwd (fun _ h => h.1)) (Bl0.cons (Bl0.cons (Bl0.nil))) rwc (fun _ h => h.1)) (Bl0.cons (Bl0.cons (Bl0.cons (Bl0.nil)))) rwb (fun _ h => h.1)) (Bl0.cons (Bl0.cons (Bl0.cons (Bl0.cons (Bl0.nil))))) rwa (fun _ h => h.1)
  refine callsH_of_wpF (args := [Value.agg #[wa, wb, wc, wd, we]]) (rs := [.tmp 2, .cell 3 27]) Try.func22 rfl Try.ntmps22 Try.results22 (by kernel_rfl) (Nat.le_of_ble_eq_true rfl) ?_
  have a0_0 : argF [Value.agg #[wa, wb, wc, wd, we]] 0 = Value.agg #[wa, wb, wc, wd, we] := rfl
  generalize argF [Value.agg #[wa, wb, wc, wd, we]] = f0 at *
  refine wpF_seq ?_
  refine wpF_cut (fun f H => ∃ (g1 : Nat), ∃ (g4 : Nat), f 1 = PT g1 0 ∧ f 3 = PT g4 0 ∧ St H0 NoB (fun b => S b ∧ b < H0.size) [blkE g4 (.cells #[I (0), I (0)] 27), blkE g1 (.cells #[wa, wb, wc, wd, we] 42), rdE wa l.Low, rdE wb l.High, rdE wc l.Start, rdE wd l.Jumps, rdE we l.Bad] H) ?_ ?_
  · refine wpF_region ?_
    refine wpL_o rfl ?_
    refine e_box (v := Value.agg #[wa, wb, wc, wd, we]) rfl a0_0 hS0 (fun g1 H2 hS3 hxx => ?_)
    replace hS3 : St H0 NoB (fun b => S b ∧ b < H0.size) [blkE g1 (.cells #[wa, wb, wc, wd, we] 42), rdE wa l.Low, rdE wb l.High, rdE wc l.Start, rdE wd l.Jumps, rdE we l.Bad] H2 := hS3
    refine wpL_q (U := NoB) rfl (q_assign (v := (Value.slice none 0 0)) rfl rfl) ?_
    refine wpL_o rfl ?_
    refine e_alloc rfl Try.zeroValue27 hS3 (fun g4 H5 hS6 hxx => ?_)
    replace hS6 : St H0 NoB (fun b => S b ∧ b < H0.size) [blkE g4 (.cells #[I (0), I (0)] 27), blkE g1 (.cells #[wa, wb, wc, wd, we] 42), rdE wa l.Low, rdE wb l.High, rdE wc l.Start, rdE wd l.Jumps, rdE we l.Bad] H5 := hS6
    exact ⟨g1, g4, rfl, rfl, hS6⟩
  rintro f7 H7 ⟨g1, g4, a7_1, a7_3, hS7⟩
  clear a0_0
  refine wpF_seq ?_
  refine wpF_seq ?_
  refine wpF_cut (fun f H => ∃ (g11 : Nat), f 1 = PT g1 0 ∧ f 3 = PT g4 0 ∧ f 4 = PT g11 0 ∧ St H0 NoB (fun b => S b ∧ b < H0.size) [blkE g11 (.cells #[I ((loopFault l).1), I ((loopFault l).2)] 27), blkE g4 (.cells #[I (0), I (0)] 27), blkE g1 (.cells #[wa, wb, wc, wd, we] 42), rdE wa l.Low, rdE wb l.High, rdE wc l.Start, rdE wd l.Jumps, rdE we l.Bad] H) ?_ ?_
  · refine wpF_region ?_
    refine wpL_q (U := NoB) rfl (q_loadBlkA rfl a7_1 Try.isAgg42 Try.sizeOf42 rfl (hS7.blk 1 rfl) (fun h => h)) ?_
    refine wpL_o rfl ?_
    refine e_call rfl Try.call27 (arr1 (v0 := Value.agg #[wa, wb, wc, wd, we]) rfl) (Check_L wa wb wc wd we l (hS7.rdN 2 rfl) (hS7.rdN 3 rfl) (hS7.rdN 4 rfl) (hS7.rdN 5 rfl) (hS7.rdN 6 rfl) ) ?_
    rintro _ H8 ⟨hxx, rfl⟩
    have hS9 : St H0 NoB (fun b => S b ∧ b < H0.size) [blkE g4 (.cells #[I (0), I (0)] 27), blkE g1 (.cells #[wa, wb, wc, wd, we] 42), rdE wa l.Low, rdE wb l.High, rdE wc l.Start, rdE wd l.Jumps, rdE we l.Bad] H8 := hS7.ext hxx
    refine wpL_o rfl ?_
    refine e_alloc rfl Try.zeroValue27 hS9 (fun g11 H12 hS13 hxx => ?_)
    replace hS13 : St H0 NoB (fun b => S b ∧ b < H0.size) [blkE g11 (.cells #[I (0), I (0)] 27), blkE g4 (.cells #[I (0), I (0)] 27), blkE g1 (.cells #[wa, wb, wc, wd, we] 42), rdE wa l.Low, rdE wb l.High, rdE wc l.Start, rdE wd l.Jumps, rdE we l.Bad] H12 := hS13
    refine wpL_o rfl ?_
    refine e_storeBlkA (cs' := #[I ((loopFault l).1), I ((loopFault l).2)]) rfl rfl rfl Try.sizeOf27 rfl rfl (List.forall_mem_cons.2 ⟨rfl, List.forall_mem_cons.2 ⟨rfl, List.forall_mem_nil _⟩⟩) hS13 (fun H14 hS15 hxx => ?_)
    replace hS15 : St H0 NoB (fun b => S b ∧ b < H0.size) [blkE g11 (.cells #[I ((loopFault l).1), I ((loopFault l).2)] 27), blkE g4 (.cells #[I (0), I (0)] 27), blkE g1 (.cells #[wa, wb, wc, wd, we] 42), rdE wa l.Low, rdE wb l.High, rdE wc l.Start, rdE wd l.Jumps, rdE we l.Bad] H14 := hS15
    exact ⟨g11, a7_1, a7_3, rfl, hS15⟩
  rintro f16 H16 ⟨g11, a16_1, a16_3, a16_4, hS16⟩
  clear a7_1 a7_3
  refine wpF_seq ?_
  refine wpF_cut (fun f H => f 1 = PT g1 0 ∧ f 3 = PT g4 0 ∧ f 4 = PT g11 0 ∧ f 15 = B (decide (((loopFault l).1) ≠ 0)) ∧ H16 = H) ?_ ?_
  · refine wpF_region ?_
    refine wpL_q (U := NoB) rfl (q_fieldAddr rfl Try.underlying27 rfl Try.sizeOf3 a16_4) ?_
    refine wpL_q (U := NoB) rfl (q_loadBlk rfl rfl Try.isAgg3 (hS16.blk 0 rfl) rfl (fun h => h)) ?_
    refine wpL_q (U := NoB) rfl (q_neq rfl rfl rfl) ?_
    exact ⟨a16_1, a16_3, a16_4, rfl, rfl⟩
  rintro f17 _ ⟨a17_1, a17_3, a17_4, a17_15, rfl⟩
  clear a16_1 a16_3 a16_4
  refine wpF_condP a17_15 (fun h1 => ?t94) (fun h1 => ?e94)
  case t94 =>
    refine wpF_seq ?_
    refine wpF_cut (fun f H => f 2 = (Value.slice none 0 0) ∧ f 3 = PT g4 0 ∧ St H0 NoB (fun b => S b ∧ b < H0.size) [blkE g4 (.cells #[I ((loopFault l).1), I ((loopFault l).2)] 27), blkE g11 (.cells #[I ((loopFault l).1), I ((loopFault l).2)] 27), blkE g1 (.cells #[wa, wb, wc, wd, we] 42), rdE wa l.Low, rdE wb l.High, rdE wc l.Start, rdE wd l.Jumps, rdE we l.Bad] H) ?_ ?_
    · refine wpF_drawn [none, none, some 0] [[], [], []] (fun l b => match l with | 0 => True | _ => False) (by kernel_rfl) (by kernel_rfl) ?_
      refine wpR_q 0 (by kernel_rfl) rfl (quietAt rfl rfl (q_loadBlkA rfl a17_4 Try.isAgg27 Try.sizeOf27 rfl (hS16.blk 0 rfl) (labU_not [] rfl (List.forall_mem_nil _)))) ?_
      refine wpR_q 1 (by kernel_rfl) rfl (quietAt rfl rfl (q_assign (v := (Value.slice none 0 0)) rfl rfl)) ?_
      refine wpR_n [2] (by kernel_rfl) ?_
      refine List.forall_mem_cons.2 ⟨?_, List.forall_mem_nil _⟩
      refine exE rfl rfl ?_
      refine e_storeBlkA (cs' := #[I ((loopFault l).1), I ((loopFault l).2)]) rfl a17_3 rfl Try.sizeOf27 rfl rfl (List.forall_mem_cons.2 ⟨rfl, List.forall_mem_cons.2 ⟨rfl, List.forall_mem_nil _⟩⟩) (hS16.front 1 rfl) (fun H19o2 hS19o2 hxx => ?_)
      replace hS19o2 : St H0 NoB (fun b => S b ∧ b < H0.size) [blkE g4 (.cells #[I ((loopFault l).1), I ((loopFault l).2)] 27), blkE g11 (.cells #[I ((loopFault l).1), I ((loopFault l).2)] 27), blkE g1 (.cells #[wa, wb, wc, wd, we] 42), rdE wa l.Low, rdE wb l.High, rdE wc l.Start, rdE wd l.Jumps, rdE we l.Bad] H19o2 := hS19o2
      refine ⟨Ext.mono hxx (labS_of 0 rfl (fun _ _ => trivial)), ?_⟩
      refine wpR_end (by kernel_rfl) ?_
      exact ⟨rfl, a17_3, hS19o2⟩
    rintro f20 H20 ⟨a20_2, a20_3, hS20⟩
    clear a17_1 a17_15 a17_3 a17_4
    refine wpF_ret ?_
    refine ⟨_, resT a20_2 (resC a20_3 (loadV_blkA Try.isAgg27 Try.sizeOf27 rfl (hS20.blk 0 rfl)) (resN)), hS20.frame, ?_⟩
    show ∃ w0_, (Value.tuple #[(Value.slice none 0 0), Value.agg #[I ((loopFault l).1), I ((loopFault l).2)]]) = Value.tuple #[w0_, Value.agg #[I (loopFault l).1, I (loopFault l).2]] ∧ Rd (fun b => S b ∧ b < H0.size) H20 w0_ (runsOut l)
    have hq2 : runsOut l = [] := if_pos h1
    exact ⟨(Value.slice none 0 0), rfl, by rw [hq2]; exact rdNil⟩
  have hl := LW.of (Decidable.of_not_not h1)
  have hmany := hl.many
  have hsll : (statesL l).length ≤ 1200 := allTo_le hl (Nat.le_refl l.Low.length)
  refine wpF_skip ?_
  refine wpF_seq ?_
  refine wpF_cut (fun f H => f 1 = PT g1 0 ∧ f 3 = PT g4 0 ∧ f 5 = (Value.slice none 0 0) ∧ H16 = H) ?_ ?_
  · refine wpF_region ?_
    refine wpL_q (U := NoB) rfl (q_assign (v := (Value.slice none 0 0)) rfl rfl) ?_
    exact ⟨a17_1, a17_3, rfl, rfl⟩
  rintro f21 _ ⟨a21_1, a21_3, a21_5, rfl⟩
  clear a17_1 a17_15 a17_3 a17_4
  have hS22 : St H0 NoB (fun b => S b ∧ b < H0.size) [rowE 32 (Value.slice none 0 0) ([] : List (List Int)), blkE g11 (.cells #[I ((loopFault l).1), I ((loopFault l).2)] 27), blkE g4 (.cells #[I (0), I (0)] 27), blkE g1 (.cells #[wa, wb, wc, wd, we] 42), rdE wa l.Low, rdE wb l.High, rdE wc l.Start, rdE wd l.Jumps, rdE we l.Bad] H16 := hS16.row0 32
  refine wpF_seq ?_
  refine wpF_seq ?_
  refine wpF_cut (fun f H => ∃ (r23 : Value), f 1 = PT g1 0 ∧ f 3 = PT g4 0 ∧ f 5 = (Value.slice none 0 0) ∧ f 18 = r23 ∧ f 19 = I (((statesL l).length : Int)) ∧ f 20 = I (0) ∧ St H0 NoB (fun b => S b ∧ b < H0.size) [rdE r23 (statesL l), rowE 32 (Value.slice none 0 0) ([] : List (List Int)), blkE g11 (.cells #[I ((loopFault l).1), I ((loopFault l).2)] 27), blkE g4 (.cells #[I (0), I (0)] 27), blkE g1 (.cells #[wa, wb, wc, wd, we] 42), rdE wa l.Low, rdE wb l.High, rdE wc l.Start, rdE wd l.Jumps, rdE we l.Bad] H) ?_ ?_
  · refine wpF_region ?_
    refine wpL_q (U := NoB) rfl (q_loadBlkA rfl a21_1 Try.isAgg42 Try.sizeOf42 rfl (hS22.blk 3 rfl) (fun h => h)) ?_
    refine wpL_o rfl ?_
    refine e_call rfl Try.call51 (arr1 (v0 := Value.agg #[wa, wb, wc, wd, we]) rfl) (All_L wa wb wc wd we l (hS22.rdS 4 rfl) (hS22.rdS 5 rfl) (hS22.rdS 6 rfl) (hS22.rdS 7 rfl) (hS22.rdS 8 rfl) hl) ?_
    rintro r23 H24 ⟨hxx, hrr23⟩
    have hS25 : St H0 NoB (fun b => S b ∧ b < H0.size) [rdE r23 (statesL l), rowE 32 (Value.slice none 0 0) ([] : List (List Int)), blkE g11 (.cells #[I ((loopFault l).1), I ((loopFault l).2)] 27), blkE g4 (.cells #[I (0), I (0)] 27), blkE g1 (.cells #[wa, wb, wc, wd, we] 42), rdE wa l.Low, rdE wb l.High, rdE wc l.Start, rdE wd l.Jumps, rdE we l.Bad] H24 := hS22.res hxx hrr23
    refine wpL_q (U := NoB) rfl (q_lenRd rfl Try.underlying23 rfl (hS25.rdl 0 rfl)) ?_
    refine wpL_q (U := NoB) rfl (q_move (v := I (0)) rfl rfl) ?_
    exact ⟨r23, a21_1, a21_3, a21_5, rfl, rfl, rfl, hS25⟩
  rintro f27 H27 ⟨r23, a27_1, a27_3, a27_5, a27_18, a27_19, a27_20, hS27⟩
  clear a21_1 a21_3 a21_5
  refine wpF_block ?_
  refine wpF_loop (fun mz f H => ∃ (i : Nat), ∃ (vo : Value), mz = (statesL l).length - i ∧ (i ≤ (statesL l).length) ∧ f 1 = PT g1 0 ∧ f 3 = PT g4 0 ∧ f 5 = vo ∧ f 18 = r23 ∧ f 19 = I (((statesL l).length : Int)) ∧ f 20 = I ((i : Int)) ∧ St H0 NoB (fun b => S b ∧ b < H0.size) [rowE 32 vo (((statesL l).take i).filter (holdB l.Start) : List (List Int)), rdE r23 (statesL l), blkE g11 (.cells #[I ((loopFault l).1), I ((loopFault l).2)] 27), blkE g4 (.cells #[I (0), I (0)] 27), blkE g1 (.cells #[wa, wb, wc, wd, we] 42), rdE wa l.Low, rdE wb l.High, rdE wc l.Start, rdE wd l.Jumps, rdE we l.Bad] H) ((statesL l).length - 0) ?_ ?_
  · exact ⟨0, (Value.slice none 0 0), rfl, Nat.zero_le _, a27_1, a27_3, a27_5, a27_18, a27_19, (Eq.trans a27_20 (congrArg I (by omega))), (show St H0 NoB (fun b => S b ∧ b < H0.size) [rowE 32 (Value.slice none 0 0) (((statesL l).take 0).filter (holdB l.Start) : List (List Int)), rdE r23 (statesL l), blkE g11 (.cells #[I ((loopFault l).1), I ((loopFault l).2)] 27), blkE g4 (.cells #[I (0), I (0)] 27), blkE g1 (.cells #[wa, wb, wc, wd, we] 42), rdE wa l.Low, rdE wb l.High, rdE wc l.Start, rdE wd l.Jumps, rdE we l.Bad] H27 from (St.drop (show St H0 NoB (fun b => S b ∧ b < H0.size) [rowE 32 (Value.slice none 0 0) ([] : List (List Int)), rdE r23 (statesL l), blkE g11 (.cells #[I ((loopFault l).1), I ((loopFault l).2)] 27), blkE g4 (.cells #[I (0), I (0)] 27), blkE g1 (.cells #[wa, wb, wc, wd, we] 42), rdE wa l.Low, rdE wb l.High, rdE wc l.Start, rdE wd l.Jumps, rdE we l.Bad] H27 from (hS27.front 1 rfl)) (sk (sk (sk (sk (sk (sk (sk (sk (sk (sk (List.Sublist.slnil)))))))))))))⟩
  intro m28 f28 H28 hI28
  obtain ⟨i, vo, hm28, hi, a28_1, a28_3, a28_5, a28_18, a28_19, a28_20, hS28⟩ := hI28
  clear a27_1 a27_18 a27_19 a27_20 a27_3 a27_5
  refine wpF_seq ?_
  refine wpF_cut (fun f H => f 1 = PT g1 0 ∧ f 3 = PT g4 0 ∧ f 5 = vo ∧ f 18 = r23 ∧ f 19 = I (((statesL l).length : Int)) ∧ f 20 = I ((i : Int)) ∧ f 21 = B (decide ((i : Int) < ((statesL l).length : Int))) ∧ H28 = H) ?_ ?_
  · refine wpF_region ?_
    refine wpL_q (U := NoB) rfl (q_lss rfl a28_20 a28_19) ?_
    exact ⟨a28_1, a28_3, a28_5, a28_18, a28_19, a28_20, rfl, rfl⟩
  rintro f29 _ ⟨a29_1, a29_3, a29_5, a29_18, a29_19, a29_20, a29_21, rfl⟩
  clear a28_1 a28_18 a28_19 a28_20 a28_3 a28_5
  refine wpF_seq ?_
  refine wpF_condP a29_21 (fun hlt => ?t93) (fun hlt => ?e93)
  case t93 =>
    have hff := filter_few (p := holdB l.Start) (L := statesL l) (i := i)
    have hst := allTo_mem hl _ (Nat.le_refl _) _ (nth_mem (l := statesL l) (k := i) (by omega))
    have hsm := inside_small hl hst.1 hst.2
    refine wpF_skip ?_
    refine wpF_seq ?_
    refine wpF_block ?_
    refine wpF_seq ?_
    obtain ⟨u31, huu31, hlu31⟩ := (Rd.list.1 (hS28.rdS 1 rfl)).elem i (by omega)
    have hS32 : St H0 NoB (fun b => S b ∧ b < H0.size) [rdE u31 (nth (statesL l) i), rowE 32 vo (((statesL l).take i).filter (holdB l.Start) : List (List Int)), rdE r23 (statesL l), blkE g11 (.cells #[I ((loopFault l).1), I ((loopFault l).2)] 27), blkE g4 (.cells #[I (0), I (0)] 27), blkE g1 (.cells #[wa, wb, wc, wd, we] 42), rdE wa l.Low, rdE wb l.High, rdE wc l.Start, rdE wd l.Jumps, rdE we l.Bad] H28 := hS28.rd huu31
    refine wpF_cut (fun f H => f 1 = PT g1 0 ∧ f 3 = PT g4 0 ∧ f 5 = vo ∧ f 7 = u31 ∧ f 18 = r23 ∧ f 19 = I (((statesL l).length : Int)) ∧ f 20 = I ((i : Int)) ∧ St H0 NoB (fun b => S b ∧ b < H0.size) [rdE u31 (nth (statesL l) i), rowE 32 vo (((statesL l).take i).filter (holdB l.Start) : List (List Int)), rdE r23 (statesL l), blkE g11 (.cells #[I ((loopFault l).1), I ((loopFault l).2)] 27), blkE g4 (.cells #[I (0), I (0)] 27), blkE g1 (.cells #[wa, wb, wc, wd, we] 42), rdE wa l.Low, rdE wb l.High, rdE wc l.Start, rdE wd l.Jumps, rdE we l.Bad] H) ?_ ?_
    · refine wpF_region ?_
      refine wpL_q (U := NoB) rfl (q_indexRd (k := i) rfl Try.underlying23 el_LInt_32_LoopS5 a29_18 a29_20 (hS28.rdl 1 rfl) (by omega) (by omega)) ?_
      refine wpL_q (U := NoB) rfl (q_loadE rfl rfl (hlu31 Try.prog 32 _ el_LInt_32_LoopS5 (fun _ h => False.elim h))) ?_
      refine wpL_q (U := NoB) rfl (q_assign (v := u31) rfl rfl) ?_
      exact ⟨a29_1, a29_3, a29_5, rfl, a29_18, a29_19, a29_20, hS32⟩
    rintro f33 H33 ⟨a33_1, a33_3, a33_5, a33_7, a33_18, a33_19, a33_20, hS33⟩
    clear a29_1 a29_18 a29_19 a29_20 a29_21 a29_3 a29_5
    refine wpF_seq ?_
    refine wpF_cut (fun f H => f 1 = PT g1 0 ∧ f 3 = PT g4 0 ∧ f 5 = vo ∧ f 7 = u31 ∧ f 18 = r23 ∧ f 19 = I (((statesL l).length : Int)) ∧ f 20 = I ((i : Int)) ∧ f 27 = B (holdB l.Start (nth (statesL l) i)) ∧ St H0 NoB (fun b => S b ∧ b < H0.size) [rdE u31 (nth (statesL l) i), rowE 32 vo (((statesL l).take i).filter (holdB l.Start) : List (List Int)), rdE r23 (statesL l), blkE g11 (.cells #[I ((loopFault l).1), I ((loopFault l).2)] 27), blkE g4 (.cells #[I (0), I (0)] 27), blkE g1 (.cells #[wa, wb, wc, wd, we] 42), rdE wa l.Low, rdE wb l.High, rdE wc l.Start, rdE wd l.Jumps, rdE we l.Bad] H) ?_ ?_
    · refine wpF_region ?_
      refine wpL_q (U := NoB) rfl (q_fieldAddr rfl Try.underlying42 rfl Try.sizeOf22 a33_1) ?_
      refine wpL_q (U := NoB) rfl (q_loadBlk rfl rfl Try.isAgg22 (hS33.blk 5 rfl) rfl (fun h => h)) ?_
      refine wpL_q (U := NoB) rfl (q_move (v := u31) rfl a33_7) ?_
      refine wpL_o rfl ?_
      refine e_call rfl Try.call52 (arr2 (v0 := wc) (v1 := u31) rfl rfl) (Hold_L wc u31 l.Start (nth (statesL l) i) (hS33.rdN 8 rfl) (hS33.rdN 0 rfl) (HoldOk.of hl.start (by omega) hsm (by omega))) ?_
      rintro _ H34 ⟨hxx, rfl⟩
      have hS35 : St H0 NoB (fun b => S b ∧ b < H0.size) [rdE u31 (nth (statesL l) i), rowE 32 vo (((statesL l).take i).filter (holdB l.Start) : List (List Int)), rdE r23 (statesL l), blkE g11 (.cells #[I ((loopFault l).1), I ((loopFault l).2)] 27), blkE g4 (.cells #[I (0), I (0)] 27), blkE g1 (.cells #[wa, wb, wc, wd, we] 42), rdE wa l.Low, rdE wb l.High, rdE wc l.Start, rdE wd l.Jumps, rdE we l.Bad] H34 := hS33.ext hxx
      exact ⟨a33_1, a33_3, a33_5, a33_7, a33_18, a33_19, a33_20, rfl, hS35⟩
    rintro f37 H37 ⟨a37_1, a37_3, a37_5, a37_7, a37_18, a37_19, a37_20, a37_27, hS37⟩
    clear a33_1 a33_18 a33_19 a33_20 a33_3 a33_5 a33_7
    refine wpF_cond a37_27 (fun h27 => ?t55) (fun h27 => ?e55)
    case e55 =>
      refine wpF_skip ?_
      refine wpF_cut (fun f H => f 1 = PT g1 0 ∧ f 3 = PT g4 0 ∧ f 5 = vo ∧ f 18 = r23 ∧ f 19 = I (((statesL l).length : Int)) ∧ f 20 = I ((i : Int) + 1) ∧ H37 = H) ?_ ?_
      · refine wpF_region ?_
        refine wpL_q (U := NoB) rfl (q_add rfl a37_20 rfl (by constructor <;> omega)) ?_
        refine wpL_q (U := NoB) rfl (q_move (v := I ((i : Int) + 1)) rfl rfl) ?_
        exact ⟨a37_1, a37_3, a37_5, a37_18, a37_19, rfl, rfl⟩
      rintro f54 _ ⟨a54_1, a54_3, a54_5, a54_18, a54_19, a54_20, rfl⟩
      clear a37_1 a37_18 a37_19 a37_20 a37_27 a37_3 a37_5 a37_7
      refine ⟨_, ?_, i + 1, vo, rfl, (by omega), a54_1, a54_3, a54_5, a54_18, a54_19, (Eq.trans a54_20 (congrArg I (by omega))), (show St H0 NoB (fun b => S b ∧ b < H0.size) [rowE 32 vo (((statesL l).take (i + 1)).filter (holdB l.Start) : List (List Int)), rdE r23 (statesL l), blkE g11 (.cells #[I ((loopFault l).1), I ((loopFault l).2)] 27), blkE g4 (.cells #[I (0), I (0)] 27), blkE g1 (.cells #[wa, wb, wc, wd, we] 42), rdE wa l.Low, rdE wb l.High, rdE wc l.Start, rdE wd l.Jumps, rdE we l.Bad] H37 from (by have h__ := (hS37.drop (sn (sk (sk (sk (sk (sk (sk (sk (sk (sk (sk (List.Sublist.slnil))))))))))))); rw [← filter_no (by omega) h27] at h__; exact h__))⟩
      omega
    refine wpF_cut (fun f H => ∃ (v48 : Value), f 1 = PT g1 0 ∧ f 3 = PT g4 0 ∧ f 5 = v48 ∧ f 18 = r23 ∧ f 19 = I (((statesL l).length : Int)) ∧ f 20 = I ((i : Int)) ∧ St H0 NoB (fun b => S b ∧ b < H0.size) [rowE 32 v48 (((statesL l).take (i + 1)).filter (holdB l.Start) : List (List Int)), rdE r23 (statesL l), blkE g11 (.cells #[I ((loopFault l).1), I ((loopFault l).2)] 27), blkE g4 (.cells #[I (0), I (0)] 27), blkE g1 (.cells #[wa, wb, wc, wd, we] 42), rdE wa l.Low, rdE wb l.High, rdE wc l.Start, rdE wd l.Jumps, rdE we l.Bad] H) ?_ ?_
    · refine wpF_region ?_
      refine wpL_q (U := NoB) rfl (q_move (v := vo) rfl a37_5) ?_
      refine wpL_q (U := NoB) rfl (q_move (v := u31) rfl a37_7) ?_
      refine wpL_o rfl ?_
      refine e_call rfl Try.call53 (arr1 (v0 := u31) rfl) (Clone u31 _ (hS37.rdS 0 rfl)) ?_
      rintro r39 H40 ⟨hxx, hrr39⟩
      have hS41 : St H0 NoB (fun b => S b ∧ b < H0.size) [rdE r39 ((nth (statesL l) i)), rdE u31 (nth (statesL l) i), rowE 32 vo (((statesL l).take i).filter (holdB l.Start) : List (List Int)), rdE r23 (statesL l), blkE g11 (.cells #[I ((loopFault l).1), I ((loopFault l).2)] 27), blkE g4 (.cells #[I (0), I (0)] 27), blkE g1 (.cells #[wa, wb, wc, wd, we] 42), rdE wa l.Low, rdE wb l.High, rdE wc l.Start, rdE wd l.Jumps, rdE we l.Bad] H40 := hS37.res hxx hrr39
      refine wpL_o rfl ?_
      refine e_buildSlice (vs := [r39]) (xs := ([(nth (statesL l) i)] : List (List Int))) rfl Try.underlying23 Try.zeroValue32 rfl Try.sizeOf32 (par1 (v0 := r39) rfl) rfl hS41 (RdVs.cons (hS41.rdS 0 rfl) (RdVs.nil)) (by decide) (by decide) (fun v43 H44 hS45 hxx hvv43 => ?_)
      replace hS45 : St H0 NoB (fun b => S b ∧ b < H0.size) [rowE 32 v43 ([(nth (statesL l) i)] : List (List Int)), rdE r39 ((nth (statesL l) i)), rdE u31 (nth (statesL l) i), rowE 32 vo (((statesL l).take i).filter (holdB l.Start) : List (List Int)), rdE r23 (statesL l), blkE g11 (.cells #[I ((loopFault l).1), I ((loopFault l).2)] 27), blkE g4 (.cells #[I (0), I (0)] 27), blkE g1 (.cells #[wa, wb, wc, wd, we] 42), rdE wa l.Low, rdE wb l.High, rdE wc l.Start, rdE wd l.Jumps, rdE we l.Bad] H44 := hS45
      have hS46 : St H0 NoB (fun b => S b ∧ b < H0.size) [rdE v43 ([(nth (statesL l) i)] : List (List Int)), rdE r39 ((nth (statesL l) i)), rdE u31 (nth (statesL l) i), rowE 32 vo (((statesL l).take i).filter (holdB l.Start) : List (List Int)), rdE r23 (statesL l), blkE g11 (.cells #[I ((loopFault l).1), I ((loopFault l).2)] 27), blkE g4 (.cells #[I (0), I (0)] 27), blkE g1 (.cells #[wa, wb, wc, wd, we] 42), rdE wa l.Low, rdE wb l.High, rdE wc l.Start, rdE wd l.Jumps, rdE we l.Bad] H44 := St.fin hS45
      have hS47 : St H0 NoB (fun b => S b ∧ b < H0.size) [rowE 32 vo (((statesL l).take i).filter (holdB l.Start) : List (List Int)), rdE v43 ([(nth (statesL l) i)] : List (List Int)), rdE r39 ((nth (statesL l) i)), rdE u31 (nth (statesL l) i), rdE r23 (statesL l), blkE g11 (.cells #[I ((loopFault l).1), I ((loopFault l).2)] 27), blkE g4 (.cells #[I (0), I (0)] 27), blkE g1 (.cells #[wa, wb, wc, wd, we] 42), rdE wa l.Low, rdE wb l.High, rdE wc l.Start, rdE wd l.Jumps, rdE we l.Bad] H44 := (hS46.front 3 rfl)
      refine wpL_o rfl ?_
      refine e_append rfl Try.underlying23 em_LInt_32_LoopS5 rfl rfl hS47 (hS47.rdS 1 rfl) (fun _ h => h) (by have hb : GoT.bytes (List Int) = 24 := rfl; simp [hb]; omega) (by decide) (fun v48 H49 hS50 hxx => ?_)
      replace hS50 : St H0 NoB (fun b => S b ∧ b < H0.size) [rowE 32 v48 ((((statesL l).take i).filter (holdB l.Start)) ++ ([(nth (statesL l) i)]) : List (List Int)), rdE v43 ([(nth (statesL l) i)] : List (List Int)), rdE r39 ((nth (statesL l) i)), rdE u31 (nth (statesL l) i), rdE r23 (statesL l), blkE g11 (.cells #[I ((loopFault l).1), I ((loopFault l).2)] 27), blkE g4 (.cells #[I (0), I (0)] 27), blkE g1 (.cells #[wa, wb, wc, wd, we] 42), rdE wa l.Low, rdE wb l.High, rdE wc l.Start, rdE wd l.Jumps, rdE we l.Bad] H49 := hS50
      have hS51 : St H0 NoB (fun b => S b ∧ b < H0.size) [rowE 32 v48 (((statesL l).take (i + 1)).filter (holdB l.Start) : List (List Int)), rdE v43 ([(nth (statesL l) i)] : List (List Int)), rdE r39 ((nth (statesL l) i)), rdE u31 (nth (statesL l) i), rdE r23 (statesL l), blkE g11 (.cells #[I ((loopFault l).1), I ((loopFault l).2)] 27), blkE g4 (.cells #[I (0), I (0)] 27), blkE g1 (.cells #[wa, wb, wc, wd, we] 42), rdE wa l.Low, rdE wb l.High, rdE wc l.Start, rdE wd l.Jumps, rdE we l.Bad] H49 := by rw [show (((statesL l).take (i + 1)).filter (holdB l.Start)) = ((((statesL l).take i).filter (holdB l.Start)) ++ ([(nth (statesL l) i)])) from (filter_yes (by omega) h27)]; exact hS50
      refine wpL_q (U := NoB) rfl (q_assign (v := v48) rfl rfl) ?_
      exact ⟨v48, a37_1, a37_3, rfl, a37_18, a37_19, a37_20, (hS51.drop (sk (sn (sn (sn (sk (sk (sk (sk (sk (sk (sk (sk (sk (List.Sublist.slnil)))))))))))))))⟩
    rintro f52 H52 ⟨v48, a52_1, a52_3, a52_5, a52_18, a52_19, a52_20, hS52⟩
    clear a37_1 a37_18 a37_19 a37_20 a37_27 a37_3 a37_5 a37_7
    refine wpF_cut (fun f H => f 1 = PT g1 0 ∧ f 3 = PT g4 0 ∧ f 5 = v48 ∧ f 18 = r23 ∧ f 19 = I (((statesL l).length : Int)) ∧ f 20 = I ((i : Int) + 1) ∧ H52 = H) ?_ ?_
    · refine wpF_region ?_
      refine wpL_q (U := NoB) rfl (q_add rfl a52_20 rfl (by constructor <;> omega)) ?_
      refine wpL_q (U := NoB) rfl (q_move (v := I ((i : Int) + 1)) rfl rfl) ?_
      exact ⟨a52_1, a52_3, a52_5, a52_18, a52_19, rfl, rfl⟩
    rintro f53 _ ⟨a53_1, a53_3, a53_5, a53_18, a53_19, a53_20, rfl⟩
    clear a52_1 a52_18 a52_19 a52_20 a52_3 a52_5
    refine ⟨_, ?_, i + 1, v48, rfl, (by omega), a53_1, a53_3, a53_5, a53_18, a53_19, (Eq.trans a53_20 (congrArg I (by omega))), hS52⟩
    omega
  refine wpF_exit ?_
  refine atX_here ?_
  refine wpF_seq ?_
  refine wpF_seq ?_
  refine wpF_cut (fun f H => f 1 = PT g1 0 ∧ f 3 = PT g4 0 ∧ f 5 = vo ∧ f 8 = I (0) ∧ H28 = H) ?_ ?_
  · refine wpF_region ?_
    refine wpL_q (U := NoB) rfl (q_assign (v := I (0)) rfl rfl) ?_
    exact ⟨a29_1, a29_3, a29_5, rfl, rfl⟩
  rintro f56 _ ⟨a56_1, a56_3, a56_5, a56_8, rfl⟩
  clear a29_1 a29_18 a29_19 a29_20 a29_21 a29_3 a29_5
  refine wpF_block ?_
  refine wpF_loop (fun mz f H => ∃ (i : Nat), ∃ (vp : Value), mz = 1201 - i ∧ (i ≤ (comeAt l i).length) ∧ f 1 = PT g1 0 ∧ f 3 = PT g4 0 ∧ f 5 = vp ∧ f 8 = I ((i : Int)) ∧ St H0 NoB (fun b => S b ∧ b < H0.size) [rowE 32 vp (comeAt l i : List (List Int)), blkE g11 (.cells #[I ((loopFault l).1), I ((loopFault l).2)] 27), blkE g4 (.cells #[I (0), I (0)] 27), blkE g1 (.cells #[wa, wb, wc, wd, we] 42), rdE wa l.Low, rdE wb l.High, rdE wc l.Start, rdE wd l.Jumps, rdE we l.Bad] H) (1201 - 0) ?_ ?_
  · exact ⟨0, vo, rfl, Nat.zero_le _, a56_1, a56_3, a56_5, (Eq.trans a56_8 (congrArg I (by omega))), (show St H0 NoB (fun b => S b ∧ b < H0.size) [rowE 32 vo (comeAt l 0 : List (List Int)), blkE g11 (.cells #[I ((loopFault l).1), I ((loopFault l).2)] 27), blkE g4 (.cells #[I (0), I (0)] 27), blkE g1 (.cells #[wa, wb, wc, wd, we] 42), rdE wa l.Low, rdE wb l.High, rdE wc l.Start, rdE wd l.Jumps, rdE we l.Bad] H28 from (by have h__ := (hS28.drop (sk (sn (sk (sk (sk (sk (sk (sk (sk (sk (List.Sublist.slnil)))))))))))); rw [List.take_of_length_le (by omega)] at h__; exact h__))⟩
  intro m57 f57 H57 hI57
  obtain ⟨i, vp, hm57, hi, a57_1, a57_3, a57_5, a57_8, hS57⟩ := hI57
  clear a56_1 a56_3 a56_5 a56_8
  refine wpF_seq ?_
  refine wpF_seq ?_
  refine wpF_cut (fun f H => f 1 = PT g1 0 ∧ f 3 = PT g4 0 ∧ f 5 = vp ∧ f 8 = I ((i : Int)) ∧ f 37 = B (decide ((i : Int) < ((comeAt l i).length : Int))) ∧ H57 = H) ?_ ?_
  · refine wpF_region ?_
    refine wpL_q (U := NoB) rfl (q_move (v := I ((i : Int))) rfl a57_8) ?_
    refine wpL_q (U := NoB) rfl (q_move (v := vp) rfl a57_5) ?_
    refine wpL_q (U := NoB) rfl (q_lenRd rfl Try.underlying23 rfl (hS57.rowl 0 rfl)) ?_
    refine wpL_q (U := NoB) rfl (q_lss rfl rfl rfl) ?_
    exact ⟨a57_1, a57_3, a57_5, a57_8, rfl, rfl⟩
  rintro f58 _ ⟨a58_1, a58_3, a58_5, a58_8, a58_37, rfl⟩
  clear a57_1 a57_3 a57_5 a57_8
  refine wpF_condP a58_37 (fun hlt2 => ?t92) (fun hlt2 => ?e92)
  case e92 =>
    refine wpF_exit ?_
    refine atX_here ?_
    refine wpF_seq ?_
    refine wpF_cut (fun f H => f 2 = vp ∧ f 3 = PT g4 0 ∧ St H0 NoB (fun b => S b ∧ b < H0.size) [blkE g4 (.cells #[I (0), I (0)] 27), rowE 32 vp (comeAt l i : List (List Int)), blkE g11 (.cells #[I ((loopFault l).1), I ((loopFault l).2)] 27), blkE g1 (.cells #[wa, wb, wc, wd, we] 42), rdE wa l.Low, rdE wb l.High, rdE wc l.Start, rdE wd l.Jumps, rdE we l.Bad] H) ?_ ?_
    · refine wpF_region ?_
      refine wpL_q (U := NoB) rfl (q_move (v := vp) rfl a58_5) ?_
      refine wpL_q (U := NoB) rfl (q_build (v := Value.agg #[I (0), I (0)]) rfl par0 (fun w => by kernel_rfl)) ?_
      refine wpL_q (U := NoB) rfl (q_assign (v := vp) rfl rfl) ?_
      refine wpL_o rfl ?_
      refine e_storeBlkA (cs' := #[I (0), I (0)]) rfl a58_3 rfl Try.sizeOf27 rfl rfl (List.forall_mem_cons.2 ⟨rfl, List.forall_mem_cons.2 ⟨rfl, List.forall_mem_nil _⟩⟩) (hS57.front 2 rfl) (fun H88 hS89 hxx => ?_)
      replace hS89 : St H0 NoB (fun b => S b ∧ b < H0.size) [blkE g4 (.cells #[I (0), I (0)] 27), rowE 32 vp (comeAt l i : List (List Int)), blkE g11 (.cells #[I ((loopFault l).1), I ((loopFault l).2)] 27), blkE g1 (.cells #[wa, wb, wc, wd, we] 42), rdE wa l.Low, rdE wb l.High, rdE wc l.Start, rdE wd l.Jumps, rdE we l.Bad] H88 := hS89
      exact ⟨rfl, a58_3, hS89⟩
    rintro f90 H90 ⟨a90_2, a90_3, hS90⟩
    clear a58_1 a58_3 a58_37 a58_5 a58_8
    refine wpF_ret ?_
    refine ⟨_, resT a90_2 (resC a90_3 (loadV_blkA Try.isAgg27 Try.sizeOf27 rfl (hS90.blk 0 rfl)) (resN)), hS90.frame, ?_⟩
    show ∃ w0_, (Value.tuple #[vp, Value.agg #[I (0), I (0)]]) = Value.tuple #[w0_, Value.agg #[I (loopFault l).1, I (loopFault l).2]] ∧ Rd (fun b => S b ∧ b < H0.size) H90 w0_ (runsOut l)
    have hS91 : St H0 NoB (fun b => S b ∧ b < H0.size) [rdE vp (comeAt l i), blkE g4 (.cells #[I (0), I (0)] 27), blkE g11 (.cells #[I ((loopFault l).1), I ((loopFault l).2)] 27), blkE g1 (.cells #[wa, wb, wc, wd, we] 42), rdE wa l.Low, rdE wb l.High, rdE wc l.Start, rdE wd l.Jumps, rdE we l.Bad] H90 := St.fin (hS90.front 1 rfl)
    have hq2 : runsOut l = comeAt l i := by rw [runsOut, if_neg h1, comeL_of (i := i) (by have := comeAt_few hl i; omega) (by omega)]
    exact ⟨vp, by rw [hl.code], by rw [hq2]; exact (hS91.result (hS91.rdS 0 rfl))⟩
  have hil : i < (comeAt l i).length := by omega
  have hfw := comeAt_few hl i
  have hci := comeAt_all hl i _ (nth_mem hil)
  have hgl := growS_len (L := comeAt l i) (ss := nextL l (nth (comeAt l i) i))
  have hnxl : (nextL l (nth (comeAt l i) i)).length ≤ 6 := Nat.le_trans (nextTo_len _) hl.jumps
  refine wpF_skip ?_
  refine wpF_seq ?_
  refine wpF_block ?_
  refine wpF_seq ?_
  obtain ⟨u60o4, huu60o4, hlu60o4⟩ := hS57.rowElem 0 rfl i (by omega)
  have hS60o4 : St H0 NoB (fun b => S b ∧ b < H0.size) [rdE u60o4 (nth (comeAt l i) i), rowE 32 vp (comeAt l i : List (List Int)), blkE g11 (.cells #[I ((loopFault l).1), I ((loopFault l).2)] 27), blkE g4 (.cells #[I (0), I (0)] 27), blkE g1 (.cells #[wa, wb, wc, wd, we] 42), rdE wa l.Low, rdE wb l.High, rdE wc l.Start, rdE wd l.Jumps, rdE we l.Bad] H57 := hS57.rd huu60o4
  refine wpF_cut (fun f H => ∃ (r60o5 : Value), f 1 = PT g1 0 ∧ f 3 = PT g4 0 ∧ f 5 = vp ∧ f 8 = I ((i : Int)) ∧ f 45 = r60o5 ∧ f 46 = I (((nextL l (nth (comeAt l i) i)).length : Int)) ∧ f 47 = I (0) ∧ St H0 NoB (fun b => S b ∧ b < H0.size) [rdE r60o5 (nextL l (nth (comeAt l i) i)), rowE 32 vp (comeAt l i : List (List Int)), blkE g11 (.cells #[I ((loopFault l).1), I ((loopFault l).2)] 27), blkE g4 (.cells #[I (0), I (0)] 27), blkE g1 (.cells #[wa, wb, wc, wd, we] 42), rdE wa l.Low, rdE wb l.High, rdE wc l.Start, rdE wd l.Jumps, rdE we l.Bad] H) ?_ ?_
  · refine wpF_drawn [] [] (fun _ _ => False) (by kernel_rfl) (by kernel_rfl) ?_
    refine wpR_q 0 (by kernel_rfl) rfl (quietAt rfl rfl (q_loadBlkA rfl a58_1 Try.isAgg42 Try.sizeOf42 rfl (hS57.blk 3 rfl) (labU_not [] rfl (List.forall_mem_nil _)))) ?_
    refine wpR_q 1 (by kernel_rfl) rfl (quietAt rfl rfl (q_move (v := vp) rfl a58_5)) ?_
    refine wpR_q 2 (by kernel_rfl) rfl (quietAt rfl rfl (q_move (v := I ((i : Int))) rfl a58_8)) ?_
    refine wpR_q 3 (by kernel_rfl) rfl (quietAt rfl rfl (q_indexRd (k := i) rfl Try.underlying23 el_LInt_32_LoopS5 rfl rfl (hS57.rowl 0 rfl) (by omega) (by omega))) ?_
    refine wpR_q 4 (by kernel_rfl) rfl (quietAt rfl rfl (q_loadE rfl rfl (hlu60o4 Try.prog 32 _ el_LInt_32_LoopS5 (labU_sub [] rfl (List.forall_mem_nil _))))) ?_
    refine wpR_q 7 (by kernel_rfl) rfl (quietAt rfl rfl (q_move (v := I (0)) rfl rfl)) ?_
    refine wpR_n [5] (by kernel_rfl) ?_
    refine List.forall_mem_cons.2 ⟨?_, List.forall_mem_nil _⟩
    refine exE rfl rfl ?_
    refine e_call rfl Try.call55 (arr2 (v0 := Value.agg #[wa, wb, wc, wd, we]) (v1 := u60o4) rfl rfl) (Succ_L wa wb wc wd we u60o4 l (nth (comeAt l i) i) (hS60o4.rdS 5 rfl) (hS60o4.rdS 6 rfl) (hS60o4.rdS 7 rfl) (hS60o4.rdS 8 rfl) (hS60o4.rdS 9 rfl) (hS60o4.rdS 0 rfl) hl hci.1 (inside_small hl hci.1 hci.2)) ?_
    rintro r60o5 H60o5 ⟨hxx, hrr60o5⟩
    have hS60o5 : St H0 NoB (fun b => S b ∧ b < H0.size) [rdE r60o5 (nextL l (nth (comeAt l i) i)), rdE u60o4 (nth (comeAt l i) i), rowE 32 vp (comeAt l i : List (List Int)), blkE g11 (.cells #[I ((loopFault l).1), I ((loopFault l).2)] 27), blkE g4 (.cells #[I (0), I (0)] 27), blkE g1 (.cells #[wa, wb, wc, wd, we] 42), rdE wa l.Low, rdE wb l.High, rdE wc l.Start, rdE wd l.Jumps, rdE we l.Bad] H60o5 := hS60o4.res hxx hrr60o5
    refine ⟨Ext.mono hxx (fun _ h => h.elim), ?_⟩
    refine wpR_q 6 (by kernel_rfl) rfl (quietAt rfl rfl (q_lenRd rfl Try.underlying23 rfl (hS60o5.rdl 0 rfl))) ?_
    refine wpR_end (by kernel_rfl) ?_
    exact ⟨r60o5, a58_1, a58_3, a58_5, a58_8, rfl, rfl, rfl, (hS60o5.drop (sk (sn (sk (sk (sk (sk (sk (sk (sk (sk (sk (List.Sublist.slnil)))))))))))))⟩
  rintro f61 H61 ⟨r60o5, a61_1, a61_3, a61_5, a61_8, a61_45, a61_46, a61_47, hS61⟩
  clear a58_1 a58_3 a58_37 a58_5 a58_8
  refine wpF_block ?_
  refine wpF_loop (fun mz f H => ∃ (k : Nat), ∃ (vq : Value), mz = (nextL l (nth (comeAt l i) i)).length - k ∧ (k ≤ (nextL l (nth (comeAt l i) i)).length) ∧ f 1 = PT g1 0 ∧ f 3 = PT g4 0 ∧ f 5 = vq ∧ f 8 = I ((i : Int)) ∧ f 45 = r60o5 ∧ f 46 = I (((nextL l (nth (comeAt l i) i)).length : Int)) ∧ f 47 = I ((k : Int)) ∧ St H0 NoB (fun b => S b ∧ b < H0.size) [rowE 32 vq (growS (comeAt l i) ((nextL l (nth (comeAt l i) i)).take k) : List (List Int)), rdE r60o5 (nextL l (nth (comeAt l i) i)), blkE g11 (.cells #[I ((loopFault l).1), I ((loopFault l).2)] 27), blkE g4 (.cells #[I (0), I (0)] 27), blkE g1 (.cells #[wa, wb, wc, wd, we] 42), rdE wa l.Low, rdE wb l.High, rdE wc l.Start, rdE wd l.Jumps, rdE we l.Bad] H) ((nextL l (nth (comeAt l i) i)).length - 0) ?_ ?_
  · exact ⟨0, vp, rfl, Nat.zero_le _, a61_1, a61_3, a61_5, a61_8, a61_45, a61_46, (Eq.trans a61_47 (congrArg I (by omega))), (show St H0 NoB (fun b => S b ∧ b < H0.size) [rowE 32 vp (growS (comeAt l i) ((nextL l (nth (comeAt l i) i)).take 0) : List (List Int)), rdE r60o5 (nextL l (nth (comeAt l i) i)), blkE g11 (.cells #[I ((loopFault l).1), I ((loopFault l).2)] 27), blkE g4 (.cells #[I (0), I (0)] 27), blkE g1 (.cells #[wa, wb, wc, wd, we] 42), rdE wa l.Low, rdE wb l.High, rdE wc l.Start, rdE wd l.Jumps, rdE we l.Bad] H61 from (St.drop (show St H0 NoB (fun b => S b ∧ b < H0.size) [rowE 32 vp (comeAt l i : List (List Int)), rdE r60o5 (nextL l (nth (comeAt l i) i)), blkE g11 (.cells #[I ((loopFault l).1), I ((loopFault l).2)] 27), blkE g4 (.cells #[I (0), I (0)] 27), blkE g1 (.cells #[wa, wb, wc, wd, we] 42), rdE wa l.Low, rdE wb l.High, rdE wc l.Start, rdE wd l.Jumps, rdE we l.Bad] H61 from (hS61.front 1 rfl)) (sk (sk (sk (sk (sk (sk (sk (sk (sk (sk (List.Sublist.slnil)))))))))))))⟩
  intro m62 f62 H62 hI62
  obtain ⟨k, vq, hm62, hk, a62_1, a62_3, a62_5, a62_8, a62_45, a62_46, a62_47, hS62⟩ := hI62
  clear a61_1 a61_3 a61_45 a61_46 a61_47 a61_5 a61_8
  refine wpF_seq ?_
  refine wpF_cut (fun f H => f 1 = PT g1 0 ∧ f 3 = PT g4 0 ∧ f 5 = vq ∧ f 8 = I ((i : Int)) ∧ f 45 = r60o5 ∧ f 46 = I (((nextL l (nth (comeAt l i) i)).length : Int)) ∧ f 47 = I ((k : Int)) ∧ f 48 = B (decide ((k : Int) < ((nextL l (nth (comeAt l i) i)).length : Int))) ∧ H62 = H) ?_ ?_
  · refine wpF_region ?_
    refine wpL_q (U := NoB) rfl (q_lss rfl a62_47 a62_46) ?_
    exact ⟨a62_1, a62_3, a62_5, a62_8, a62_45, a62_46, a62_47, rfl, rfl⟩
  rintro f63 _ ⟨a63_1, a63_3, a63_5, a63_8, a63_45, a63_46, a63_47, a63_48, rfl⟩
  clear a62_1 a62_3 a62_45 a62_46 a62_47 a62_5 a62_8
  refine wpF_seq ?_
  refine wpF_condP a63_48 (fun hlt3 => ?t87) (fun hlt3 => ?e87)
  case e87 =>
    refine wpF_exit ?_
    refine atX_here ?_
    refine wpF_cut (fun f H => f 1 = PT g1 0 ∧ f 3 = PT g4 0 ∧ f 5 = vq ∧ f 8 = I ((i : Int) + 1) ∧ H62 = H) ?_ ?_
    · refine wpF_region ?_
      refine wpL_q (U := NoB) rfl (q_move (v := I ((i : Int))) rfl a63_8) ?_
      refine wpL_q (U := NoB) rfl (q_add rfl rfl rfl (by constructor <;> omega)) ?_
      refine wpL_q (U := NoB) rfl (q_assign (v := I ((i : Int) + 1)) rfl rfl) ?_
      exact ⟨a63_1, a63_3, a63_5, rfl, rfl⟩
    rintro f86 _ ⟨a86_1, a86_3, a86_5, a86_8, rfl⟩
    clear a63_1 a63_3 a63_45 a63_46 a63_47 a63_48 a63_5 a63_8
    refine ⟨_, ?_, i + 1, vq, rfl, (by have := comeAt_len (l := l) i; omega), a86_1, a86_3, a86_5, (Eq.trans a86_8 (congrArg I (by omega))), (show St H0 NoB (fun b => S b ∧ b < H0.size) [rowE 32 vq (comeAt l (i + 1) : List (List Int)), blkE g11 (.cells #[I ((loopFault l).1), I ((loopFault l).2)] 27), blkE g4 (.cells #[I (0), I (0)] 27), blkE g1 (.cells #[wa, wb, wc, wd, we] 42), rdE wa l.Low, rdE wb l.High, rdE wc l.Start, rdE wd l.Jumps, rdE we l.Bad] H62 from (by have h__ := (hS62.drop (sk (sn (sk (sk (sk (sk (sk (sk (sk (sk (List.Sublist.slnil)))))))))))); rw [List.take_of_length_le (by omega), ← comeAt_step hil] at h__; exact h__))⟩
    omega
  have hgf := growS_few hl hil k
  refine wpF_skip ?_
  refine wpF_seq ?_
  refine wpF_block ?_
  refine wpF_seq ?_
  obtain ⟨u65, huu65, hlu65⟩ := (Rd.list.1 (hS62.rdS 1 rfl)).elem k (by omega)
  have hS66 : St H0 NoB (fun b => S b ∧ b < H0.size) [rdE u65 (nth (nextL l (nth (comeAt l i) i)) k), rowE 32 vq (growS (comeAt l i) ((nextL l (nth (comeAt l i) i)).take k) : List (List Int)), rdE r60o5 (nextL l (nth (comeAt l i) i)), blkE g11 (.cells #[I ((loopFault l).1), I ((loopFault l).2)] 27), blkE g4 (.cells #[I (0), I (0)] 27), blkE g1 (.cells #[wa, wb, wc, wd, we] 42), rdE wa l.Low, rdE wb l.High, rdE wc l.Start, rdE wd l.Jumps, rdE we l.Bad] H62 := hS62.rd huu65
  refine wpF_cut (fun f H => f 1 = PT g1 0 ∧ f 3 = PT g4 0 ∧ f 5 = vq ∧ f 8 = I ((i : Int)) ∧ f 10 = u65 ∧ f 45 = r60o5 ∧ f 46 = I (((nextL l (nth (comeAt l i) i)).length : Int)) ∧ f 47 = I ((k : Int)) ∧ St H0 NoB (fun b => S b ∧ b < H0.size) [rdE u65 (nth (nextL l (nth (comeAt l i) i)) k), rowE 32 vq (growS (comeAt l i) ((nextL l (nth (comeAt l i) i)).take k) : List (List Int)), rdE r60o5 (nextL l (nth (comeAt l i) i)), blkE g11 (.cells #[I ((loopFault l).1), I ((loopFault l).2)] 27), blkE g4 (.cells #[I (0), I (0)] 27), blkE g1 (.cells #[wa, wb, wc, wd, we] 42), rdE wa l.Low, rdE wb l.High, rdE wc l.Start, rdE wd l.Jumps, rdE we l.Bad] H) ?_ ?_
  · refine wpF_region ?_
    refine wpL_q (U := NoB) rfl (q_indexRd (k := k) rfl Try.underlying23 el_LInt_32_LoopS5 a63_45 a63_47 (hS62.rdl 1 rfl) (by omega) (by omega)) ?_
    refine wpL_q (U := NoB) rfl (q_loadE rfl rfl (hlu65 Try.prog 32 _ el_LInt_32_LoopS5 (fun _ h => False.elim h))) ?_
    refine wpL_q (U := NoB) rfl (q_assign (v := u65) rfl rfl) ?_
    exact ⟨a63_1, a63_3, a63_5, a63_8, rfl, a63_45, a63_46, a63_47, hS66⟩
  rintro f67 H67 ⟨a67_1, a67_3, a67_5, a67_8, a67_10, a67_45, a67_46, a67_47, hS67⟩
  clear a63_1 a63_3 a63_45 a63_46 a63_47 a63_48 a63_5 a63_8
  refine wpF_seq ?_
  refine wpF_cut (fun f H => f 1 = PT g1 0 ∧ f 3 = PT g4 0 ∧ f 5 = vq ∧ f 8 = I ((i : Int)) ∧ f 10 = u65 ∧ f 45 = r60o5 ∧ f 46 = I (((nextL l (nth (comeAt l i) i)).length : Int)) ∧ f 47 = I ((k : Int)) ∧ f 54 = B (decide (¬ ((nth (nextL l (nth (comeAt l i) i)) k) ∈ (growS (comeAt l i) ((nextL l (nth (comeAt l i) i)).take k))))) ∧ St H0 NoB (fun b => S b ∧ b < H0.size) [rdE u65 (nth (nextL l (nth (comeAt l i) i)) k), rowE 32 vq (growS (comeAt l i) ((nextL l (nth (comeAt l i) i)).take k) : List (List Int)), rdE r60o5 (nextL l (nth (comeAt l i) i)), blkE g11 (.cells #[I ((loopFault l).1), I ((loopFault l).2)] 27), blkE g4 (.cells #[I (0), I (0)] 27), blkE g1 (.cells #[wa, wb, wc, wd, we] 42), rdE wa l.Low, rdE wb l.High, rdE wc l.Start, rdE wd l.Jumps, rdE we l.Bad] H) ?_ ?_
  · refine wpF_region ?_
    refine wpL_q (U := NoB) rfl (q_move (v := vq) rfl a67_5) ?_
    refine wpL_q (U := NoB) rfl (q_move (v := u65) rfl a67_10) ?_
    refine wpL_o rfl ?_
    refine e_call rfl Try.call56 (arr2 (v0 := vq) (v1 := u65) rfl rfl) (has_L vq u65 (growS (comeAt l i) ((nextL l (nth (comeAt l i) i)).take k)) (nth (nextL l (nth (comeAt l i) i)) k) (hS67.rowN 1 rfl) (hS67.rdN 0 rfl) ) ?_
    rintro _ H68 ⟨hxx, rfl⟩
    have hS69 : St H0 NoB (fun b => S b ∧ b < H0.size) [rdE u65 (nth (nextL l (nth (comeAt l i) i)) k), rowE 32 vq (growS (comeAt l i) ((nextL l (nth (comeAt l i) i)).take k) : List (List Int)), rdE r60o5 (nextL l (nth (comeAt l i) i)), blkE g11 (.cells #[I ((loopFault l).1), I ((loopFault l).2)] 27), blkE g4 (.cells #[I (0), I (0)] 27), blkE g1 (.cells #[wa, wb, wc, wd, we] 42), rdE wa l.Low, rdE wb l.High, rdE wc l.Start, rdE wd l.Jumps, rdE we l.Bad] H68 := hS67.ext hxx
    refine wpL_q (U := NoB) rfl (q_notP rfl rfl) ?_
    exact ⟨a67_1, a67_3, a67_5, a67_8, a67_10, a67_45, a67_46, a67_47, rfl, hS69⟩
  rintro f71 H71 ⟨a71_1, a71_3, a71_5, a71_8, a71_10, a71_45, a71_46, a71_47, a71_54, hS71⟩
  clear a67_1 a67_10 a67_3 a67_45 a67_46 a67_47 a67_5 a67_8
  refine wpF_condP a71_54 (fun h54 => ?t85) (fun h54 => ?e85)
  case e85 =>
    refine wpF_skip ?_
    refine wpF_cut (fun f H => f 1 = PT g1 0 ∧ f 3 = PT g4 0 ∧ f 5 = vq ∧ f 8 = I ((i : Int)) ∧ f 45 = r60o5 ∧ f 46 = I (((nextL l (nth (comeAt l i) i)).length : Int)) ∧ f 47 = I ((k : Int) + 1) ∧ H71 = H) ?_ ?_
    · refine wpF_region ?_
      refine wpL_q (U := NoB) rfl (q_add rfl a71_47 rfl (by constructor <;> omega)) ?_
      refine wpL_q (U := NoB) rfl (q_move (v := I ((k : Int) + 1)) rfl rfl) ?_
      exact ⟨a71_1, a71_3, a71_5, a71_8, a71_45, a71_46, rfl, rfl⟩
    rintro f84 _ ⟨a84_1, a84_3, a84_5, a84_8, a84_45, a84_46, a84_47, rfl⟩
    clear a71_1 a71_10 a71_3 a71_45 a71_46 a71_47 a71_5 a71_54 a71_8
    refine ⟨_, ?_, k + 1, vq, rfl, (by omega), a84_1, a84_3, a84_5, a84_8, a84_45, a84_46, (Eq.trans a84_47 (congrArg I (by omega))), (show St H0 NoB (fun b => S b ∧ b < H0.size) [rowE 32 vq (growS (comeAt l i) ((nextL l (nth (comeAt l i) i)).take (k + 1)) : List (List Int)), rdE r60o5 (nextL l (nth (comeAt l i) i)), blkE g11 (.cells #[I ((loopFault l).1), I ((loopFault l).2)] 27), blkE g4 (.cells #[I (0), I (0)] 27), blkE g1 (.cells #[wa, wb, wc, wd, we] 42), rdE wa l.Low, rdE wb l.High, rdE wc l.Start, rdE wd l.Jumps, rdE we l.Bad] H71 from (by have h__ := (hS71.drop (sn (sk (sk (sk (sk (sk (sk (sk (sk (sk (sk (List.Sublist.slnil))))))))))))); (first | rw [show growS (comeAt l i) ((nextL l (nth (comeAt l i) i)).take k) = growS (comeAt l i) ((nextL l (nth (comeAt l i) i)).take (k + 1)) from (by rw [growS_take (by omega), addN, if_pos (by simpa using h54)])] at h__ | skip); exact h__))⟩
    omega
  refine wpF_cut (fun f H => ∃ (v78 : Value), f 1 = PT g1 0 ∧ f 3 = PT g4 0 ∧ f 5 = v78 ∧ f 8 = I ((i : Int)) ∧ f 45 = r60o5 ∧ f 46 = I (((nextL l (nth (comeAt l i) i)).length : Int)) ∧ f 47 = I ((k : Int)) ∧ St H0 NoB (fun b => S b ∧ b < H0.size) [rowE 32 v78 (growS (comeAt l i) ((nextL l (nth (comeAt l i) i)).take (k + 1)) : List (List Int)), rdE r60o5 (nextL l (nth (comeAt l i) i)), blkE g11 (.cells #[I ((loopFault l).1), I ((loopFault l).2)] 27), blkE g4 (.cells #[I (0), I (0)] 27), blkE g1 (.cells #[wa, wb, wc, wd, we] 42), rdE wa l.Low, rdE wb l.High, rdE wc l.Start, rdE wd l.Jumps, rdE we l.Bad] H) ?_ ?_
  · refine wpF_region ?_
    refine wpL_q (U := NoB) rfl (q_move (v := vq) rfl a71_5) ?_
    refine wpL_q (U := NoB) rfl (q_move (v := u65) rfl a71_10) ?_
    refine wpL_o rfl ?_
    refine e_buildSlice (vs := [u65]) (xs := ([nth (nextL l (nth (comeAt l i) i)) k] : List (List Int))) rfl Try.underlying23 Try.zeroValue32 rfl Try.sizeOf32 (par1 (v0 := u65) rfl) rfl hS71 (RdVs.cons (hS71.rdS 0 rfl) (RdVs.nil)) (by decide) (by decide) (fun v73 H74 hS75 hxx hvv73 => ?_)
    replace hS75 : St H0 NoB (fun b => S b ∧ b < H0.size) [rowE 32 v73 ([nth (nextL l (nth (comeAt l i) i)) k] : List (List Int)), rdE u65 (nth (nextL l (nth (comeAt l i) i)) k), rowE 32 vq (growS (comeAt l i) ((nextL l (nth (comeAt l i) i)).take k) : List (List Int)), rdE r60o5 (nextL l (nth (comeAt l i) i)), blkE g11 (.cells #[I ((loopFault l).1), I ((loopFault l).2)] 27), blkE g4 (.cells #[I (0), I (0)] 27), blkE g1 (.cells #[wa, wb, wc, wd, we] 42), rdE wa l.Low, rdE wb l.High, rdE wc l.Start, rdE wd l.Jumps, rdE we l.Bad] H74 := hS75
    have hS76 : St H0 NoB (fun b => S b ∧ b < H0.size) [rdE v73 ([nth (nextL l (nth (comeAt l i) i)) k] : List (List Int)), rdE u65 (nth (nextL l (nth (comeAt l i) i)) k), rowE 32 vq (growS (comeAt l i) ((nextL l (nth (comeAt l i) i)).take k) : List (List Int)), rdE r60o5 (nextL l (nth (comeAt l i) i)), blkE g11 (.cells #[I ((loopFault l).1), I ((loopFault l).2)] 27), blkE g4 (.cells #[I (0), I (0)] 27), blkE g1 (.cells #[wa, wb, wc, wd, we] 42), rdE wa l.Low, rdE wb l.High, rdE wc l.Start, rdE wd l.Jumps, rdE we l.Bad] H74 := St.fin hS75
    have hS77 : St H0 NoB (fun b => S b ∧ b < H0.size) [rowE 32 vq (growS (comeAt l i) ((nextL l (nth (comeAt l i) i)).take k) : List (List Int)), rdE v73 ([nth (nextL l (nth (comeAt l i) i)) k] : List (List Int)), rdE u65 (nth (nextL l (nth (comeAt l i) i)) k), rdE r60o5 (nextL l (nth (comeAt l i) i)), blkE g11 (.cells #[I ((loopFault l).1), I ((loopFault l).2)] 27), blkE g4 (.cells #[I (0), I (0)] 27), blkE g1 (.cells #[wa, wb, wc, wd, we] 42), rdE wa l.Low, rdE wb l.High, rdE wc l.Start, rdE wd l.Jumps, rdE we l.Bad] H74 := (hS76.front 2 rfl)
    refine wpL_o rfl ?_
    refine e_append rfl Try.underlying23 em_LInt_32_LoopS5 rfl rfl hS77 (hS77.rdS 1 rfl) (fun _ h => h) (by have hb : GoT.bytes (List Int) = 24 := rfl; simp [hb]; omega) (by decide) (fun v78 H79 hS80 hxx => ?_)
    replace hS80 : St H0 NoB (fun b => S b ∧ b < H0.size) [rowE 32 v78 ((growS (comeAt l i) ((nextL l (nth (comeAt l i) i)).take k)) ++ ([nth (nextL l (nth (comeAt l i) i)) k]) : List (List Int)), rdE v73 ([nth (nextL l (nth (comeAt l i) i)) k] : List (List Int)), rdE u65 (nth (nextL l (nth (comeAt l i) i)) k), rdE r60o5 (nextL l (nth (comeAt l i) i)), blkE g11 (.cells #[I ((loopFault l).1), I ((loopFault l).2)] 27), blkE g4 (.cells #[I (0), I (0)] 27), blkE g1 (.cells #[wa, wb, wc, wd, we] 42), rdE wa l.Low, rdE wb l.High, rdE wc l.Start, rdE wd l.Jumps, rdE we l.Bad] H79 := hS80
    have hS81 : St H0 NoB (fun b => S b ∧ b < H0.size) [rowE 32 v78 (growS (comeAt l i) ((nextL l (nth (comeAt l i) i)).take (k + 1)) : List (List Int)), rdE v73 ([nth (nextL l (nth (comeAt l i) i)) k] : List (List Int)), rdE u65 (nth (nextL l (nth (comeAt l i) i)) k), rdE r60o5 (nextL l (nth (comeAt l i) i)), blkE g11 (.cells #[I ((loopFault l).1), I ((loopFault l).2)] 27), blkE g4 (.cells #[I (0), I (0)] 27), blkE g1 (.cells #[wa, wb, wc, wd, we] 42), rdE wa l.Low, rdE wb l.High, rdE wc l.Start, rdE wd l.Jumps, rdE we l.Bad] H79 := by rw [show (growS (comeAt l i) ((nextL l (nth (comeAt l i) i)).take (k + 1))) = ((growS (comeAt l i) ((nextL l (nth (comeAt l i) i)).take k)) ++ ([nth (nextL l (nth (comeAt l i) i)) k])) from (by rw [growS_take (by omega), addN, if_neg h54])]; exact hS80
    refine wpL_q (U := NoB) rfl (q_assign (v := v78) rfl rfl) ?_
    exact ⟨v78, a71_1, a71_3, rfl, a71_8, a71_45, a71_46, a71_47, (hS81.drop (sk (sn (sn (sk (sk (sk (sk (sk (sk (sk (sk (sk (List.Sublist.slnil))))))))))))))⟩
  rintro f82 H82 ⟨v78, a82_1, a82_3, a82_5, a82_8, a82_45, a82_46, a82_47, hS82⟩
  clear a71_1 a71_10 a71_3 a71_45 a71_46 a71_47 a71_5 a71_54 a71_8
  refine wpF_cut (fun f H => f 1 = PT g1 0 ∧ f 3 = PT g4 0 ∧ f 5 = v78 ∧ f 8 = I ((i : Int)) ∧ f 45 = r60o5 ∧ f 46 = I (((nextL l (nth (comeAt l i) i)).length : Int)) ∧ f 47 = I ((k : Int) + 1) ∧ H82 = H) ?_ ?_
  · refine wpF_region ?_
    refine wpL_q (U := NoB) rfl (q_add rfl a82_47 rfl (by constructor <;> omega)) ?_
    refine wpL_q (U := NoB) rfl (q_move (v := I ((k : Int) + 1)) rfl rfl) ?_
    exact ⟨a82_1, a82_3, a82_5, a82_8, a82_45, a82_46, rfl, rfl⟩
  rintro f83 _ ⟨a83_1, a83_3, a83_5, a83_8, a83_45, a83_46, a83_47, rfl⟩
  clear a82_1 a82_3 a82_45 a82_46 a82_47 a82_5 a82_8
  refine ⟨_, ?_, k + 1, v78, rfl, (by omega), a83_1, a83_3, a83_5, a83_8, a83_45, a83_46, (Eq.trans a83_47 (congrArg I (by omega))), hS82⟩
  omega

end Go.Um
