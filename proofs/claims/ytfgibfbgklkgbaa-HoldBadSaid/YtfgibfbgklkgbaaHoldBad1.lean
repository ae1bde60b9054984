import Derived.Test.YtfgibfbgklkgbaaProg
import Derived.Test.YtfgibfbgklkgbaaHoldF1
import Derived.Test.YtfgibfbgklkgbaaLoopR2
import Derived.Test.YtfgibfbgklkgbaaLoopS2
import Derived.Test.YtfgibfbgklkgbaaBadPlain
import Derived.Test.YtfgibfbgklkgbaaUmSub
namespace Go.Um
open Go.Proofs
open GoT (sz ag rdc)
open KeyT (kv)

theorem el_LInt_32_HoldBad1 : ElT Try.prog (List Int) 32 := ⟨Try.isAgg32, Try.sizeOf32⟩
theorem em_LInt_32_HoldBad1 : ElemOk Try.prog (List Int) 32 := ⟨Try.t32, (.slice none 0 0), by kernel_rfl, by kernel_rfl, by kernel_rfl, by kernel_rfl, by kernel_rfl⟩

set_option maxHeartbeats 2000000 in
set_option maxRecDepth 100000 in
theorem HoldBad_L {H0 : Heap} (wa wb wc wd we : Value) (l : Loop) (rwa : Rd NoB H0 wa l.Low) (rwb : Rd NoB H0 wb l.High) (rwc : Rd NoB H0 wc l.Start) (rwd : Rd NoB H0 wd l.Jumps) (rwe : Rd NoB H0 we l.Bad) : CallsH Try.prog 11 #[Value.agg #[wa, wb, wc, wd, we]] H0 (fun rv_ H' => Ext NoB H0 H' ∧ rv_ = B true) := by
  have hs1 := (Rd.list.1 rwa).small
  have hs2 := (Rd.list.1 rwb).small
  have hs4 := (Rd.list.1 rwd).small
  have hS0 : St H0 NoB NoB [rdE wa l.Low, rdE wb l.High, rdE wc l.Start, rdE wd l.Jumps, rdE we l.Bad] H0 := St.arg (St.arg (St.arg (St.arg (St.arg (St.start (fun _ h => h.elim)) (Bl0.nil) rwe (fun _ h => h)) (Bl0.cons (Bl0.nil)) rwd (fun _ h => h)) (Bl0.cons (Bl0.cons (Bl0.nil))) rwc (fun _ h => h)) (Bl0.cons (Bl0.cons (Bl0.cons (Bl0.nil)))) rwb (fun _ h => h)) (Bl0.cons (Bl0.cons (Bl0.cons (Bl0.cons (Bl0.nil))))) rwa (fun _ h => h)
  refine callsH_of_wpF (args := [Value.agg #[wa, wb, wc, wd, we]]) (rs := [.tmp 2]) Try.func11 rfl Try.ntmps11 Try.results11 (by kernel_rfl) (Nat.le_of_ble_eq_true rfl) ?_
  have a0_0 : argF [Value.agg #[wa, wb, wc, wd, we]] 0 = Value.agg #[wa, wb, wc, wd, we] := rfl
  generalize argF [Value.agg #[wa, wb, wc, wd, we]] = f0 at *
  refine wpF_seq ?_
  refine wpF_cut (fun f H => ∃ (g1 : Nat), f 1 = PT g1 0 ∧ St H0 NoB NoB [blkE g1 (.cells #[wa, wb, wc, wd, we] 42), rdE wa l.Low, rdE wb l.High, rdE wc l.Start, rdE wd l.Jumps, rdE we l.Bad] H) ?_ ?_
  · refine wpF_region ?_
    refine wpL_o rfl ?_
    refine e_box (v := Value.agg #[wa, wb, wc, wd, we]) rfl a0_0 hS0 (fun g1 H2 hS3 hxx => ?_)
    replace hS3 : St H0 NoB NoB [blkE g1 (.cells #[wa, wb, wc, wd, we] 42), rdE wa l.Low, rdE wb l.High, rdE wc l.Start, rdE wd l.Jumps, rdE we l.Bad] H2 := hS3
    refine wpL_q (U := NoB) rfl (q_assign (v := B (false)) rfl rfl) ?_
    exact ⟨g1, rfl, hS3⟩
  rintro f4 H4 ⟨g1, a4_1, hS4⟩
  clear a0_0
  refine wpF_seq ?_
  refine wpF_cut (fun f H => f 1 = PT g1 0 ∧ f 3 = B (true) ∧ St H0 NoB NoB [blkE g1 (.cells #[wa, wb, wc, wd, we] 42), rdE wa l.Low, rdE wb l.High, rdE wc l.Start, rdE wd l.Jumps, rdE we l.Bad] H) ?_ ?_
  · refine wpF_region ?_
    refine wpL_o rfl ?_
    refine e_call rfl Try.call42 arr0 (holdFact) ?_
    rintro _ H5 ⟨hxx, rfl⟩
    have hS6 : St H0 NoB NoB [blkE g1 (.cells #[wa, wb, wc, wd, we] 42), rdE wa l.Low, rdE wb l.High, rdE wc l.Start, rdE wd l.Jumps, rdE we l.Bad] H5 := hS4.ext hxx
    refine wpL_q (U := NoB) rfl (q_assign (v := B (true)) rfl rfl) ?_
    exact ⟨a4_1, rfl, hS6⟩
  rintro f8 H8 ⟨a8_1, a8_3, hS8⟩
  clear a4_1
  refine wpF_seq ?_
  refine wpF_seq ?_
  refine wpF_cut (fun f H => f 1 = PT g1 0 ∧ f 22 = B (false) ∧ H8 = H) ?_ ?_
  · refine wpF_region ?_
    refine wpL_q (U := NoB) rfl (q_move (v := B (true)) rfl a8_3) ?_
    refine wpL_q (U := NoB) rfl (q_not rfl rfl) ?_
    exact ⟨a8_1, rfl, rfl⟩
  rintro f9 _ ⟨a9_1, a9_22, rfl⟩
  clear a8_1 a8_3
  refine wpF_condF a9_22 ?_
  refine wpF_skip ?_
  refine wpF_seq ?_
  refine wpF_cut (fun f H => ∃ (r10 : Value), ∃ (g14 : Nat), f 1 = PT g1 0 ∧ f 4 = r10 ∧ f 5 = B (badB l) ∧ f 6 = PT g14 0 ∧ St H0 NoB NoB [blkE g14 (.cells #[I ((loopFault l).1), I ((loopFault l).2)] 27), rdE r10 (badL l), blkE g1 (.cells #[wa, wb, wc, wd, we] 42), rdE wa l.Low, rdE wb l.High, rdE wc l.Start, rdE wd l.Jumps, rdE we l.Bad] H) ?_ ?_
  · refine wpF_region ?_
    refine wpL_q (U := NoB) rfl (q_loadBlkA rfl a9_1 Try.isAgg42 Try.sizeOf42 rfl (hS8.blk 0 rfl) (fun h => h)) ?_
    refine wpL_o rfl ?_
    refine e_call rfl Try.call23 (arr1 (v0 := Value.agg #[wa, wb, wc, wd, we]) rfl) (Bad_L wa wb wc wd we l (hS8.rdS 1 rfl) (hS8.rdS 2 rfl) (hS8.rdS 3 rfl) (hS8.rdS 4 rfl) (hS8.rdS 5 rfl) ) ?_
    rintro _ H11 ⟨hxx, r10, rfl, hrr10⟩
    have hS12 : St H0 NoB NoB [rdE r10 (badL l), blkE g1 (.cells #[wa, wb, wc, wd, we] 42), rdE wa l.Low, rdE wb l.High, rdE wc l.Start, rdE wd l.Jumps, rdE we l.Bad] H11 := hS8.res hxx hrr10
    refine wpL_q (U := NoB) rfl (q_move (v := Value.tuple #[r10, B (badB l), Value.agg #[I ((loopFault l).1), I ((loopFault l).2)]]) rfl rfl) ?_
    refine wpL_q (U := NoB) rfl (q_extract (vs := #[r10, B (badB l), Value.agg #[I ((loopFault l).1), I ((loopFault l).2)]]) (v := r10) rfl rfl rfl) ?_
    refine wpL_q (U := NoB) rfl (q_extract (vs := #[r10, B (badB l), Value.agg #[I ((loopFault l).1), I ((loopFault l).2)]]) (v := B (badB l)) rfl rfl rfl) ?_
    refine wpL_q (U := NoB) rfl (q_extract (vs := #[r10, B (badB l), Value.agg #[I ((loopFault l).1), I ((loopFault l).2)]]) (v := Value.agg #[I ((loopFault l).1), I ((loopFault l).2)]) rfl rfl rfl) ?_
    refine wpL_o rfl ?_
    refine e_alloc rfl Try.zeroValue27 hS12 (fun g14 H15 hS16 hxx => ?_)
    replace hS16 : St H0 NoB NoB [blkE g14 (.cells #[I (0), I (0)] 27), rdE r10 (badL l), blkE g1 (.cells #[wa, wb, wc, wd, we] 42), rdE wa l.Low, rdE wb l.High, rdE wc l.Start, rdE wd l.Jumps, rdE we l.Bad] H15 := hS16
    refine wpL_q (U := NoB) rfl (q_assign (v := r10) rfl rfl) ?_
    refine wpL_q (U := NoB) rfl (q_assign (v := B (badB l)) rfl rfl) ?_
    refine wpL_o rfl ?_
    refine e_storeBlkA (cs' := #[I ((loopFault l).1), I ((loopFault l).2)]) rfl rfl rfl Try.sizeOf27 rfl rfl (List.forall_mem_cons.2 ⟨rfl, List.forall_mem_cons.2 ⟨rfl, List.forall_mem_nil _⟩⟩) hS16 (fun H17 hS18 hxx => ?_)
    replace hS18 : St H0 NoB NoB [blkE g14 (.cells #[I ((loopFault l).1), I ((loopFault l).2)] 27), rdE r10 (badL l), blkE g1 (.cells #[wa, wb, wc, wd, we] 42), rdE wa l.Low, rdE wb l.High, rdE wc l.Start, rdE wd l.Jumps, rdE we l.Bad] H17 := hS18
    exact ⟨r10, g14, a9_1, rfl, rfl, rfl, hS18⟩
  rintro f19 H19 ⟨r10, g14, a19_1, a19_4, a19_5, a19_6, hS19⟩
  clear a9_1 a9_22
  refine wpF_seq ?_
  refine wpF_seq ?_
  refine wpF_cut (fun f H => f 1 = PT g1 0 ∧ f 4 = r10 ∧ f 5 = B (badB l) ∧ f 31 = B (decide (((loopFault l).1) ≠ 0)) ∧ H19 = H) ?_ ?_
  · refine wpF_region ?_
    refine wpL_q (U := NoB) rfl (q_fieldAddr rfl Try.underlying27 rfl Try.sizeOf3 a19_6) ?_
    refine wpL_q (U := NoB) rfl (q_loadBlk rfl rfl Try.isAgg3 (hS19.blk 0 rfl) rfl (fun h => h)) ?_
    refine wpL_q (U := NoB) rfl (q_neq rfl rfl rfl) ?_
    exact ⟨a19_1, a19_4, a19_5, rfl, rfl⟩
  rintro f20 _ ⟨a20_1, a20_4, a20_5, a20_31, rfl⟩
  clear a19_1 a19_4 a19_5 a19_6
  refine wpF_condP a20_31 (fun h31 => ?t148) (fun h31 => ?e148)
  case t148 =>
    refine wpF_seq ?_
    refine wpF_cut (fun f H => f 2 = B (decide (((badL l).length : Int) = 0)) ∧ H19 = H) ?_ ?_
    · refine wpF_region ?_
      refine wpL_q (U := NoB) rfl (q_move (v := r10) rfl a20_4) ?_
      refine wpL_q (U := NoB) rfl (q_lenRd rfl Try.underlying23 rfl (hS19.rdl 1 rfl)) ?_
      refine wpL_q (U := NoB) rfl (q_eql rfl rfl rfl) ?_
      refine wpL_q (U := NoB) rfl (q_assign (v := B (decide (((badL l).length : Int) = 0))) rfl rfl) ?_
      exact ⟨rfl, rfl⟩
    rintro f22 _ ⟨a22_2, rfl⟩
    clear a20_1 a20_31 a20_4 a20_5
    refine wpF_ret ?_
    refine ⟨_, resT a22_2 resN, hS19.frame, ?_⟩
    show (B (decide (((badL l).length : Int) = 0))) = B true
    have q1 : badL l = [] := if_pos h31
    exact congrArg B (decide_eq_true (by rw [q1]; rfl))
  have hl := LW.of (Decidable.of_not_not h31)
  have hro := runs_come hl
  have hbfw := badL_few (l := l)
  have hrl : (runsOut l).length ≤ 1200 := by rw [hro]; exact comeL_few hl
  refine wpF_skip ?_
  refine wpF_seq ?_
  refine wpF_seq ?_
  refine wpF_cut (fun f H => f 1 = PT g1 0 ∧ f 4 = r10 ∧ f 36 = B (!(badB l)) ∧ H19 = H) ?_ ?_
  · refine wpF_region ?_
    refine wpL_q (U := NoB) rfl (q_move (v := B (badB l)) rfl a20_5) ?_
    refine wpL_q (U := NoB) rfl (q_not rfl rfl) ?_
    exact ⟨a20_1, a20_4, rfl, rfl⟩
  rintro f23 _ ⟨a23_1, a23_4, a23_36, rfl⟩
  clear a20_1 a20_31 a20_4 a20_5
  refine wpF_cond a23_36 (fun h36 => ?t147) (fun h36 => ?e147)
  case t147 =>
    have hbn : badB l = false := by simpa using h36
    refine wpF_seq ?_
    refine wpF_cut (fun f H => ∃ (r25 : Value), ∃ (g29 : Nat), f 1 = PT g1 0 ∧ f 4 = r10 ∧ f 7 = r25 ∧ f 8 = PT g29 0 ∧ St H0 NoB NoB [blkE g29 (.cells #[I ((loopFault l).1), I ((loopFault l).2)] 27), rdE r25 (runsOut l), blkE g14 (.cells #[I ((loopFault l).1), I ((loopFault l).2)] 27), rdE r10 (badL l), blkE g1 (.cells #[wa, wb, wc, wd, we] 42), rdE wa l.Low, rdE wb l.High, rdE wc l.Start, rdE wd l.Jumps, rdE we l.Bad] H) ?_ ?_
    · refine wpF_region ?_
      refine wpL_q (U := NoB) rfl (q_loadBlkA rfl a23_1 Try.isAgg42 Try.sizeOf42 rfl (hS19.blk 2 rfl) (fun h => h)) ?_
      refine wpL_o rfl ?_
      refine e_call rfl Try.call22 (arr1 (v0 := Value.agg #[wa, wb, wc, wd, we]) rfl) (Runs_L wa wb wc wd we l (hS19.rdS 3 rfl) (hS19.rdS 4 rfl) (hS19.rdS 5 rfl) (hS19.rdS 6 rfl) (hS19.rdS 7 rfl) ) ?_
      rintro _ H26 ⟨hxx, r25, rfl, hrr25⟩
      have hS27 : St H0 NoB NoB [rdE r25 (runsOut l), blkE g14 (.cells #[I ((loopFault l).1), I ((loopFault l).2)] 27), rdE r10 (badL l), blkE g1 (.cells #[wa, wb, wc, wd, we] 42), rdE wa l.Low, rdE wb l.High, rdE wc l.Start, rdE wd l.Jumps, rdE we l.Bad] H26 := hS19.res hxx hrr25
      refine wpL_q (U := NoB) rfl (q_move (v := Value.tuple #[r25, Value.agg #[I ((loopFault l).1), I ((loopFault l).2)]]) rfl rfl) ?_
      refine wpL_q (U := NoB) rfl (q_extract (vs := #[r25, Value.agg #[I ((loopFault l).1), I ((loopFault l).2)]]) (v := r25) rfl rfl rfl) ?_
      refine wpL_q (U := NoB) rfl (q_extract (vs := #[r25, Value.agg #[I ((loopFault l).1), I ((loopFault l).2)]]) (v := Value.agg #[I ((loopFault l).1), I ((loopFault l).2)]) rfl rfl rfl) ?_
      refine wpL_o rfl ?_
      refine e_alloc rfl Try.zeroValue27 hS27 (fun g29 H30 hS31 hxx => ?_)
      replace hS31 : St H0 NoB NoB [blkE g29 (.cells #[I (0), I (0)] 27), rdE r25 (runsOut l), blkE g14 (.cells #[I ((loopFault l).1), I ((loopFault l).2)] 27), rdE r10 (badL l), blkE g1 (.cells #[wa, wb, wc, wd, we] 42), rdE wa l.Low, rdE wb l.High, rdE wc l.Start, rdE wd l.Jumps, rdE we l.Bad] H30 := hS31
      refine wpL_q (U := NoB) rfl (q_assign (v := r25) rfl rfl) ?_
      refine wpL_o rfl ?_
      refine e_storeBlkA (cs' := #[I ((loopFault l).1), I ((loopFault l).2)]) rfl rfl rfl Try.sizeOf27 rfl rfl (List.forall_mem_cons.2 ⟨rfl, List.forall_mem_cons.2 ⟨rfl, List.forall_mem_nil _⟩⟩) hS31 (fun H32 hS33 hxx => ?_)
      replace hS33 : St H0 NoB NoB [blkE g29 (.cells #[I ((loopFault l).1), I ((loopFault l).2)] 27), rdE r25 (runsOut l), blkE g14 (.cells #[I ((loopFault l).1), I ((loopFault l).2)] 27), rdE r10 (badL l), blkE g1 (.cells #[wa, wb, wc, wd, we] 42), rdE wa l.Low, rdE wb l.High, rdE wc l.Start, rdE wd l.Jumps, rdE we l.Bad] H32 := hS33
      exact ⟨r25, g29, a23_1, a23_4, rfl, rfl, hS33⟩
    rintro f34 H34 ⟨r25, g29, a34_1, a34_4, a34_7, a34_8, hS34⟩
    clear a23_1 a23_36 a23_4
    refine wpF_seq ?_
    refine wpF_seq ?_
    refine wpF_cut (fun f H => f 1 = PT g1 0 ∧ f 4 = r10 ∧ f 7 = r25 ∧ f 8 = PT g29 0 ∧ f 9 = I (0) ∧ H34 = H) ?_ ?_
    · refine wpF_region ?_
      refine wpL_q (U := NoB) rfl (q_assign (v := I (0)) rfl rfl) ?_
      exact ⟨a34_1, a34_4, a34_7, a34_8, rfl, rfl⟩
    rintro f35 _ ⟨a35_1, a35_4, a35_7, a35_8, a35_9, rfl⟩
    clear a34_1 a34_4 a34_7 a34_8
    refine wpF_block ?_
    refine wpF_loop (fun mz f H => ∃ (i : Nat), mz = (runsOut l).length - i ∧ (i ≤ (runsOut l).length) ∧ f 1 = PT g1 0 ∧ f 4 = r10 ∧ f 7 = r25 ∧ f 8 = PT g29 0 ∧ f 9 = I ((i : Int)) ∧ St H0 NoB NoB [blkE g29 (.cells #[I ((loopFault l).1), I ((loopFault l).2)] 27), rdE r25 (runsOut l), blkE g14 (.cells #[I ((loopFault l).1), I ((loopFault l).2)] 27), rdE r10 (badL l), blkE g1 (.cells #[wa, wb, wc, wd, we] 42), rdE wa l.Low, rdE wb l.High, rdE wc l.Start, rdE wd l.Jumps, rdE we l.Bad] H) ((runsOut l).length - 0) ?_ ?_
    · exact ⟨0, rfl, Nat.zero_le _, a35_1, a35_4, a35_7, a35_8, (Eq.trans a35_9 (congrArg I (by omega))), hS34⟩
    intro m36 f36 H36 hI36
    obtain ⟨i, hm36, hi, a36_1, a36_4, a36_7, a36_8, a36_9, hS36⟩ := hI36
    clear a35_1 a35_4 a35_7 a35_8 a35_9
    refine wpF_seq ?_
    refine wpF_seq ?_
    refine wpF_cut (fun f H => f 1 = PT g1 0 ∧ f 4 = r10 ∧ f 7 = r25 ∧ f 8 = PT g29 0 ∧ f 9 = I ((i : Int)) ∧ f 45 = B (decide ((i : Int) < ((runsOut l).length : Int))) ∧ H36 = H) ?_ ?_
    · refine wpF_region ?_
      refine wpL_q (U := NoB) rfl (q_move (v := I ((i : Int))) rfl a36_9) ?_
      refine wpL_q (U := NoB) rfl (q_move (v := r25) rfl a36_7) ?_
      refine wpL_q (U := NoB) rfl (q_lenRd rfl Try.underlying23 rfl (hS36.rdl 1 rfl)) ?_
      refine wpL_q (U := NoB) rfl (q_lss rfl rfl rfl) ?_
      exact ⟨a36_1, a36_4, a36_7, a36_8, a36_9, rfl, rfl⟩
    rintro f37 _ ⟨a37_1, a37_4, a37_7, a37_8, a37_9, a37_45, rfl⟩
    clear a36_1 a36_4 a36_7 a36_8 a36_9
    refine wpF_condP a37_45 (fun hlt => ?t49) (fun hlt => ?e49)
    case e49 =>
      refine wpF_exit ?_
      refine atX_here ?_
      refine wpF_seq ?_
      refine wpF_cut (fun f H => f 2 = B (decide ((((loopFault l).1) = 0) ∧ (((badL l).length : Int) = 0))) ∧ H36 = H) ?_ ?_
      · refine wpF_region ?_
        refine wpL_q (U := NoB) rfl (q_fieldAddr rfl Try.underlying27 rfl Try.sizeOf3 a37_8) ?_
        refine wpL_q (U := NoB) rfl (q_loadBlk rfl rfl Try.isAgg3 (hS36.blk 0 rfl) rfl (fun h => h)) ?_
        refine wpL_q (U := NoB) rfl (q_eql rfl rfl rfl) ?_
        refine wpL_q (U := NoB) rfl (q_move (v := B (decide (((loopFault l).1) = 0))) rfl rfl) ?_
        by_cases hg45 : ((loopFault l).1) = 0
        · have hb46 := Eq.trans rfl (congrArg B (decide_eq_true hg45))
          refine wpL_gq (U := NoB) rfl rfl rfl hb46 (q_move (v := r10) rfl a37_4) ?_
          refine wpL_gq (U := NoB) rfl rfl rfl hb46 (q_lenRd rfl Try.underlying23 rfl (hS36.rdl 3 rfl)) ?_
          refine wpL_gq (U := NoB) rfl rfl rfl hb46 (q_eql rfl rfl rfl) ?_
          refine wpL_q (U := NoB) rfl (q_pickT (v := B (decide (((badL l).length : Int) = 0))) rfl hb46 rfl) ?_
          refine wpL_q (U := NoB) rfl (q_assign (v := B (decide (((badL l).length : Int) = 0))) rfl rfl) ?_
          exact ⟨(Eq.trans rfl (congrArg B (decide_congr_of ((Iff.rfl).trans (((and_iff_right hg45).trans Iff.rfl)).symm)))), rfl⟩
        · have hb47 := Eq.trans rfl (congrArg B (decide_eq_false hg45))
          refine wpL_gs rfl rfl rfl hb47 rfl ?_
          refine wpL_gs rfl rfl rfl hb47 rfl ?_
          refine wpL_gs rfl rfl rfl hb47 rfl ?_
          refine wpL_q (U := NoB) rfl (q_pickF (v := B (false)) rfl hb47 rfl) ?_
          refine wpL_q (U := NoB) rfl (q_assign (v := B (false)) rfl rfl) ?_
          exact ⟨(Eq.trans rfl (congrArg B ((decide_eq_false (fun h => hg45 h.1)).symm))), rfl⟩
      rintro f48 _ ⟨a48_2, rfl⟩
      clear a37_1 a37_4 a37_45 a37_7 a37_8 a37_9
      refine wpF_ret ?_
      refine ⟨_, resT a48_2 resN, hS36.frame, ?_⟩
      show (B (decide ((((loopFault l).1) = 0) ∧ (((badL l).length : Int) = 0)))) = B true
      exact congrArg B (decide_eq_true ⟨by rw [hl.code], by rw [bad_nil hbn]; rfl⟩)
    have hst := comeL_st hl (by rw [← hro]; exact nth_mem (l := runsOut l) (k := i) (by omega))
    refine wpF_skip ?_
    refine wpF_seq ?_
    refine wpF_block ?_
    refine wpF_seq ?_
    obtain ⟨u39o5, huu39o5, hlu39o5⟩ := (Rd.list.1 (hS36.rdS 1 rfl)).elem i (by omega)
    have hS39o5 : St H0 NoB NoB [rdE u39o5 (nth (runsOut l) i), blkE g29 (.cells #[I ((loopFault l).1), I ((loopFault l).2)] 27), rdE r25 (runsOut l), blkE g14 (.cells #[I ((loopFault l).1), I ((loopFault l).2)] 27), rdE r10 (badL l), blkE g1 (.cells #[wa, wb, wc, wd, we] 42), rdE wa l.Low, rdE wb l.High, rdE wc l.Start, rdE wd l.Jumps, rdE we l.Bad] H36 := hS36.rd huu39o5
    refine wpF_cut (fun f H => f 1 = PT g1 0 ∧ f 4 = r10 ∧ f 7 = r25 ∧ f 8 = PT g29 0 ∧ f 9 = I ((i : Int)) ∧ f 54 = B (holdB l.Bad (nth (runsOut l) i)) ∧ St H0 NoB NoB [blkE g29 (.cells #[I ((loopFault l).1), I ((loopFault l).2)] 27), rdE r25 (runsOut l), blkE g14 (.cells #[I ((loopFault l).1), I ((loopFault l).2)] 27), rdE r10 (badL l), blkE g1 (.cells #[wa, wb, wc, wd, we] 42), rdE wa l.Low, rdE wb l.High, rdE wc l.Start, rdE wd l.Jumps, rdE we l.Bad] H) ?_ ?_
    · refine wpF_drawn [] [] (fun _ _ => False) (by kernel_rfl) (by kernel_rfl) ?_
      refine wpR_q 0 (by kernel_rfl) rfl (quietAt rfl rfl (q_fieldAddr rfl Try.underlying42 rfl Try.sizeOf22 a37_1)) ?_
      refine wpR_q 1 (by kernel_rfl) rfl (quietAt rfl rfl (q_loadBlk rfl rfl Try.isAgg22 (hS36.blk 4 rfl) rfl (labU_not [] rfl (List.forall_mem_nil _)))) ?_
      refine wpR_q 2 (by kernel_rfl) rfl (quietAt rfl rfl (q_move (v := r25) rfl a37_7)) ?_
      refine wpR_q 3 (by kernel_rfl) rfl (quietAt rfl rfl (q_move (v := I ((i : Int))) rfl a37_9)) ?_
      refine wpR_q 4 (by kernel_rfl) rfl (quietAt rfl rfl (q_indexRd (k := i) rfl Try.underlying23 el_LInt_32_HoldBad1 rfl rfl (hS36.rdl 1 rfl) (by omega) (by omega))) ?_
      refine wpR_q 5 (by kernel_rfl) rfl (quietAt rfl rfl (q_loadE rfl rfl (hlu39o5 Try.prog 32 _ el_LInt_32_HoldBad1 (labU_sub [] rfl (List.forall_mem_nil _))))) ?_
      refine wpR_n [6] (by kernel_rfl) ?_
      refine List.forall_mem_cons.2 ⟨?_, List.forall_mem_nil _⟩
      refine exE rfl rfl ?_
      refine e_call rfl Try.call33 (arr2 (v0 := we) (v1 := u39o5) rfl rfl) (Hold_R we u39o5 l.Bad (nth (runsOut l) i) (hS39o5.rdN 10 rfl) (hS39o5.rdN 0 rfl) (holdok_st hl hl.bad hst)) ?_
      rintro _ H39o6 ⟨hxx, rfl⟩
      have hS39o6 : St H0 NoB NoB [rdE u39o5 (nth (runsOut l) i), blkE g29 (.cells #[I ((loopFault l).1), I ((loopFault l).2)] 27), rdE r25 (runsOut l), blkE g14 (.cells #[I ((loopFault l).1), I ((loopFault l).2)] 27), rdE r10 (badL l), blkE g1 (.cells #[wa, wb, wc, wd, we] 42), rdE wa l.Low, rdE wb l.High, rdE wc l.Start, rdE wd l.Jumps, rdE we l.Bad] H39o6 := hS39o5.ext hxx
      refine ⟨Ext.mono hxx (fun _ h => h.elim), ?_⟩
      refine wpR_end (by kernel_rfl) ?_
      exact ⟨a37_1, a37_4, a37_7, a37_8, a37_9, rfl, (hS39o6.drop (sn (sk (sk (sk (sk (sk (sk (sk (sk (sk (sk (List.Sublist.slnil)))))))))))))⟩
    rintro f40 H40 ⟨a40_1, a40_4, a40_7, a40_8, a40_9, a40_54, hS40⟩
    clear a37_1 a37_4 a37_45 a37_7 a37_8 a37_9
    refine wpF_cond a40_54 (fun h54 => ?t44) (fun h54 => ?e44)
    case e44 =>
      refine wpF_skip ?_
      refine wpF_cut (fun f H => f 1 = PT g1 0 ∧ f 4 = r10 ∧ f 7 = r25 ∧ f 8 = PT g29 0 ∧ f 9 = I ((i : Int) + 1) ∧ H40 = H) ?_ ?_
      · refine wpF_region ?_
        refine wpL_q (U := NoB) rfl (q_move (v := I ((i : Int))) rfl a40_9) ?_
        refine wpL_q (U := NoB) rfl (q_add rfl rfl rfl (by constructor <;> omega)) ?_
        refine wpL_q (U := NoB) rfl (q_assign (v := I ((i : Int) + 1)) rfl rfl) ?_
        exact ⟨a40_1, a40_4, a40_7, a40_8, rfl, rfl⟩
      rintro f43 _ ⟨a43_1, a43_4, a43_7, a43_8, a43_9, rfl⟩
      clear a40_1 a40_4 a40_54 a40_7 a40_8 a40_9
      refine ⟨_, ?_, i + 1, rfl, (by omega), a43_1, a43_4, a43_7, a43_8, (Eq.trans a43_9 (congrArg I (by omega))), hS40⟩
      omega
    refine wpF_seq ?_
    refine wpF_cut (fun f H => f 2 = B (false) ∧ H40 = H) ?_ ?_
    · refine wpF_region ?_
      refine wpL_q (U := NoB) rfl (q_assign (v := B (false)) rfl rfl) ?_
      exact ⟨rfl, rfl⟩
    rintro f42 _ ⟨a42_2, rfl⟩
    clear a40_1 a40_4 a40_54 a40_7 a40_8 a40_9
    refine wpF_ret ?_
    refine ⟨_, resT a42_2 resN, hS40.frame, ?_⟩
    show (B (false)) = B true
    exfalso
    have := bad_none hl hbn i (by rw [← hro]; omega)
    rw [← hro] at this
    rw [this] at h54
    cases h54
  have hbt : badB l = true := by simpa using h36
  obtain ⟨r1, r2, r3, r4, r5⟩ := bad_run hl hbt
  have hidx : (((badL l).length : Int) - 1).toNat = (badL l).length - 1 := by omega
  refine wpF_skip ?_
  refine wpF_seq ?_
  refine wpF_cut (fun f H => f 1 = PT g1 0 ∧ f 4 = r10 ∧ f 10 = I (((badL l).length : Int)) ∧ H19 = H) ?_ ?_
  · refine wpF_region ?_
    refine wpL_q (U := NoB) rfl (q_move (v := r10) rfl a23_4) ?_
    refine wpL_q (U := NoB) rfl (q_lenRd rfl Try.underlying23 rfl (hS19.rdl 1 rfl)) ?_
    refine wpL_q (U := NoB) rfl (q_assign (v := I (((badL l).length : Int))) rfl rfl) ?_
    exact ⟨a23_1, a23_4, rfl, rfl⟩
  rintro f50 _ ⟨a50_1, a50_4, a50_10, rfl⟩
  clear a23_1 a23_36 a23_4
  refine wpF_seq ?_
  refine wpF_seq ?_
  have hst0 := comeL_st hl (r2 0 (by omega))
  have hstL := comeL_st hl (r2 (((badL l).length : Int) - 1).toNat (by omega))
  have hst01 := hst0.1
  have hstL1 := hstL.1
  refine wpF_cut (fun f H => f 1 = PT g1 0 ∧ f 4 = r10 ∧ f 10 = I (((badL l).length : Int)) ∧ f 104 = B (decide (((((((badL l).length : Int) = 0) ∨ (¬ (insideB l (nth (badL l) 0) = true ∧ (nth (badL l) 0).length = l.Low.length))) ∨ ((!(holdB l.Start (nth (badL l) 0))) = true)) ∨ (¬ (insideB l (nth (badL l) ((((badL l).length : Int) - 1).toNat)) = true ∧ (nth (badL l) ((((badL l).length : Int) - 1).toNat)).length = l.Low.length))) ∨ ((!(holdB l.Bad (nth (badL l) ((((badL l).length : Int) - 1).toNat)))) = true))) ∧ St H0 NoB NoB [blkE g14 (.cells #[I ((loopFault l).1), I ((loopFault l).2)] 27), rdE r10 (badL l), blkE g1 (.cells #[wa, wb, wc, wd, we] 42), rdE wa l.Low, rdE wb l.High, rdE wc l.Start, rdE wd l.Jumps, rdE we l.Bad] H) ?_ ?_
  · refine wpF_drawn [] [] (fun _ _ => False) (by kernel_rfl) (by kernel_rfl) ?_
    refine wpR_q 0 (by kernel_rfl) rfl (quietAt rfl rfl (q_move (v := I (((badL l).length : Int))) rfl a50_10)) ?_
    refine wpR_q 1 (by kernel_rfl) rfl (quietAt rfl rfl (q_eql rfl rfl rfl)) ?_
    refine wpR_q 2 (by kernel_rfl) rfl (quietAt rfl rfl (q_move (v := B (decide (((badL l).length : Int) = 0))) rfl rfl)) ?_
    by_cases hg52 : ((badL l).length : Int) = 0
    · have hb53 := Eq.trans rfl (congrArg B (decide_eq_true hg52))
      refine wpR_q 3 (by kernel_rfl) rfl (quietAt_s rfl rfl rfl rfl hb53 rfl) ?_
      refine wpR_q 4 (by kernel_rfl) rfl (quietAt_s rfl rfl rfl rfl hb53 rfl) ?_
      refine wpR_q 5 (by kernel_rfl) rfl (quietAt_s rfl rfl rfl rfl hb53 rfl) ?_
      refine wpR_q 6 (by kernel_rfl) rfl (quietAt_s rfl rfl rfl rfl hb53 rfl) ?_
      refine wpR_q 7 (by kernel_rfl) rfl (quietAt_s rfl rfl rfl rfl hb53 rfl) ?_
      refine wpR_q 8 (by kernel_rfl) rfl (quietAt_s rfl rfl rfl rfl hb53 rfl) ?_
      refine wpR_q 9 (by kernel_rfl) rfl (quietAt rfl rfl (q_pickT (v := B (true)) rfl hb53 rfl)) ?_
      refine wpR_q 10 (by kernel_rfl) rfl (quietAt rfl rfl (q_move (v := B (true)) rfl rfl)) ?_
      refine wpR_q 11 (by kernel_rfl) rfl (quietAt_s rfl rfl rfl rfl rfl rfl) ?_
      refine wpR_q 12 (by kernel_rfl) rfl (quietAt_s rfl rfl rfl rfl rfl rfl) ?_
      refine wpR_q 13 (by kernel_rfl) rfl (quietAt_s rfl rfl rfl rfl rfl rfl) ?_
      refine wpR_q 14 (by kernel_rfl) rfl (quietAt_s rfl rfl rfl rfl rfl rfl) ?_
      refine wpR_q 15 (by kernel_rfl) rfl (quietAt_s rfl rfl rfl rfl rfl rfl) ?_
      refine wpR_q 16 (by kernel_rfl) rfl (quietAt_s rfl rfl rfl rfl rfl rfl) ?_
      refine wpR_q 17 (by kernel_rfl) rfl (quietAt_s rfl rfl rfl rfl rfl rfl) ?_
      refine wpR_q 18 (by kernel_rfl) rfl (quietAt rfl rfl (q_pickT (v := B (true)) rfl rfl rfl)) ?_
      refine wpR_q 19 (by kernel_rfl) rfl (quietAt rfl rfl (q_move (v := B (true)) rfl rfl)) ?_
      refine wpR_q 20 (by kernel_rfl) rfl (quietAt_s rfl rfl rfl rfl rfl rfl) ?_
      refine wpR_q 21 (by kernel_rfl) rfl (quietAt_s rfl rfl rfl rfl rfl rfl) ?_
      refine wpR_q 22 (by kernel_rfl) rfl (quietAt_s rfl rfl rfl rfl rfl rfl) ?_
      refine wpR_q 23 (by kernel_rfl) rfl (quietAt_s rfl rfl rfl rfl rfl rfl) ?_
      refine wpR_q 24 (by kernel_rfl) rfl (quietAt_s rfl rfl rfl rfl rfl rfl) ?_
      refine wpR_q 25 (by kernel_rfl) rfl (quietAt_s rfl rfl rfl rfl rfl rfl) ?_
      refine wpR_q 26 (by kernel_rfl) rfl (quietAt_s rfl rfl rfl rfl rfl rfl) ?_
      refine wpR_q 27 (by kernel_rfl) rfl (quietAt_s rfl rfl rfl rfl rfl rfl) ?_
      refine wpR_q 28 (by kernel_rfl) rfl (quietAt rfl rfl (q_pickT (v := B (true)) rfl rfl rfl)) ?_
      refine wpR_q 29 (by kernel_rfl) rfl (quietAt rfl rfl (q_move (v := B (true)) rfl rfl)) ?_
      refine wpR_q 30 (by kernel_rfl) rfl (quietAt_s rfl rfl rfl rfl rfl rfl) ?_
      refine wpR_q 31 (by kernel_rfl) rfl (quietAt_s rfl rfl rfl rfl rfl rfl) ?_
      refine wpR_q 32 (by kernel_rfl) rfl (quietAt_s rfl rfl rfl rfl rfl rfl) ?_
      refine wpR_q 33 (by kernel_rfl) rfl (quietAt_s rfl rfl rfl rfl rfl rfl) ?_
      refine wpR_q 34 (by kernel_rfl) rfl (quietAt_s rfl rfl rfl rfl rfl rfl) ?_
      refine wpR_q 35 (by kernel_rfl) rfl (quietAt_s rfl rfl rfl rfl rfl rfl) ?_
      refine wpR_q 36 (by kernel_rfl) rfl (quietAt_s rfl rfl rfl rfl rfl rfl) ?_
      refine wpR_q 37 (by kernel_rfl) rfl (quietAt_s rfl rfl rfl rfl rfl rfl) ?_
      refine wpR_q 38 (by kernel_rfl) rfl (quietAt_s rfl rfl rfl rfl rfl rfl) ?_
      refine wpR_q 39 (by kernel_rfl) rfl (quietAt rfl rfl (q_pickT (v := B (true)) rfl rfl rfl)) ?_
      refine wpR_end (by kernel_rfl) ?_
      exact ⟨a50_1, a50_4, a50_10, (Eq.trans rfl (congrArg B ((decide_eq_true (Or.inl (Or.inl (Or.inl (Or.inl hg52))))).symm))), hS19⟩
    · have hb54 := Eq.trans rfl (congrArg B (decide_eq_false hg52))
      refine wpR_q 3 (by kernel_rfl) rfl (quietAt_g rfl rfl rfl rfl hb54 (q_loadBlkA rfl a50_1 Try.isAgg42 Try.sizeOf42 rfl (hS19.blk 2 rfl) (labU_not [] rfl (List.forall_mem_nil _)))) ?_
      refine wpR_q 4 (by kernel_rfl) rfl (quietAt_g rfl rfl rfl rfl hb54 (q_move (v := r10) rfl a50_4)) ?_
      refine wpR_q 5 (by kernel_rfl) rfl (quietAt_g rfl rfl rfl rfl hb54 (q_indexRd (k := 0) rfl Try.underlying23 el_LInt_32_HoldBad1 rfl rfl (hS19.rdl 1 rfl) (by omega) (by omega))) ?_
      obtain ⟨u51o6, huu51o6, hlu51o6⟩ := (Rd.list.1 (hS19.rdS 1 rfl)).elem 0 (by omega)
      have hS51o6 : St H0 NoB NoB [rdE u51o6 (nth (badL l) 0), blkE g14 (.cells #[I ((loopFault l).1), I ((loopFault l).2)] 27), rdE r10 (badL l), blkE g1 (.cells #[wa, wb, wc, wd, we] 42), rdE wa l.Low, rdE wb l.High, rdE wc l.Start, rdE wd l.Jumps, rdE we l.Bad] H19 := hS19.rd huu51o6
      refine wpR_q 6 (by kernel_rfl) rfl (quietAt_g rfl rfl rfl rfl hb54 (q_loadE rfl rfl (hlu51o6 Try.prog 32 _ el_LInt_32_HoldBad1 (labU_sub [] rfl (List.forall_mem_nil _))))) ?_
      refine wpR_n [7] (by kernel_rfl) ?_
      refine List.forall_mem_cons.2 ⟨?_, List.forall_mem_nil _⟩
      refine exE_g rfl rfl rfl rfl hb54 ?_
      refine e_call rfl Try.call30 (arr2 (v0 := Value.agg #[wa, wb, wc, wd, we]) (v1 := u51o6) rfl rfl) (Inside_R wa wb wc wd we u51o6 l (nth (badL l) 0) (hS51o6.rdN 4 rfl) (hS51o6.rdN 5 rfl) (hS51o6.rdN 6 rfl) (hS51o6.rdN 7 rfl) (hS51o6.rdN 8 rfl) (hS51o6.rdN 0 rfl) (by omega) (by have := hl.high; omega)) ?_
      rintro _ H51o7 ⟨hxx, rfl⟩
      have hS51o7 : St H0 NoB NoB [rdE u51o6 (nth (badL l) 0), blkE g14 (.cells #[I ((loopFault l).1), I ((loopFault l).2)] 27), rdE r10 (badL l), blkE g1 (.cells #[wa, wb, wc, wd, we] 42), rdE wa l.Low, rdE wb l.High, rdE wc l.Start, rdE wd l.Jumps, rdE we l.Bad] H51o7 := hS51o6.ext hxx
      refine ⟨Ext.mono hxx (fun _ h => h.elim), ?_⟩
      refine wpR_q 8 (by kernel_rfl) rfl (quietAt_g rfl rfl rfl rfl hb54 (q_notP rfl rfl)) ?_
      refine wpR_q 9 (by kernel_rfl) rfl (quietAt rfl rfl (q_pickF (v := B (decide (¬ (insideB l (nth (badL l) 0) = true ∧ (nth (badL l) 0).length = l.Low.length)))) rfl hb54 rfl)) ?_
      refine wpR_q 10 (by kernel_rfl) rfl (quietAt rfl rfl (q_move (v := B (decide (¬ (insideB l (nth (badL l) 0) = true ∧ (nth (badL l) 0).length = l.Low.length)))) rfl rfl)) ?_
      by_cases hg55 : ¬ (insideB l (nth (badL l) 0) = true ∧ (nth (badL l) 0).length = l.Low.length)
      · have hb56 := Eq.trans rfl (congrArg B (decide_eq_true hg55))
        refine wpR_q 11 (by kernel_rfl) rfl (quietAt_s rfl rfl rfl rfl hb56 rfl) ?_
        refine wpR_q 12 (by kernel_rfl) rfl (quietAt_s rfl rfl rfl rfl hb56 rfl) ?_
        refine wpR_q 13 (by kernel_rfl) rfl (quietAt_s rfl rfl rfl rfl hb56 rfl) ?_
        refine wpR_q 14 (by kernel_rfl) rfl (quietAt_s rfl rfl rfl rfl hb56 rfl) ?_
        refine wpR_q 15 (by kernel_rfl) rfl (quietAt_s rfl rfl rfl rfl hb56 rfl) ?_
        refine wpR_q 16 (by kernel_rfl) rfl (quietAt_s rfl rfl rfl rfl hb56 rfl) ?_
        refine wpR_q 17 (by kernel_rfl) rfl (quietAt_s rfl rfl rfl rfl hb56 rfl) ?_
        refine wpR_q 18 (by kernel_rfl) rfl (quietAt rfl rfl (q_pickT (v := B (true)) rfl hb56 rfl)) ?_
        refine wpR_q 19 (by kernel_rfl) rfl (quietAt rfl rfl (q_move (v := B (true)) rfl rfl)) ?_
        refine wpR_q 20 (by kernel_rfl) rfl (quietAt_s rfl rfl rfl rfl rfl rfl) ?_
        refine wpR_q 21 (by kernel_rfl) rfl (quietAt_s rfl rfl rfl rfl rfl rfl) ?_
        refine wpR_q 22 (by kernel_rfl) rfl (quietAt_s rfl rfl rfl rfl rfl rfl) ?_
        refine wpR_q 23 (by kernel_rfl) rfl (quietAt_s rfl rfl rfl rfl rfl rfl) ?_
        refine wpR_q 24 (by kernel_rfl) rfl (quietAt_s rfl rfl rfl rfl rfl rfl) ?_
        refine wpR_q 25 (by kernel_rfl) rfl (quietAt_s rfl rfl rfl rfl rfl rfl) ?_
        refine wpR_q 26 (by kernel_rfl) rfl (quietAt_s rfl rfl rfl rfl rfl rfl) ?_
        refine wpR_q 27 (by kernel_rfl) rfl (quietAt_s rfl rfl rfl rfl rfl rfl) ?_
        refine wpR_q 28 (by kernel_rfl) rfl (quietAt rfl rfl (q_pickT (v := B (true)) rfl rfl rfl)) ?_
        refine wpR_q 29 (by kernel_rfl) rfl (quietAt rfl rfl (q_move (v := B (true)) rfl rfl)) ?_
        refine wpR_q 30 (by kernel_rfl) rfl (quietAt_s rfl rfl rfl rfl rfl rfl) ?_
        refine wpR_q 31 (by kernel_rfl) rfl (quietAt_s rfl rfl rfl rfl rfl rfl) ?_
        refine wpR_q 32 (by kernel_rfl) rfl (quietAt_s rfl rfl rfl rfl rfl rfl) ?_
        refine wpR_q 33 (by kernel_rfl) rfl (quietAt_s rfl rfl rfl rfl rfl rfl) ?_
        refine wpR_q 34 (by kernel_rfl) rfl (quietAt_s rfl rfl rfl rfl rfl rfl) ?_
        refine wpR_q 35 (by kernel_rfl) rfl (quietAt_s rfl rfl rfl rfl rfl rfl) ?_
        refine wpR_q 36 (by kernel_rfl) rfl (quietAt_s rfl rfl rfl rfl rfl rfl) ?_
        refine wpR_q 37 (by kernel_rfl) rfl (quietAt_s rfl rfl rfl rfl rfl rfl) ?_
        refine wpR_q 38 (by kernel_rfl) rfl (quietAt_s rfl rfl rfl rfl rfl rfl) ?_
        refine wpR_q 39 (by kernel_rfl) rfl (quietAt rfl rfl (q_pickT (v := B (true)) rfl rfl rfl)) ?_
        refine wpR_end (by kernel_rfl) ?_
        exact ⟨a50_1, a50_4, a50_10, (Eq.trans rfl (congrArg B ((decide_eq_true (Or.inl (Or.inl (Or.inl (Or.inr hg55))))).symm))), (hS51o7.drop (sn (sk (sk (sk (sk (sk (sk (sk (sk (List.Sublist.slnil)))))))))))⟩
      · have hb57 := Eq.trans rfl (congrArg B (decide_eq_false hg55))
        refine wpR_q 11 (by kernel_rfl) rfl (quietAt_g rfl rfl rfl rfl hb57 (q_fieldAddr rfl Try.underlying42 rfl Try.sizeOf22 a50_1)) ?_
        refine wpR_q 12 (by kernel_rfl) rfl (quietAt_g rfl rfl rfl rfl hb57 (q_loadBlk rfl rfl Try.isAgg22 (hS51o7.blk 3 rfl) rfl (labU_not [] rfl (List.forall_mem_nil _)))) ?_
        refine wpR_q 13 (by kernel_rfl) rfl (quietAt_g rfl rfl rfl rfl hb57 (q_move (v := r10) rfl a50_4)) ?_
        refine wpR_q 14 (by kernel_rfl) rfl (quietAt_g rfl rfl rfl rfl hb57 (q_indexRd (k := 0) rfl Try.underlying23 el_LInt_32_HoldBad1 rfl rfl (hS51o7.rdl 2 rfl) (by omega) (by omega))) ?_
        obtain ⟨u51o15, huu51o15, hlu51o15⟩ := (Rd.list.1 (hS51o7.rdS 2 rfl)).elem 0 (by omega)
        have hS51o15 : St H0 NoB NoB [rdE u51o15 (nth (badL l) 0), rdE u51o6 (nth (badL l) 0), blkE g14 (.cells #[I ((loopFault l).1), I ((loopFault l).2)] 27), rdE r10 (badL l), blkE g1 (.cells #[wa, wb, wc, wd, we] 42), rdE wa l.Low, rdE wb l.High, rdE wc l.Start, rdE wd l.Jumps, rdE we l.Bad] H51o7 := hS51o7.rd huu51o15
        refine wpR_q 15 (by kernel_rfl) rfl (quietAt_g rfl rfl rfl rfl hb57 (q_loadE rfl rfl (hlu51o15 Try.prog 32 _ el_LInt_32_HoldBad1 (labU_sub [] rfl (List.forall_mem_nil _))))) ?_
        refine wpR_n [16] (by kernel_rfl) ?_
        refine List.forall_mem_cons.2 ⟨?_, List.forall_mem_nil _⟩
        refine exE_g rfl rfl rfl rfl hb57 ?_
        refine e_call rfl Try.call33 (arr2 (v0 := wc) (v1 := u51o15) rfl rfl) (Hold_R wc u51o15 l.Start (nth (badL l) 0) (hS51o15.rdN 7 rfl) (hS51o15.rdN 0 rfl) (holdok_st hl hl.start hst0)) ?_
        rintro _ H51o16 ⟨hxx, rfl⟩
        have hS51o16 : St H0 NoB NoB [rdE u51o15 (nth (badL l) 0), rdE u51o6 (nth (badL l) 0), blkE g14 (.cells #[I ((loopFault l).1), I ((loopFault l).2)] 27), rdE r10 (badL l), blkE g1 (.cells #[wa, wb, wc, wd, we] 42), rdE wa l.Low, rdE wb l.High, rdE wc l.Start, rdE wd l.Jumps, rdE we l.Bad] H51o16 := hS51o15.ext hxx
        refine ⟨Ext.mono hxx (fun _ h => h.elim), ?_⟩
        refine wpR_q 17 (by kernel_rfl) rfl (quietAt_g rfl rfl rfl rfl hb57 (q_not rfl rfl)) ?_
        refine wpR_q 18 (by kernel_rfl) rfl (quietAt rfl rfl (q_pickF (v := B (!(holdB l.Start (nth (badL l) 0)))) rfl hb57 rfl)) ?_
        refine wpR_q 19 (by kernel_rfl) rfl (quietAt rfl rfl (q_move (v := B (!(holdB l.Start (nth (badL l) 0)))) rfl rfl)) ?_
        by_cases hg58 : (!(holdB l.Start (nth (badL l) 0))) = true
        · have hb59 := Eq.trans rfl (congrArg B hg58)
          refine wpR_q 20 (by kernel_rfl) rfl (quietAt_s rfl rfl rfl rfl hb59 rfl) ?_
          refine wpR_q 21 (by kernel_rfl) rfl (quietAt_s rfl rfl rfl rfl hb59 rfl) ?_
          refine wpR_q 22 (by kernel_rfl) rfl (quietAt_s rfl rfl rfl rfl hb59 rfl) ?_
          refine wpR_q 23 (by kernel_rfl) rfl (quietAt_s rfl rfl rfl rfl hb59 rfl) ?_
          refine wpR_q 24 (by kernel_rfl) rfl (quietAt_s rfl rfl rfl rfl hb59 rfl) ?_
          refine wpR_q 25 (by kernel_rfl) rfl (quietAt_s rfl rfl rfl rfl hb59 rfl) ?_
          refine wpR_q 26 (by kernel_rfl) rfl (quietAt_s rfl rfl rfl rfl hb59 rfl) ?_
          refine wpR_q 27 (by kernel_rfl) rfl (quietAt_s rfl rfl rfl rfl hb59 rfl) ?_
          refine wpR_q 28 (by kernel_rfl) rfl (quietAt rfl rfl (q_pickT (v := B (true)) rfl hb59 rfl)) ?_
          refine wpR_q 29 (by kernel_rfl) rfl (quietAt rfl rfl (q_move (v := B (true)) rfl rfl)) ?_
          refine wpR_q 30 (by kernel_rfl) rfl (quietAt_s rfl rfl rfl rfl rfl rfl) ?_
          refine wpR_q 31 (by kernel_rfl) rfl (quietAt_s rfl rfl rfl rfl rfl rfl) ?_
          refine wpR_q 32 (by kernel_rfl) rfl (quietAt_s rfl rfl rfl rfl rfl rfl) ?_
          refine wpR_q 33 (by kernel_rfl) rfl (quietAt_s rfl rfl rfl rfl rfl rfl) ?_
          refine wpR_q 34 (by kernel_rfl) rfl (quietAt_s rfl rfl rfl rfl rfl rfl) ?_
          refine wpR_q 35 (by kernel_rfl) rfl (quietAt_s rfl rfl rfl rfl rfl rfl) ?_
          refine wpR_q 36 (by kernel_rfl) rfl (quietAt_s rfl rfl rfl rfl rfl rfl) ?_
          refine wpR_q 37 (by kernel_rfl) rfl (quietAt_s rfl rfl rfl rfl rfl rfl) ?_
          refine wpR_q 38 (by kernel_rfl) rfl (quietAt_s rfl rfl rfl rfl rfl rfl) ?_
          refine wpR_q 39 (by kernel_rfl) rfl (quietAt rfl rfl (q_pickT (v := B (true)) rfl rfl rfl)) ?_
          refine wpR_end (by kernel_rfl) ?_
          exact ⟨a50_1, a50_4, a50_10, (Eq.trans rfl (congrArg B ((decide_eq_true (Or.inl (Or.inl (Or.inr hg58)))).symm))), (hS51o16.drop (sn (sn (sk (sk (sk (sk (sk (sk (sk (sk (List.Sublist.slnil))))))))))))⟩
        · have hb60 := Eq.trans rfl (congrArg B (Bool.eq_false_iff.2 hg58))
          refine wpR_q 20 (by kernel_rfl) rfl (quietAt_g rfl rfl rfl rfl hb60 (q_loadBlkA rfl a50_1 Try.isAgg42 Try.sizeOf42 rfl (hS51o16.blk 4 rfl) (labU_not [] rfl (List.forall_mem_nil _)))) ?_
          refine wpR_q 21 (by kernel_rfl) rfl (quietAt_g rfl rfl rfl rfl hb60 (q_move (v := r10) rfl a50_4)) ?_
          refine wpR_q 22 (by kernel_rfl) rfl (quietAt_g rfl rfl rfl rfl hb60 (q_move (v := I (((badL l).length : Int))) rfl a50_10)) ?_
          refine wpR_q 23 (by kernel_rfl) rfl (quietAt_g rfl rfl rfl rfl hb60 (q_sub rfl rfl rfl (by constructor <;> omega))) ?_
          refine wpR_q 24 (by kernel_rfl) rfl (quietAt_g rfl rfl rfl rfl hb60 (q_indexRd (k := (((badL l).length : Int) - 1).toNat) rfl Try.underlying23 el_LInt_32_HoldBad1 rfl rfl (hS51o16.rdl 3 rfl) (by omega) (by omega))) ?_
          obtain ⟨u51o25, huu51o25, hlu51o25⟩ := (Rd.list.1 (hS51o16.rdS 3 rfl)).elem ((((badL l).length : Int) - 1).toNat) (by omega)
          have hS51o25 : St H0 NoB NoB [rdE u51o25 (nth (badL l) ((((badL l).length : Int) - 1).toNat)), rdE u51o15 (nth (badL l) 0), rdE u51o6 (nth (badL l) 0), blkE g14 (.cells #[I ((loopFault l).1), I ((loopFault l).2)] 27), rdE r10 (badL l), blkE g1 (.cells #[wa, wb, wc, wd, we] 42), rdE wa l.Low, rdE wb l.High, rdE wc l.Start, rdE wd l.Jumps, rdE we l.Bad] H51o16 := hS51o16.rd huu51o25
          refine wpR_q 25 (by kernel_rfl) rfl (quietAt_g rfl rfl rfl rfl hb60 (q_loadE rfl rfl (hlu51o25 Try.prog 32 _ el_LInt_32_HoldBad1 (labU_sub [] rfl (List.forall_mem_nil _))))) ?_
          refine wpR_n [26] (by kernel_rfl) ?_
          refine List.forall_mem_cons.2 ⟨?_, List.forall_mem_nil _⟩
          refine exE_g rfl rfl rfl rfl hb60 ?_
          refine e_call rfl Try.call30 (arr2 (v0 := Value.agg #[wa, wb, wc, wd, we]) (v1 := u51o25) rfl rfl) (Inside_R wa wb wc wd we u51o25 l (nth (badL l) ((((badL l).length : Int) - 1).toNat)) (hS51o25.rdN 6 rfl) (hS51o25.rdN 7 rfl) (hS51o25.rdN 8 rfl) (hS51o25.rdN 9 rfl) (hS51o25.rdN 10 rfl) (hS51o25.rdN 0 rfl) (by omega) (by have := hl.high; omega)) ?_
          rintro _ H51o26 ⟨hxx, rfl⟩
          have hS51o26 : St H0 NoB NoB [rdE u51o25 (nth (badL l) ((((badL l).length : Int) - 1).toNat)), rdE u51o15 (nth (badL l) 0), rdE u51o6 (nth (badL l) 0), blkE g14 (.cells #[I ((loopFault l).1), I ((loopFault l).2)] 27), rdE r10 (badL l), blkE g1 (.cells #[wa, wb, wc, wd, we] 42), rdE wa l.Low, rdE wb l.High, rdE wc l.Start, rdE wd l.Jumps, rdE we l.Bad] H51o26 := hS51o25.ext hxx
          refine ⟨Ext.mono hxx (fun _ h => h.elim), ?_⟩
          refine wpR_q 27 (by kernel_rfl) rfl (quietAt_g rfl rfl rfl rfl hb60 (q_notP rfl rfl)) ?_
          refine wpR_q 28 (by kernel_rfl) rfl (quietAt rfl rfl (q_pickF (v := B (decide (¬ (insideB l (nth (badL l) ((((badL l).length : Int) - 1).toNat)) = true ∧ (nth (badL l) ((((badL l).length : Int) - 1).toNat)).length = l.Low.length)))) rfl hb60 rfl)) ?_
          refine wpR_q 29 (by kernel_rfl) rfl (quietAt rfl rfl (q_move (v := B (decide (¬ (insideB l (nth (badL l) ((((badL l).length : Int) - 1).toNat)) = true ∧ (nth (badL l) ((((badL l).length : Int) - 1).toNat)).length = l.Low.length)))) rfl rfl)) ?_
          by_cases hg61 : ¬ (insideB l (nth (badL l) ((((badL l).length : Int) - 1).toNat)) = true ∧ (nth (badL l) ((((badL l).length : Int) - 1).toNat)).length = l.Low.length)
          · have hb62 := Eq.trans rfl (congrArg B (decide_eq_true hg61))
            refine wpR_q 30 (by kernel_rfl) rfl (quietAt_s rfl rfl rfl rfl hb62 rfl) ?_
            refine wpR_q 31 (by kernel_rfl) rfl (quietAt_s rfl rfl rfl rfl hb62 rfl) ?_
            refine wpR_q 32 (by kernel_rfl) rfl (quietAt_s rfl rfl rfl rfl hb62 rfl) ?_
            refine wpR_q 33 (by kernel_rfl) rfl (quietAt_s rfl rfl rfl rfl hb62 rfl) ?_
            refine wpR_q 34 (by kernel_rfl) rfl (quietAt_s rfl rfl rfl rfl hb62 rfl) ?_
            refine wpR_q 35 (by kernel_rfl) rfl (quietAt_s rfl rfl rfl rfl hb62 rfl) ?_
            refine wpR_q 36 (by kernel_rfl) rfl (quietAt_s rfl rfl rfl rfl hb62 rfl) ?_
            refine wpR_q 37 (by kernel_rfl) rfl (quietAt_s rfl rfl rfl rfl hb62 rfl) ?_
            refine wpR_q 38 (by kernel_rfl) rfl (quietAt_s rfl rfl rfl rfl hb62 rfl) ?_
            refine wpR_q 39 (by kernel_rfl) rfl (quietAt rfl rfl (q_pickT (v := B (true)) rfl hb62 rfl)) ?_
            refine wpR_end (by kernel_rfl) ?_
            exact ⟨a50_1, a50_4, a50_10, (Eq.trans rfl (congrArg B ((decide_eq_true (Or.inl (Or.inr hg61))).symm))), (hS51o26.drop (sn (sn (sn (sk (sk (sk (sk (sk (sk (sk (sk (List.Sublist.slnil)))))))))))))⟩
          · have hb63 := Eq.trans rfl (congrArg B (decide_eq_false hg61))
            refine wpR_q 30 (by kernel_rfl) rfl (quietAt_g rfl rfl rfl rfl hb63 (q_fieldAddr rfl Try.underlying42 rfl Try.sizeOf22 a50_1)) ?_
            refine wpR_q 31 (by kernel_rfl) rfl (quietAt_g rfl rfl rfl rfl hb63 (q_loadBlk rfl rfl Try.isAgg22 (hS51o26.blk 5 rfl) rfl (labU_not [] rfl (List.forall_mem_nil _)))) ?_
            refine wpR_q 32 (by kernel_rfl) rfl (quietAt_g rfl rfl rfl rfl hb63 (q_move (v := r10) rfl a50_4)) ?_
            refine wpR_q 33 (by kernel_rfl) rfl (quietAt_g rfl rfl rfl rfl hb63 (q_move (v := I (((badL l).length : Int))) rfl a50_10)) ?_
            refine wpR_q 34 (by kernel_rfl) rfl (quietAt_g rfl rfl rfl rfl hb63 (q_sub rfl rfl rfl (by constructor <;> omega))) ?_
            refine wpR_q 35 (by kernel_rfl) rfl (quietAt_g rfl rfl rfl rfl hb63 (q_indexRd (k := (((badL l).length : Int) - 1).toNat) rfl Try.underlying23 el_LInt_32_HoldBad1 rfl rfl (hS51o26.rdl 4 rfl) (by omega) (by omega))) ?_
            obtain ⟨u51o36, huu51o36, hlu51o36⟩ := (Rd.list.1 (hS51o26.rdS 4 rfl)).elem ((((badL l).length : Int) - 1).toNat) (by omega)
            have hS51o36 : St H0 NoB NoB [rdE u51o36 (nth (badL l) ((((badL l).length : Int) - 1).toNat)), rdE u51o25 (nth (badL l) ((((badL l).length : Int) - 1).toNat)), rdE u51o15 (nth (badL l) 0), rdE u51o6 (nth (badL l) 0), blkE g14 (.cells #[I ((loopFault l).1), I ((loopFault l).2)] 27), rdE r10 (badL l), blkE g1 (.cells #[wa, wb, wc, wd, we] 42), rdE wa l.Low, rdE wb l.High, rdE wc l.Start, rdE wd l.Jumps, rdE we l.Bad] H51o26 := hS51o26.rd huu51o36
            refine wpR_q 36 (by kernel_rfl) rfl (quietAt_g rfl rfl rfl rfl hb63 (q_loadE rfl rfl (hlu51o36 Try.prog 32 _ el_LInt_32_HoldBad1 (labU_sub [] rfl (List.forall_mem_nil _))))) ?_
            refine wpR_n [37] (by kernel_rfl) ?_
            refine List.forall_mem_cons.2 ⟨?_, List.forall_mem_nil _⟩
            refine exE_g rfl rfl rfl rfl hb63 ?_
            refine e_call rfl Try.call33 (arr2 (v0 := we) (v1 := u51o36) rfl rfl) (Hold_R we u51o36 l.Bad (nth (badL l) ((((badL l).length : Int) - 1).toNat)) (hS51o36.rdN 11 rfl) (hS51o36.rdN 0 rfl) (holdok_st hl hl.bad hstL)) ?_
            rintro _ H51o37 ⟨hxx, rfl⟩
            have hS51o37 : St H0 NoB NoB [rdE u51o36 (nth (badL l) ((((badL l).length : Int) - 1).toNat)), rdE u51o25 (nth (badL l) ((((badL l).length : Int) - 1).toNat)), rdE u51o15 (nth (badL l) 0), rdE u51o6 (nth (badL l) 0), blkE g14 (.cells #[I ((loopFault l).1), I ((loopFault l).2)] 27), rdE r10 (badL l), blkE g1 (.cells #[wa, wb, wc, wd, we] 42), rdE wa l.Low, rdE wb l.High, rdE wc l.Start, rdE wd l.Jumps, rdE we l.Bad] H51o37 := hS51o36.ext hxx
            refine ⟨Ext.mono hxx (fun _ h => h.elim), ?_⟩
            refine wpR_q 38 (by kernel_rfl) rfl (quietAt_g rfl rfl rfl rfl hb63 (q_not rfl rfl)) ?_
            refine wpR_q 39 (by kernel_rfl) rfl (quietAt rfl rfl (q_pickF (v := B (!(holdB l.Bad (nth (badL l) ((((badL l).length : Int) - 1).toNat))))) rfl hb63 rfl)) ?_
            refine wpR_end (by kernel_rfl) ?_
            exact ⟨a50_1, a50_4, a50_10, (Eq.trans rfl (congrArg B (bool_congr_of ((Iff.rfl).trans (((or_iff_right (not_or.2 ⟨(not_or.2 ⟨(not_or.2 ⟨hg52, hg55⟩), hg58⟩), hg61⟩)).trans Iff.rfl)).symm)))), (hS51o37.drop (sn (sn (sn (sn (sk (sk (sk (sk (sk (sk (sk (sk (List.Sublist.slnil))))))))))))))⟩
  rintro f64 H64 ⟨a64_1, a64_4, a64_10, a64_104, hS64⟩
  clear a50_1 a50_10 a50_4
  refine wpF_condP a64_104 (fun h104 => ?t146) (fun h104 => ?e146)
  case t146 =>
    refine wpF_seq ?_
    refine wpF_cut (fun f H => f 2 = B (false) ∧ H64 = H) ?_ ?_
    · refine wpF_region ?_
      refine wpL_q (U := NoB) rfl (q_assign (v := B (false)) rfl rfl) ?_
      exact ⟨rfl, rfl⟩
    rintro f66 _ ⟨a66_2, rfl⟩
    clear a64_1 a64_10 a64_104 a64_4
    refine wpF_ret ?_
    refine ⟨_, resT a66_2 resN, hS64.frame, ?_⟩
    show (B (false)) = B true
    exfalso
    rw [hidx] at h104
    have hst0 := comeL_st hl (r2 0 (by omega))
    have hstL := comeL_st hl (r2 ((badL l).length - 1) (by omega))
    rcases h104 with (((h | h) | h) | h) | h
    · omega
    · exact h ⟨hst0.2, hst0.1⟩
    · rw [r4] at h; cases h
    · exact h ⟨hstL.2, hstL.1⟩
    · rw [r5] at h; cases h
  refine wpF_skip ?_
  refine wpF_seq ?_
  refine wpF_seq ?_
  refine wpF_cut (fun f H => f 1 = PT g1 0 ∧ f 4 = r10 ∧ f 10 = I (((badL l).length : Int)) ∧ f 11 = I (1) ∧ H64 = H) ?_ ?_
  · refine wpF_region ?_
    refine wpL_q (U := NoB) rfl (q_assign (v := I (1)) rfl rfl) ?_
    exact ⟨a64_1, a64_4, a64_10, rfl, rfl⟩
  rintro f67 _ ⟨a67_1, a67_4, a67_10, a67_11, rfl⟩
  clear a64_1 a64_10 a64_104 a64_4
  refine wpF_block ?_
  refine wpF_loop (fun mz f H => ∃ (i : Nat), mz = (badL l).length - i ∧ (1 ≤ i ∧ i ≤ (badL l).length) ∧ f 1 = PT g1 0 ∧ f 4 = r10 ∧ f 10 = I (((badL l).length : Int)) ∧ f 11 = I ((i : Int)) ∧ St H0 NoB NoB [blkE g14 (.cells #[I ((loopFault l).1), I ((loopFault l).2)] 27), rdE r10 (badL l), blkE g1 (.cells #[wa, wb, wc, wd, we] 42), rdE wa l.Low, rdE wb l.High, rdE wc l.Start, rdE wd l.Jumps, rdE we l.Bad] H) ((badL l).length - 1) ?_ ?_
  · exact ⟨1, rfl, ⟨Nat.le_refl _, r1⟩, a67_1, a67_4, a67_10, (Eq.trans a67_11 (congrArg I (by omega))), hS64⟩
  intro m68 f68 H68 hI68
  obtain ⟨i, hm68, hi, a68_1, a68_4, a68_10, a68_11, hS68⟩ := hI68
  clear a67_1 a67_10 a67_11 a67_4
  refine wpF_seq ?_
  refine wpF_seq ?_
  refine wpF_cut (fun f H => f 1 = PT g1 0 ∧ f 4 = r10 ∧ f 10 = I (((badL l).length : Int)) ∧ f 11 = I ((i : Int)) ∧ f 107 = B (decide ((i : Int) < ((badL l).length : Int))) ∧ H68 = H) ?_ ?_
  · refine wpF_region ?_
    refine wpL_q (U := NoB) rfl (q_move (v := I ((i : Int))) rfl a68_11) ?_
    refine wpL_q (U := NoB) rfl (q_move (v := I (((badL l).length : Int))) rfl a68_10) ?_
    refine wpL_q (U := NoB) rfl (q_lss rfl rfl rfl) ?_
    exact ⟨a68_1, a68_4, a68_10, a68_11, rfl, rfl⟩
  rintro f69 _ ⟨a69_1, a69_4, a69_10, a69_11, a69_107, rfl⟩
  clear a68_1 a68_10 a68_11 a68_4
  refine wpF_condP a69_107 (fun hlt2 => ?t145) (fun hlt2 => ?e145)
  case t145 =>
    have hst := comeL_st hl (r2 ((i : Int) - 1).toNat (by omega))
    have hnxt := next_ok hl hst
    refine wpF_skip ?_
    refine wpF_seq ?_
    refine wpF_block ?_
    refine wpF_seq ?_
    obtain ⟨u71o5, huu71o5, hlu71o5⟩ := (Rd.list.1 (hS68.rdS 1 rfl)).elem (((i : Int) - 1).toNat) (by omega)
    have hS71o5 : St H0 NoB NoB [rdE u71o5 (nth (badL l) (((i : Int) - 1).toNat)), blkE g14 (.cells #[I ((loopFault l).1), I ((loopFault l).2)] 27), rdE r10 (badL l), blkE g1 (.cells #[wa, wb, wc, wd, we] 42), rdE wa l.Low, rdE wb l.High, rdE wc l.Start, rdE wd l.Jumps, rdE we l.Bad] H68 := hS68.rd huu71o5
    refine wpF_cut (fun f H => ∃ (r71o6 : Value), ∃ (g71o10 : Nat), f 1 = PT g1 0 ∧ f 4 = r10 ∧ f 10 = I (((badL l).length : Int)) ∧ f 11 = I ((i : Int)) ∧ f 12 = r71o6 ∧ f 13 = PT g71o10 0 ∧ St H0 NoB NoB [blkE g71o10 (.cells #[I ((nextFault l (nth (badL l) (((i : Int) - 1).toNat))).1), I ((nextFault l (nth (badL l) (((i : Int) - 1).toNat))).2)] 27), rdE r71o6 (nextOut l (nth (badL l) (((i : Int) - 1).toNat))), blkE g14 (.cells #[I ((loopFault l).1), I ((loopFault l).2)] 27), rdE r10 (badL l), blkE g1 (.cells #[wa, wb, wc, wd, we] 42), rdE wa l.Low, rdE wb l.High, rdE wc l.Start, rdE wd l.Jumps, rdE we l.Bad] H) ?_ ?_
    · refine wpF_drawn [none, none, none, none, none, none, none, none, none, none, none, none, some 0] [[], [], [], [], [], [], [], [], [], [], [], [], []] (fun l b => match l with | 0 => True | _ => False) (by kernel_rfl) (by kernel_rfl) ?_
      refine wpR_q 0 (by kernel_rfl) rfl (quietAt rfl rfl (q_loadBlkA rfl a69_1 Try.isAgg42 Try.sizeOf42 rfl (hS68.blk 2 rfl) (labU_not [] rfl (List.forall_mem_nil _)))) ?_
      refine wpR_q 1 (by kernel_rfl) rfl (quietAt rfl rfl (q_move (v := r10) rfl a69_4)) ?_
      refine wpR_q 2 (by kernel_rfl) rfl (quietAt rfl rfl (q_move (v := I ((i : Int))) rfl a69_11)) ?_
      refine wpR_q 3 (by kernel_rfl) rfl (quietAt rfl rfl (q_sub rfl rfl rfl (by constructor <;> omega))) ?_
      refine wpR_q 4 (by kernel_rfl) rfl (quietAt rfl rfl (q_indexRd (k := ((i : Int) - 1).toNat) rfl Try.underlying23 el_LInt_32_HoldBad1 rfl rfl (hS68.rdl 1 rfl) (by omega) (by omega))) ?_
      refine wpR_q 5 (by kernel_rfl) rfl (quietAt rfl rfl (q_loadE rfl rfl (hlu71o5 Try.prog 32 _ el_LInt_32_HoldBad1 (labU_sub [] rfl (List.forall_mem_nil _))))) ?_
      refine wpR_n [6, 10] (by kernel_rfl) ?_
      refine List.forall_mem_cons.2 ⟨?_, List.forall_mem_cons.2 ⟨?_, List.forall_mem_nil _⟩⟩
      · refine exE rfl rfl ?_
        refine e_call rfl Try.call25 (arr2 (v0 := Value.agg #[wa, wb, wc, wd, we]) (v1 := u71o5) rfl rfl) (Next_L wa wb wc wd we u71o5 l (nth (badL l) (((i : Int) - 1).toNat)) (hS71o5.rdS 4 rfl) (hS71o5.rdS 5 rfl) (hS71o5.rdS 6 rfl) (hS71o5.rdS 7 rfl) (hS71o5.rdS 8 rfl) (hS71o5.rdS 0 rfl) ) ?_
        rintro _ H71o6 ⟨hxx, r71o6, rfl, hrr71o6⟩
        have hS71o6 : St H0 NoB NoB [rdE r71o6 (nextOut l (nth (badL l) (((i : Int) - 1).toNat))), rdE u71o5 (nth (badL l) (((i : Int) - 1).toNat)), blkE g14 (.cells #[I ((loopFault l).1), I ((loopFault l).2)] 27), rdE r10 (badL l), blkE g1 (.cells #[wa, wb, wc, wd, we] 42), rdE wa l.Low, rdE wb l.High, rdE wc l.Start, rdE wd l.Jumps, rdE we l.Bad] H71o6 := hS71o5.res hxx hrr71o6
        refine ⟨Ext.mono hxx (fun _ h => h.elim), ?_⟩
        refine wpR_q 7 (by kernel_rfl) rfl (quietAt rfl rfl (q_move (v := Value.tuple #[r71o6, Value.agg #[I ((nextFault l (nth (badL l) (((i : Int) - 1).toNat))).1), I ((nextFault l (nth (badL l) (((i : Int) - 1).toNat))).2)]]) rfl rfl)) ?_
        refine wpR_q 8 (by kernel_rfl) rfl (quietAt rfl rfl (q_extract (vs := #[r71o6, Value.agg #[I ((nextFault l (nth (badL l) (((i : Int) - 1).toNat))).1), I ((nextFault l (nth (badL l) (((i : Int) - 1).toNat))).2)]]) (v := r71o6) rfl rfl rfl)) ?_
        refine wpR_q 9 (by kernel_rfl) rfl (quietAt rfl rfl (q_extract (vs := #[r71o6, Value.agg #[I ((nextFault l (nth (badL l) (((i : Int) - 1).toNat))).1), I ((nextFault l (nth (badL l) (((i : Int) - 1).toNat))).2)]]) (v := Value.agg #[I ((nextFault l (nth (badL l) (((i : Int) - 1).toNat))).1), I ((nextFault l (nth (badL l) (((i : Int) - 1).toNat))).2)]) rfl rfl rfl)) ?_
        refine wpR_n [10] (by kernel_rfl) ?_
        refine List.forall_mem_cons.2 ⟨?_, List.forall_mem_nil _⟩
        refine exE rfl rfl ?_
        refine e_alloc rfl Try.zeroValue27 hS71o6 (fun g71o10 H71o10 hS71o10 hxx => ?_)
        replace hS71o10 : St H0 NoB NoB [blkE g71o10 (.cells #[I (0), I (0)] 27), rdE r71o6 (nextOut l (nth (badL l) (((i : Int) - 1).toNat))), rdE u71o5 (nth (badL l) (((i : Int) - 1).toNat)), blkE g14 (.cells #[I ((loopFault l).1), I ((loopFault l).2)] 27), rdE r10 (badL l), blkE g1 (.cells #[wa, wb, wc, wd, we] 42), rdE wa l.Low, rdE wb l.High, rdE wc l.Start, rdE wd l.Jumps, rdE we l.Bad] H71o10 := hS71o10
        refine ⟨Ext.mono hxx (fun _ h => h.elim), ?_⟩
        refine wpR_q 11 (by kernel_rfl) rfl (quietAt rfl rfl (q_assign (v := r71o6) rfl rfl)) ?_
        refine wpR_n [12] (by kernel_rfl) ?_
        refine List.forall_mem_cons.2 ⟨?_, List.forall_mem_nil _⟩
        refine exE rfl rfl ?_
        refine e_storeBlkA (cs' := #[I ((nextFault l (nth (badL l) (((i : Int) - 1).toNat))).1), I ((nextFault l (nth (badL l) (((i : Int) - 1).toNat))).2)]) rfl rfl rfl Try.sizeOf27 rfl rfl (List.forall_mem_cons.2 ⟨rfl, List.forall_mem_cons.2 ⟨rfl, List.forall_mem_nil _⟩⟩) hS71o10 (fun H71o12 hS71o12 hxx => ?_)
        replace hS71o12 : St H0 NoB NoB [blkE g71o10 (.cells #[I ((nextFault l (nth (badL l) (((i : Int) - 1).toNat))).1), I ((nextFault l (nth (badL l) (((i : Int) - 1).toNat))).2)] 27), rdE r71o6 (nextOut l (nth (badL l) (((i : Int) - 1).toNat))), rdE u71o5 (nth (badL l) (((i : Int) - 1).toNat)), blkE g14 (.cells #[I ((loopFault l).1), I ((loopFault l).2)] 27), rdE r10 (badL l), blkE g1 (.cells #[wa, wb, wc, wd, we] 42), rdE wa l.Low, rdE wb l.High, rdE wc l.Start, rdE wd l.Jumps, rdE we l.Bad] H71o12 := hS71o12
        refine ⟨Ext.mono hxx (labS_of 0 rfl (fun _ _ => trivial)), ?_⟩
        refine wpR_end (by kernel_rfl) ?_
        exact ⟨r71o6, g71o10, a69_1, a69_4, a69_10, a69_11, rfl, rfl, (hS71o12.drop (sk (sk (sn (sk (sk (sk (sk (sk (sk (sk (sk (List.Sublist.slnil)))))))))))))⟩
      · refine exE rfl rfl ?_
        refine e_alloc rfl Try.zeroValue27 hS71o5 (fun g71o10 H71o10 hS71o10 hxx => ?_)
        replace hS71o10 : St H0 NoB NoB [blkE g71o10 (.cells #[I (0), I (0)] 27), rdE u71o5 (nth (badL l) (((i : Int) - 1).toNat)), blkE g14 (.cells #[I ((loopFault l).1), I ((loopFault l).2)] 27), rdE r10 (badL l), blkE g1 (.cells #[wa, wb, wc, wd, we] 42), rdE wa l.Low, rdE wb l.High, rdE wc l.Start, rdE wd l.Jumps, rdE we l.Bad] H71o10 := hS71o10
        refine ⟨Ext.mono hxx (fun _ h => h.elim), ?_⟩
        refine wpR_n [6] (by kernel_rfl) ?_
        refine List.forall_mem_cons.2 ⟨?_, List.forall_mem_nil _⟩
        refine exE rfl rfl ?_
        refine e_call rfl Try.call25 (arr2 (v0 := Value.agg #[wa, wb, wc, wd, we]) (v1 := u71o5) rfl rfl) (Next_L wa wb wc wd we u71o5 l (nth (badL l) (((i : Int) - 1).toNat)) (hS71o10.rdS 5 rfl) (hS71o10.rdS 6 rfl) (hS71o10.rdS 7 rfl) (hS71o10.rdS 8 rfl) (hS71o10.rdS 9 rfl) (hS71o10.rdS 1 rfl) ) ?_
        rintro _ H71o6 ⟨hxx, r71o6, rfl, hrr71o6⟩
        have hS71o6 : St H0 NoB NoB [rdE r71o6 (nextOut l (nth (badL l) (((i : Int) - 1).toNat))), blkE g71o10 (.cells #[I (0), I (0)] 27), rdE u71o5 (nth (badL l) (((i : Int) - 1).toNat)), blkE g14 (.cells #[I ((loopFault l).1), I ((loopFault l).2)] 27), rdE r10 (badL l), blkE g1 (.cells #[wa, wb, wc, wd, we] 42), rdE wa l.Low, rdE wb l.High, rdE wc l.Start, rdE wd l.Jumps, rdE we l.Bad] H71o6 := hS71o10.res hxx hrr71o6
        refine ⟨Ext.mono hxx (fun _ h => h.elim), ?_⟩
        refine wpR_q 7 (by kernel_rfl) rfl (quietAt rfl rfl (q_move (v := Value.tuple #[r71o6, Value.agg #[I ((nextFault l (nth (badL l) (((i : Int) - 1).toNat))).1), I ((nextFault l (nth (badL l) (((i : Int) - 1).toNat))).2)]]) rfl rfl)) ?_
        refine wpR_q 8 (by kernel_rfl) rfl (quietAt rfl rfl (q_extract (vs := #[r71o6, Value.agg #[I ((nextFault l (nth (badL l) (((i : Int) - 1).toNat))).1), I ((nextFault l (nth (badL l) (((i : Int) - 1).toNat))).2)]]) (v := r71o6) rfl rfl rfl)) ?_
        refine wpR_q 9 (by kernel_rfl) rfl (quietAt rfl rfl (q_extract (vs := #[r71o6, Value.agg #[I ((nextFault l (nth (badL l) (((i : Int) - 1).toNat))).1), I ((nextFault l (nth (badL l) (((i : Int) - 1).toNat))).2)]]) (v := Value.agg #[I ((nextFault l (nth (badL l) (((i : Int) - 1).toNat))).1), I ((nextFault l (nth (badL l) (((i : Int) - 1).toNat))).2)]) rfl rfl rfl)) ?_
        refine wpR_q 11 (by kernel_rfl) rfl (quietAt rfl rfl (q_assign (v := r71o6) rfl rfl)) ?_
        refine wpR_n [12] (by kernel_rfl) ?_
        refine List.forall_mem_cons.2 ⟨?_, List.forall_mem_nil _⟩
        refine exE rfl rfl ?_
        refine e_storeBlkA (cs' := #[I ((nextFault l (nth (badL l) (((i : Int) - 1).toNat))).1), I ((nextFault l (nth (badL l) (((i : Int) - 1).toNat))).2)]) rfl rfl rfl Try.sizeOf27 rfl rfl (List.forall_mem_cons.2 ⟨rfl, List.forall_mem_cons.2 ⟨rfl, List.forall_mem_nil _⟩⟩) (hS71o6.front 1 rfl) (fun H71o12 hS71o12 hxx => ?_)
        replace hS71o12 : St H0 NoB NoB [blkE g71o10 (.cells #[I ((nextFault l (nth (badL l) (((i : Int) - 1).toNat))).1), I ((nextFault l (nth (badL l) (((i : Int) - 1).toNat))).2)] 27), rdE r71o6 (nextOut l (nth (badL l) (((i : Int) - 1).toNat))), rdE u71o5 (nth (badL l) (((i : Int) - 1).toNat)), blkE g14 (.cells #[I ((loopFault l).1), I ((loopFault l).2)] 27), rdE r10 (badL l), blkE g1 (.cells #[wa, wb, wc, wd, we] 42), rdE wa l.Low, rdE wb l.High, rdE wc l.Start, rdE wd l.Jumps, rdE we l.Bad] H71o12 := hS71o12
        refine ⟨Ext.mono hxx (labS_of 0 rfl (fun _ _ => trivial)), ?_⟩
        refine wpR_end (by kernel_rfl) ?_
        exact ⟨r71o6, g71o10, a69_1, a69_4, a69_10, a69_11, rfl, rfl, (hS71o12.drop (sk (sk (sn (sk (sk (sk (sk (sk (sk (sk (sk (List.Sublist.slnil)))))))))))))⟩
    rintro f72 H72 ⟨r71o6, g71o10, a72_1, a72_4, a72_10, a72_11, a72_12, a72_13, hS72⟩
    clear a69_1 a69_10 a69_107 a69_11 a69_4
    refine wpF_seq ?_
    have hnln : (nextOut l (nth (badL l) ((i : Int) - 1).toNat)).length ≤ 6 := by rw [hnxt.2]; exact Nat.le_trans (nextTo_len _) hl.jumps
    refine wpF_cut (fun f H => f 1 = PT g1 0 ∧ f 4 = r10 ∧ f 10 = I (((badL l).length : Int)) ∧ f 11 = I ((i : Int)) ∧ f 131 = B (decide ((((nextFault l (nth (badL l) (((i : Int) - 1).toNat))).1) ≠ 0) ∨ (¬ ((nth (badL l) i) ∈ (nextOut l (nth (badL l) (((i : Int) - 1).toNat))))))) ∧ St H0 NoB NoB [blkE g71o10 (.cells #[I ((nextFault l (nth (badL l) (((i : Int) - 1).toNat))).1), I ((nextFault l (nth (badL l) (((i : Int) - 1).toNat))).2)] 27), blkE g14 (.cells #[I ((loopFault l).1), I ((loopFault l).2)] 27), rdE r10 (badL l), blkE g1 (.cells #[wa, wb, wc, wd, we] 42), rdE wa l.Low, rdE wb l.High, rdE wc l.Start, rdE wd l.Jumps, rdE we l.Bad] H) ?_ ?_
    · refine wpF_region ?_
      refine wpL_q (U := NoB) rfl (q_fieldAddr rfl Try.underlying27 rfl Try.sizeOf3 a72_13) ?_
      refine wpL_q (U := NoB) rfl (q_loadBlk rfl rfl Try.isAgg3 (hS72.blk 0 rfl) rfl (fun h => h)) ?_
      refine wpL_q (U := NoB) rfl (q_neq rfl rfl rfl) ?_
      refine wpL_q (U := NoB) rfl (q_move (v := B (decide (((nextFault l (nth (badL l) (((i : Int) - 1).toNat))).1) ≠ 0))) rfl rfl) ?_
      by_cases hg73 : ((nextFault l (nth (badL l) (((i : Int) - 1).toNat))).1) ≠ 0
      · have hb74 := Eq.trans rfl (congrArg B (decide_eq_true hg73))
        refine wpL_gs rfl rfl rfl hb74 rfl ?_
        refine wpL_gs rfl rfl rfl hb74 rfl ?_
        refine wpL_gs rfl rfl rfl hb74 rfl ?_
        refine wpL_gs rfl rfl rfl hb74 rfl ?_
        refine wpL_gs rfl rfl rfl hb74 rfl ?_
        refine wpL_gs rfl rfl rfl hb74 rfl ?_
        refine wpL_gs rfl rfl rfl hb74 rfl ?_
        refine wpL_q (U := NoB) rfl (q_pickT (v := B (true)) rfl hb74 rfl) ?_
        exact ⟨a72_1, a72_4, a72_10, a72_11, (Eq.trans rfl (congrArg B ((decide_eq_true (Or.inl hg73)).symm))), (hS72.drop (sk (sn (sk (sk (sk (sk (sk (sk (sk (sk (List.Sublist.slnil))))))))))))⟩
      · have hb75 := Eq.trans rfl (congrArg B (decide_eq_false hg73))
        refine wpL_gq (U := NoB) rfl rfl rfl hb75 (q_move (v := r71o6) rfl a72_12) ?_
        refine wpL_gq (U := NoB) rfl rfl rfl hb75 (q_move (v := r10) rfl a72_4) ?_
        refine wpL_gq (U := NoB) rfl rfl rfl hb75 (q_move (v := I ((i : Int))) rfl a72_11) ?_
        refine wpL_gq (U := NoB) rfl rfl rfl hb75 (q_indexRd (k := i) rfl Try.underlying23 el_LInt_32_HoldBad1 rfl rfl (hS72.rdl 3 rfl) (by omega) (by omega)) ?_
        obtain ⟨u76, huu76, hlu76⟩ := (Rd.list.1 (hS72.rdS 3 rfl)).elem i (by omega)
        have hS77 : St H0 NoB NoB [rdE u76 (nth (badL l) i), blkE g71o10 (.cells #[I ((nextFault l (nth (badL l) (((i : Int) - 1).toNat))).1), I ((nextFault l (nth (badL l) (((i : Int) - 1).toNat))).2)] 27), rdE r71o6 (nextOut l (nth (badL l) (((i : Int) - 1).toNat))), blkE g14 (.cells #[I ((loopFault l).1), I ((loopFault l).2)] 27), rdE r10 (badL l), blkE g1 (.cells #[wa, wb, wc, wd, we] 42), rdE wa l.Low, rdE wb l.High, rdE wc l.Start, rdE wd l.Jumps, rdE we l.Bad] H72 := hS72.rd huu76
        refine wpL_gq (U := NoB) rfl rfl rfl hb75 (q_loadE rfl rfl (hlu76 Try.prog 32 _ el_LInt_32_HoldBad1 (fun _ h => False.elim h))) ?_
        refine wpL_go rfl rfl rfl hb75 ?_
        refine e_call rfl Try.call35 (arr2 (v0 := r71o6) (v1 := u76) rfl rfl) (Is_R r71o6 u76 (nextOut l (nth (badL l) (((i : Int) - 1).toNat))) (nth (badL l) i) (hS77.rdN 2 rfl) (hS77.rdN 0 rfl) ) ?_
        rintro _ H78 ⟨hxx, rfl⟩
        have hS79 : St H0 NoB NoB [rdE u76 (nth (badL l) i), blkE g71o10 (.cells #[I ((nextFault l (nth (badL l) (((i : Int) - 1).toNat))).1), I ((nextFault l (nth (badL l) (((i : Int) - 1).toNat))).2)] 27), rdE r71o6 (nextOut l (nth (badL l) (((i : Int) - 1).toNat))), blkE g14 (.cells #[I ((loopFault l).1), I ((loopFault l).2)] 27), rdE r10 (badL l), blkE g1 (.cells #[wa, wb, wc, wd, we] 42), rdE wa l.Low, rdE wb l.High, rdE wc l.Start, rdE wd l.Jumps, rdE we l.Bad] H78 := hS77.ext hxx
        refine wpL_gq (U := NoB) rfl rfl rfl hb75 (q_notP rfl rfl) ?_
        refine wpL_q (U := NoB) rfl (q_pickF (v := B (decide (¬ ((nth (badL l) i) ∈ (nextOut l (nth (badL l) (((i : Int) - 1).toNat))))))) rfl hb75 rfl) ?_
        exact ⟨a72_1, a72_4, a72_10, a72_11, (Eq.trans rfl (congrArg B (decide_congr_of (((not_congr Iff.rfl)).trans (((or_iff_right hg73).trans (not_congr Iff.rfl))).symm)))), (hS79.drop (sn (sk (sn (sk (sk (sk (sk (sk (sk (sk (sk (List.Sublist.slnil)))))))))))))⟩
    rintro f81 H81 ⟨a81_1, a81_4, a81_10, a81_11, a81_131, hS81⟩
    clear a72_1 a72_10 a72_11 a72_12 a72_13 a72_4
    refine wpF_condP a81_131 (fun h131 => ?t85) (fun h131 => ?e85)
    case e85 =>
      refine wpF_skip ?_
      refine wpF_cut (fun f H => f 1 = PT g1 0 ∧ f 4 = r10 ∧ f 10 = I (((badL l).length : Int)) ∧ f 11 = I ((i : Int) + 1) ∧ H81 = H) ?_ ?_
      · refine wpF_region ?_
        refine wpL_q (U := NoB) rfl (q_move (v := I ((i : Int))) rfl a81_11) ?_
        refine wpL_q (U := NoB) rfl (q_add rfl rfl rfl (by constructor <;> omega)) ?_
        refine wpL_q (U := NoB) rfl (q_assign (v := I ((i : Int) + 1)) rfl rfl) ?_
        exact ⟨a81_1, a81_4, a81_10, rfl, rfl⟩
      rintro f84 _ ⟨a84_1, a84_4, a84_10, a84_11, rfl⟩
      clear a81_1 a81_10 a81_11 a81_131 a81_4
      refine ⟨_, ?_, i + 1, rfl, (by omega), a84_1, a84_4, a84_10, (Eq.trans a84_11 (congrArg I (by omega))), (hS81.drop (sn (sk (sk (sk (sk (sk (sk (sk (sk (List.Sublist.slnil)))))))))))⟩
      omega
    refine wpF_seq ?_
    refine wpF_cut (fun f H => f 2 = B (false) ∧ H81 = H) ?_ ?_
    · refine wpF_region ?_
      refine wpL_q (U := NoB) rfl (q_assign (v := B (false)) rfl rfl) ?_
      exact ⟨rfl, rfl⟩
    rintro f83 _ ⟨a83_2, rfl⟩
    clear a81_1 a81_10 a81_11 a81_131 a81_4
    refine wpF_ret ?_
    refine ⟨_, resT a83_2 resN, hS81.frame, ?_⟩
    show (B (false)) = B true
    exfalso
    rcases h131 with h | h
    · exact h (by rw [hnxt.1])
    · apply h
      rw [hnxt.2]
      have h3 := r3 ((i : Int) - 1).toNat (by omega)
      rwa [show ((i : Int) - 1).toNat + 1 = i by omega] at h3
  refine wpF_exit ?_
  refine atX_here ?_
  refine wpF_seq ?_
  refine wpF_cut (fun f H => ∃ (v86 : Value), f 1 = PT g1 0 ∧ f 10 = I (((badL l).length : Int)) ∧ f 14 = v86 ∧ St H0 NoB NoB [rowE 32 v86 (startsL l : List (List Int)), blkE g14 (.cells #[I ((loopFault l).1), I ((loopFault l).2)] 27), blkE g1 (.cells #[wa, wb, wc, wd, we] 42), rdE wa l.Low, rdE wb l.High, rdE wc l.Start, rdE wd l.Jumps, rdE we l.Bad] H) ?_ ?_
  · refine wpF_region ?_
    refine wpL_q (U := NoB) rfl (q_loadBlkA rfl a69_1 Try.isAgg42 Try.sizeOf42 rfl (hS68.blk 2 rfl) (fun h => h)) ?_
    refine wpL_o rfl ?_
    refine e_call rfl Try.call36 (arr1 (v0 := Value.agg #[wa, wb, wc, wd, we]) rfl) (Starts_R wa wb wc wd we l (hS68.rdS 3 rfl) (hS68.rdS 4 rfl) (hS68.rdS 5 rfl) (hS68.rdS 6 rfl) (hS68.rdS 7 rfl) hl) ?_
    rintro v86 H87 ⟨hxx, hok, hge⟩
    have hS88 : St H0 NoB NoB [rowE 32 v86 (startsL l : List (List Int)), blkE g14 (.cells #[I ((loopFault l).1), I ((loopFault l).2)] 27), rdE r10 (badL l), blkE g1 (.cells #[wa, wb, wc, wd, we] 42), rdE wa l.Low, rdE wb l.High, rdE wc l.Start, rdE wd l.Jumps, rdE we l.Bad] H87 := St.gotRow hS68 hxx hok hge
    refine wpL_q (U := NoB) rfl (q_assign (v := v86) rfl rfl) ?_
    exact ⟨v86, a69_1, a69_10, rfl, (hS88.drop (sk (sk (sn (sk (sk (sk (sk (sk (sk (List.Sublist.slnil)))))))))))⟩
  rintro f90 H90 ⟨v86, a90_1, a90_10, a90_14, hS90⟩
  clear a69_1 a69_10 a69_107 a69_11 a69_4
  have hS91 : St H0 NoB NoB [rdE v86 (startsL l), blkE g14 (.cells #[I ((loopFault l).1), I ((loopFault l).2)] 27), blkE g1 (.cells #[wa, wb, wc, wd, we] 42), rdE wa l.Low, rdE wb l.High, rdE wc l.Start, rdE wd l.Jumps, rdE we l.Bad] H90 := St.fin hS90
  refine wpF_seq ?_
  refine wpF_seq ?_
  refine wpF_cut (fun f H => f 1 = PT g1 0 ∧ f 10 = I (((badL l).length : Int)) ∧ f 14 = v86 ∧ f 15 = I (1) ∧ H90 = H) ?_ ?_
  · refine wpF_region ?_
    refine wpL_q (U := NoB) rfl (q_assign (v := I (1)) rfl rfl) ?_
    exact ⟨a90_1, a90_10, a90_14, rfl, rfl⟩
  rintro f92 _ ⟨a92_1, a92_10, a92_14, a92_15, rfl⟩
  clear a90_1 a90_10 a90_14
  refine wpF_block ?_
  refine wpF_loop (fun mz f H => ∃ (i : Nat), ∃ (now : List (List Int)), ∃ (vn : Value), mz = (badL l).length - i ∧ (1 ≤ i) ∧ (Lay l i now) ∧ f 1 = PT g1 0 ∧ f 10 = I (((badL l).length : Int)) ∧ f 14 = vn ∧ f 15 = I ((i : Int)) ∧ St H0 NoB NoB [rdE vn now, blkE g14 (.cells #[I ((loopFault l).1), I ((loopFault l).2)] 27), blkE g1 (.cells #[wa, wb, wc, wd, we] 42), rdE wa l.Low, rdE wb l.High, rdE wc l.Start, rdE wd l.Jumps, rdE we l.Bad] H) ((badL l).length - 1) ?_ ?_
  · exact ⟨1, startsL l, v86, rfl, Nat.le_refl _, (Lay.start hl), a92_1, a92_10, a92_14, (Eq.trans a92_15 (congrArg I (by omega))), (show St H0 NoB NoB [rdE v86 ((startsL l)), blkE g14 (.cells #[I ((loopFault l).1), I ((loopFault l).2)] 27), blkE g1 (.cells #[wa, wb, wc, wd, we] 42), rdE wa l.Low, rdE wb l.High, rdE wc l.Start, rdE wd l.Jumps, rdE we l.Bad] H90 from hS91)⟩
  intro m93 f93 H93 hI93
  obtain ⟨i, now, vn, hm93, hi, hnow, a93_1, a93_10, a93_14, a93_15, hS93⟩ := hI93
  clear a92_1 a92_10 a92_14 a92_15
  refine wpF_seq ?_
  refine wpF_seq ?_
  refine wpF_cut (fun f H => f 1 = PT g1 0 ∧ f 10 = I (((badL l).length : Int)) ∧ f 14 = vn ∧ f 15 = I ((i : Int)) ∧ f 141 = B (decide (((i : Int) < ((badL l).length : Int)) ∧ ((now.length : Int) < 200))) ∧ H93 = H) ?_ ?_
  · refine wpF_region ?_
    refine wpL_q (U := NoB) rfl (q_move (v := I ((i : Int))) rfl a93_15) ?_
    refine wpL_q (U := NoB) rfl (q_move (v := I (((badL l).length : Int))) rfl a93_10) ?_
    refine wpL_q (U := NoB) rfl (q_lss rfl rfl rfl) ?_
    refine wpL_q (U := NoB) rfl (q_move (v := B (decide ((i : Int) < ((badL l).length : Int)))) rfl rfl) ?_
    by_cases hg94 : (i : Int) < ((badL l).length : Int)
    · have hb95 := Eq.trans rfl (congrArg B (decide_eq_true hg94))
      refine wpL_gq (U := NoB) rfl rfl rfl hb95 (q_move (v := vn) rfl a93_14) ?_
      refine wpL_gq (U := NoB) rfl rfl rfl hb95 (q_lenRd rfl Try.underlying23 rfl (hS93.rdl 0 rfl)) ?_
      refine wpL_gq (U := NoB) rfl rfl rfl hb95 (q_lss rfl rfl rfl) ?_
      refine wpL_q (U := NoB) rfl (q_pickT (v := B (decide ((now.length : Int) < 200))) rfl hb95 rfl) ?_
      exact ⟨a93_1, a93_10, a93_14, a93_15, (Eq.trans rfl (congrArg B (decide_congr_of ((Iff.rfl).trans (((and_iff_right hg94).trans Iff.rfl)).symm)))), rfl⟩
    · have hb96 := Eq.trans rfl (congrArg B (decide_eq_false hg94))
      refine wpL_gs rfl rfl rfl hb96 rfl ?_
      refine wpL_gs rfl rfl rfl hb96 rfl ?_
      refine wpL_gs rfl rfl rfl hb96 rfl ?_
      refine wpL_q (U := NoB) rfl (q_pickF (v := B (false)) rfl hb96 rfl) ?_
      exact ⟨a93_1, a93_10, a93_14, a93_15, (Eq.trans rfl (congrArg B ((decide_eq_false (fun h => hg94 h.1)).symm))), rfl⟩
  rintro f97 _ ⟨a97_1, a97_10, a97_14, a97_15, a97_141, rfl⟩
  clear a93_1 a93_10 a93_14 a93_15
  refine wpF_condP a97_141 (fun h141 => ?t144) (fun h141 => ?e144)
  case e144 =>
    refine wpF_exit ?_
    refine atX_here ?_
    refine wpF_seq ?_
    refine wpF_cut (fun f H => f 2 = B (true) ∧ H93 = H) ?_ ?_
    · refine wpF_region ?_
      refine wpL_q (U := NoB) rfl (q_assign (v := B (true)) rfl rfl) ?_
      exact ⟨rfl, rfl⟩
    rintro f143 _ ⟨a143_2, rfl⟩
    clear a97_1 a97_10 a97_14 a97_141 a97_15
    refine wpF_ret ?_
    refine ⟨_, resT a143_2 resN, hS93.frame, ?_⟩
    show (B (true)) = B true
    rfl
  refine wpF_skip ?_
  refine wpF_seq ?_
  refine wpF_block ?_
  refine wpF_seq ?_
  refine wpF_cut (fun f H => f 1 = PT g1 0 ∧ f 10 = I (((badL l).length : Int)) ∧ f 14 = vn ∧ f 15 = I ((i : Int)) ∧ f 16 = (Value.slice none 0 0) ∧ H93 = H) ?_ ?_
  · refine wpF_region ?_
    refine wpL_q (U := NoB) rfl (q_assign (v := (Value.slice none 0 0)) rfl rfl) ?_
    exact ⟨a97_1, a97_10, a97_14, a97_15, rfl, rfl⟩
  rintro f99 _ ⟨a99_1, a99_10, a99_14, a99_15, a99_16, rfl⟩
  clear a97_1 a97_10 a97_14 a97_141 a97_15
  have hS100 : St H0 NoB NoB [rowE 32 (Value.slice none 0 0) ([] : List (List Int)), rdE vn now, blkE g14 (.cells #[I ((loopFault l).1), I ((loopFault l).2)] 27), blkE g1 (.cells #[wa, wb, wc, wd, we] 42), rdE wa l.Low, rdE wb l.High, rdE wc l.Start, rdE wd l.Jumps, rdE we l.Bad] H93 := hS93.row0 32
  refine wpF_seq ?_
  refine wpF_seq ?_
  refine wpF_cut (fun f H => f 1 = PT g1 0 ∧ f 10 = I (((badL l).length : Int)) ∧ f 14 = vn ∧ f 15 = I ((i : Int)) ∧ f 16 = (Value.slice none 0 0) ∧ f 17 = I (0) ∧ H93 = H) ?_ ?_
  · refine wpF_region ?_
    refine wpL_q (U := NoB) rfl (q_assign (v := I (0)) rfl rfl) ?_
    exact ⟨a99_1, a99_10, a99_14, a99_15, a99_16, rfl, rfl⟩
  rintro f101 _ ⟨a101_1, a101_10, a101_14, a101_15, a101_16, a101_17, rfl⟩
  clear a99_1 a99_10 a99_14 a99_15 a99_16
  refine wpF_block ?_
  refine wpF_loop (fun mz f H => ∃ (k : Nat), ∃ (nx : List (List Int)), ∃ (vx : Value), mz = now.length - k ∧ (k ≤ now.length) ∧ (Lay l (i + 1) nx) ∧ (nx.length ≤ 6 * k) ∧ f 1 = PT g1 0 ∧ f 10 = I (((badL l).length : Int)) ∧ f 14 = vn ∧ f 15 = I ((i : Int)) ∧ f 16 = vx ∧ f 17 = I ((k : Int)) ∧ St H0 NoB NoB [rowE 32 vx (nx : List (List Int)), rdE vn now, blkE g14 (.cells #[I ((loopFault l).1), I ((loopFault l).2)] 27), blkE g1 (.cells #[wa, wb, wc, wd, we] 42), rdE wa l.Low, rdE wb l.High, rdE wc l.Start, rdE wd l.Jumps, rdE we l.Bad] H) (now.length - 0) ?_ ?_
  · exact ⟨0, [], (Value.slice none 0 0), rfl, Nat.zero_le _, Lay.nil, (Nat.le_refl _), a101_1, a101_10, a101_14, a101_15, a101_16, (Eq.trans a101_17 (congrArg I (by omega))), (show St H0 NoB NoB [rowE 32 (Value.slice none 0 0) (([]) : List (List Int)), rdE vn now, blkE g14 (.cells #[I ((loopFault l).1), I ((loopFault l).2)] 27), blkE g1 (.cells #[wa, wb, wc, wd, we] 42), rdE wa l.Low, rdE wb l.High, rdE wc l.Start, rdE wd l.Jumps, rdE we l.Bad] H93 from hS100)⟩
  intro m102 f102 H102 hI102
  obtain ⟨k, nx, vx, hm102, hk, hnx, hnl, a102_1, a102_10, a102_14, a102_15, a102_16, a102_17, hS102⟩ := hI102
  clear a101_1 a101_10 a101_14 a101_15 a101_16 a101_17
  refine wpF_seq ?_
  refine wpF_seq ?_
  refine wpF_cut (fun f H => f 1 = PT g1 0 ∧ f 10 = I (((badL l).length : Int)) ∧ f 14 = vn ∧ f 15 = I ((i : Int)) ∧ f 16 = vx ∧ f 17 = I ((k : Int)) ∧ f 147 = B (decide ((k : Int) < (now.length : Int))) ∧ H102 = H) ?_ ?_
  · refine wpF_region ?_
    refine wpL_q (U := NoB) rfl (q_move (v := I ((k : Int))) rfl a102_17) ?_
    refine wpL_q (U := NoB) rfl (q_move (v := vn) rfl a102_14) ?_
    refine wpL_q (U := NoB) rfl (q_lenRd rfl Try.underlying23 rfl (hS102.rdl 1 rfl)) ?_
    refine wpL_q (U := NoB) rfl (q_lss rfl rfl rfl) ?_
    exact ⟨a102_1, a102_10, a102_14, a102_15, a102_16, a102_17, rfl, rfl⟩
  rintro f103 _ ⟨a103_1, a103_10, a103_14, a103_15, a103_16, a103_17, a103_147, rfl⟩
  clear a102_1 a102_10 a102_14 a102_15 a102_16 a102_17
  refine wpF_condP a103_147 (fun hlt6 => ?t142) (fun hlt6 => ?e142)
  case e142 =>
    refine wpF_exit ?_
    refine atX_here ?_
    refine wpF_cut (fun f H => f 1 = PT g1 0 ∧ f 10 = I (((badL l).length : Int)) ∧ f 14 = vx ∧ f 15 = I ((i : Int)) ∧ H102 = H) ?_ ?_
    · refine wpF_region ?_
      refine wpL_q (U := NoB) rfl (q_move (v := vx) rfl a103_16) ?_
      refine wpL_q (U := NoB) rfl (q_assign (v := vx) rfl rfl) ?_
      exact ⟨a103_1, a103_10, rfl, a103_15, rfl⟩
    rintro f139 _ ⟨a139_1, a139_10, a139_14, a139_15, rfl⟩
    clear a103_1 a103_10 a103_14 a103_147 a103_15 a103_16 a103_17
    have hS140 : St H0 NoB NoB [rdE vx nx, rdE vn now, blkE g14 (.cells #[I ((loopFault l).1), I ((loopFault l).2)] 27), blkE g1 (.cells #[wa, wb, wc, wd, we] 42), rdE wa l.Low, rdE wb l.High, rdE wc l.Start, rdE wd l.Jumps, rdE we l.Bad] H102 := St.fin hS102
    refine wpF_cut (fun f H => f 1 = PT g1 0 ∧ f 10 = I (((badL l).length : Int)) ∧ f 14 = vx ∧ f 15 = I ((i : Int) + 1) ∧ H102 = H) ?_ ?_
    · refine wpF_region ?_
      refine wpL_q (U := NoB) rfl (q_move (v := I ((i : Int))) rfl a139_15) ?_
      refine wpL_q (U := NoB) rfl (q_add rfl rfl rfl (by constructor <;> omega)) ?_
      refine wpL_q (U := NoB) rfl (q_assign (v := I ((i : Int) + 1)) rfl rfl) ?_
      exact ⟨a139_1, a139_10, a139_14, rfl, rfl⟩
    rintro f141 _ ⟨a141_1, a141_10, a141_14, a141_15, rfl⟩
    clear a139_1 a139_10 a139_14 a139_15
    refine ⟨_, ?_, i + 1, nx, vx, rfl, (by omega), hnx, a141_1, a141_10, a141_14, (Eq.trans a141_15 (congrArg I (by omega))), (hS140.drop (sk (sn (sk (sk (sk (sk (sk (sk (sk (List.Sublist.slnil)))))))))))⟩
    omega
  have hmem := nth_mem (l := now) (k := k) (by omega)
  have hst := hnow.st hl hmem
  have hnx6 : (nextL l (nth now k)).length ≤ 6 := Nat.le_trans (nextTo_len _) hl.jumps
  refine wpF_skip ?_
  refine wpF_seq ?_
  refine wpF_block ?_
  refine wpF_seq ?_
  refine wpF_seq ?_
  obtain ⟨u105o5, huu105o5, hlu105o5⟩ := (Rd.list.1 (hS102.rdS 1 rfl)).elem k (by omega)
  have hS105o5 : St H0 NoB NoB [rdE u105o5 (nth now k), rowE 32 vx (nx : List (List Int)), rdE vn now, blkE g14 (.cells #[I ((loopFault l).1), I ((loopFault l).2)] 27), blkE g1 (.cells #[wa, wb, wc, wd, we] 42), rdE wa l.Low, rdE wb l.High, rdE wc l.Start, rdE wd l.Jumps, rdE we l.Bad] H102 := hS102.rd huu105o5
  refine wpF_cut (fun f H => f 1 = PT g1 0 ∧ f 10 = I (((badL l).length : Int)) ∧ f 14 = vn ∧ f 15 = I ((i : Int)) ∧ f 16 = vx ∧ f 17 = I ((k : Int)) ∧ f 156 = B (holdB l.Bad (nth now k)) ∧ St H0 NoB NoB [rowE 32 vx (nx : List (List Int)), rdE vn now, blkE g14 (.cells #[I ((loopFault l).1), I ((loopFault l).2)] 27), blkE g1 (.cells #[wa, wb, wc, wd, we] 42), rdE wa l.Low, rdE wb l.High, rdE wc l.Start, rdE wd l.Jumps, rdE we l.Bad] H) ?_ ?_
  · refine wpF_drawn [] [] (fun _ _ => False) (by kernel_rfl) (by kernel_rfl) ?_
    refine wpR_q 0 (by kernel_rfl) rfl (quietAt rfl rfl (q_fieldAddr rfl Try.underlying42 rfl Try.sizeOf22 a103_1)) ?_
    refine wpR_q 1 (by kernel_rfl) rfl (quietAt rfl rfl (q_loadBlk rfl rfl Try.isAgg22 (hS102.blk 3 rfl) rfl (labU_not [] rfl (List.forall_mem_nil _)))) ?_
    refine wpR_q 2 (by kernel_rfl) rfl (quietAt rfl rfl (q_move (v := vn) rfl a103_14)) ?_
    refine wpR_q 3 (by kernel_rfl) rfl (quietAt rfl rfl (q_move (v := I ((k : Int))) rfl a103_17)) ?_
    refine wpR_q 4 (by kernel_rfl) rfl (quietAt rfl rfl (q_indexRd (k := k) rfl Try.underlying23 el_LInt_32_HoldBad1 rfl rfl (hS102.rdl 1 rfl) (by omega) (by omega))) ?_
    refine wpR_q 5 (by kernel_rfl) rfl (quietAt rfl rfl (q_loadE rfl rfl (hlu105o5 Try.prog 32 _ el_LInt_32_HoldBad1 (labU_sub [] rfl (List.forall_mem_nil _))))) ?_
    refine wpR_n [6] (by kernel_rfl) ?_
    refine List.forall_mem_cons.2 ⟨?_, List.forall_mem_nil _⟩
    refine exE rfl rfl ?_
    refine e_call rfl Try.call33 (arr2 (v0 := we) (v1 := u105o5) rfl rfl) (Hold_R we u105o5 l.Bad (nth now k) (hS105o5.rdN 9 rfl) (hS105o5.rdN 0 rfl) (holdok_st hl hl.bad hst)) ?_
    rintro _ H105o6 ⟨hxx, rfl⟩
    have hS105o6 : St H0 NoB NoB [rdE u105o5 (nth now k), rowE 32 vx (nx : List (List Int)), rdE vn now, blkE g14 (.cells #[I ((loopFault l).1), I ((loopFault l).2)] 27), blkE g1 (.cells #[wa, wb, wc, wd, we] 42), rdE wa l.Low, rdE wb l.High, rdE wc l.Start, rdE wd l.Jumps, rdE we l.Bad] H105o6 := hS105o5.ext hxx
    refine ⟨Ext.mono hxx (fun _ h => h.elim), ?_⟩
    refine wpR_end (by kernel_rfl) ?_
    exact ⟨a103_1, a103_10, a103_14, a103_15, a103_16, a103_17, rfl, (hS105o6.drop (sn (sk (sk (sk (sk (sk (sk (sk (sk (sk (List.Sublist.slnil))))))))))))⟩
  rintro f106 H106 ⟨a106_1, a106_10, a106_14, a106_15, a106_16, a106_17, a106_156, hS106⟩
  clear a103_1 a103_10 a103_14 a103_147 a103_15 a103_16 a103_17
  refine wpF_cond a106_156 (fun h156 => ?t138) (fun h156 => ?e138)
  case t138 =>
    refine wpF_seq ?_
    refine wpF_cut (fun f H => f 2 = B (false) ∧ H106 = H) ?_ ?_
    · refine wpF_region ?_
      refine wpL_q (U := NoB) rfl (q_assign (v := B (false)) rfl rfl) ?_
      exact ⟨rfl, rfl⟩
    rintro f108 _ ⟨a108_2, rfl⟩
    clear a106_1 a106_10 a106_14 a106_15 a106_156 a106_16 a106_17
    refine wpF_ret ?_
    refine ⟨_, resT a108_2 resN, hS106.frame, ?_⟩
    show (B (false)) = B true
    exfalso
    rw [bad_short hl hbt hnow hmem (by omega)] at h156
    cases h156
  refine wpF_skip ?_
  refine wpF_seq ?_
  obtain ⟨u109o4, huu109o4, hlu109o4⟩ := (Rd.list.1 (hS106.rdS 1 rfl)).elem k (by omega)
  have hS109o4 : St H0 NoB NoB [rdE u109o4 (nth now k), rowE 32 vx (nx : List (List Int)), rdE vn now, blkE g14 (.cells #[I ((loopFault l).1), I ((loopFault l).2)] 27), blkE g1 (.cells #[wa, wb, wc, wd, we] 42), rdE wa l.Low, rdE wb l.High, rdE wc l.Start, rdE wd l.Jumps, rdE we l.Bad] H106 := hS106.rd huu109o4
  refine wpF_cut (fun f H => ∃ (r109o5 : Value), f 1 = PT g1 0 ∧ f 10 = I (((badL l).length : Int)) ∧ f 14 = vn ∧ f 15 = I ((i : Int)) ∧ f 16 = vx ∧ f 17 = I ((k : Int)) ∧ f 18 = r109o5 ∧ St H0 NoB NoB [rdE r109o5 (nextL l (nth now k)), rowE 32 vx (nx : List (List Int)), rdE vn now, blkE g14 (.cells #[I ((loopFault l).1), I ((loopFault l).2)] 27), blkE g1 (.cells #[wa, wb, wc, wd, we] 42), rdE wa l.Low, rdE wb l.High, rdE wc l.Start, rdE wd l.Jumps, rdE we l.Bad] H) ?_ ?_
  · refine wpF_drawn [] [] (fun _ _ => False) (by kernel_rfl) (by kernel_rfl) ?_
    refine wpR_q 0 (by kernel_rfl) rfl (quietAt rfl rfl (q_loadBlkA rfl a106_1 Try.isAgg42 Try.sizeOf42 rfl (hS106.blk 3 rfl) (labU_not [] rfl (List.forall_mem_nil _)))) ?_
    refine wpR_q 1 (by kernel_rfl) rfl (quietAt rfl rfl (q_move (v := vn) rfl a106_14)) ?_
    refine wpR_q 2 (by kernel_rfl) rfl (quietAt rfl rfl (q_move (v := I ((k : Int))) rfl a106_17)) ?_
    refine wpR_q 3 (by kernel_rfl) rfl (quietAt rfl rfl (q_indexRd (k := k) rfl Try.underlying23 el_LInt_32_HoldBad1 rfl rfl (hS106.rdl 1 rfl) (by omega) (by omega))) ?_
    refine wpR_q 4 (by kernel_rfl) rfl (quietAt rfl rfl (q_loadE rfl rfl (hlu109o4 Try.prog 32 _ el_LInt_32_HoldBad1 (labU_sub [] rfl (List.forall_mem_nil _))))) ?_
    refine wpR_n [5] (by kernel_rfl) ?_
    refine List.forall_mem_cons.2 ⟨?_, List.forall_mem_nil _⟩
    refine exE rfl rfl ?_
    refine e_call rfl Try.call31 (arr2 (v0 := Value.agg #[wa, wb, wc, wd, we]) (v1 := u109o4) rfl rfl) (Next_R wa wb wc wd we u109o4 l (nth now k) (hS109o4.rdS 5 rfl) (hS109o4.rdS 6 rfl) (hS109o4.rdS 7 rfl) (hS109o4.rdS 8 rfl) (hS109o4.rdS 9 rfl) (hS109o4.rdS 0 rfl) hl hst.1 (inside_small hl hst.1 hst.2)) ?_
    rintro r109o5 H109o5 ⟨hxx, hrr109o5⟩
    have hS109o5 : St H0 NoB NoB [rdE r109o5 (nextL l (nth now k)), rdE u109o4 (nth now k), rowE 32 vx (nx : List (List Int)), rdE vn now, blkE g14 (.cells #[I ((loopFault l).1), I ((loopFault l).2)] 27), blkE g1 (.cells #[wa, wb, wc, wd, we] 42), rdE wa l.Low, rdE wb l.High, rdE wc l.Start, rdE wd l.Jumps, rdE we l.Bad] H109o5 := hS109o4.res hxx hrr109o5
    refine ⟨Ext.mono hxx (fun _ h => h.elim), ?_⟩
    refine wpR_q 6 (by kernel_rfl) rfl (quietAt rfl rfl (q_assign (v := r109o5) rfl rfl)) ?_
    refine wpR_end (by kernel_rfl) ?_
    exact ⟨r109o5, a106_1, a106_10, a106_14, a106_15, a106_16, a106_17, rfl, (hS109o5.drop (sk (sn (sk (sk (sk (sk (sk (sk (sk (sk (sk (List.Sublist.slnil)))))))))))))⟩
  rintro f110 H110 ⟨r109o5, a110_1, a110_10, a110_14, a110_15, a110_16, a110_17, a110_18, hS110⟩
  clear a106_1 a106_10 a106_14 a106_15 a106_156 a106_16 a106_17
  refine wpF_seq ?_
  refine wpF_cut (fun f H => f 1 = PT g1 0 ∧ f 10 = I (((badL l).length : Int)) ∧ f 14 = vn ∧ f 15 = I ((i : Int)) ∧ f 16 = vx ∧ f 17 = I ((k : Int)) ∧ f 18 = r109o5 ∧ f 19 = I (0) ∧ H110 = H) ?_ ?_
  · refine wpF_region ?_
    refine wpL_q (U := NoB) rfl (q_assign (v := I (0)) rfl rfl) ?_
    exact ⟨a110_1, a110_10, a110_14, a110_15, a110_16, a110_17, a110_18, rfl, rfl⟩
  rintro f111 _ ⟨a111_1, a111_10, a111_14, a111_15, a111_16, a111_17, a111_18, a111_19, rfl⟩
  clear a110_1 a110_10 a110_14 a110_15 a110_16 a110_17 a110_18
  refine wpF_block ?_
  refine wpF_loop (fun mz f H => ∃ (x : Nat), ∃ (ny : List (List Int)), ∃ (vy : Value), mz = (nextL l (nth now k)).length - x ∧ (x ≤ (nextL l (nth now k)).length) ∧ (Lay l (i + 1) ny) ∧ (ny.length ≤ 6 * k + x) ∧ f 1 = PT g1 0 ∧ f 10 = I (((badL l).length : Int)) ∧ f 14 = vn ∧ f 15 = I ((i : Int)) ∧ f 16 = vy ∧ f 17 = I ((k : Int)) ∧ f 18 = r109o5 ∧ f 19 = I ((x : Int)) ∧ St H0 NoB NoB [rowE 32 vy (ny : List (List Int)), rdE r109o5 (nextL l (nth now k)), rdE vn now, blkE g14 (.cells #[I ((loopFault l).1), I ((loopFault l).2)] 27), blkE g1 (.cells #[wa, wb, wc, wd, we] 42), rdE wa l.Low, rdE wb l.High, rdE wc l.Start, rdE wd l.Jumps, rdE we l.Bad] H) ((nextL l (nth now k)).length - 0) ?_ ?_
  · exact ⟨0, nx, vx, rfl, Nat.zero_le _, hnx, hnl, a111_1, a111_10, a111_14, a111_15, a111_16, a111_17, a111_18, (Eq.trans a111_19 (congrArg I (by omega))), (St.drop (show St H0 NoB NoB [rowE 32 vx (nx : List (List Int)), rdE r109o5 (nextL l (nth now k)), rdE vn now, blkE g14 (.cells #[I ((loopFault l).1), I ((loopFault l).2)] 27), blkE g1 (.cells #[wa, wb, wc, wd, we] 42), rdE wa l.Low, rdE wb l.High, rdE wc l.Start, rdE wd l.Jumps, rdE we l.Bad] H110 from (hS110.front 1 rfl)) (sk (sk (sk (sk (sk (sk (sk (sk (sk (sk (List.Sublist.slnil))))))))))))⟩
  intro m112 f112 H112 hI112
  obtain ⟨x, ny, vy, hm112, hx, hny, hyl, a112_1, a112_10, a112_14, a112_15, a112_16, a112_17, a112_18, a112_19, hS112⟩ := hI112
  clear a111_1 a111_10 a111_14 a111_15 a111_16 a111_17 a111_18 a111_19
  refine wpF_seq ?_
  refine wpF_seq ?_
  refine wpF_cut (fun f H => f 1 = PT g1 0 ∧ f 10 = I (((badL l).length : Int)) ∧ f 14 = vn ∧ f 15 = I ((i : Int)) ∧ f 16 = vy ∧ f 17 = I ((k : Int)) ∧ f 18 = r109o5 ∧ f 19 = I ((x : Int)) ∧ f 166 = B (decide ((x : Int) < ((nextL l (nth now k)).length : Int))) ∧ H112 = H) ?_ ?_
  · refine wpF_region ?_
    refine wpL_q (U := NoB) rfl (q_move (v := I ((x : Int))) rfl a112_19) ?_
    refine wpL_q (U := NoB) rfl (q_move (v := r109o5) rfl a112_18) ?_
    refine wpL_q (U := NoB) rfl (q_lenRd rfl Try.underlying23 rfl (hS112.rdl 1 rfl)) ?_
    refine wpL_q (U := NoB) rfl (q_lss rfl rfl rfl) ?_
    exact ⟨a112_1, a112_10, a112_14, a112_15, a112_16, a112_17, a112_18, a112_19, rfl, rfl⟩
  rintro f113 _ ⟨a113_1, a113_10, a113_14, a113_15, a113_16, a113_17, a113_18, a113_19, a113_166, rfl⟩
  clear a112_1 a112_10 a112_14 a112_15 a112_16 a112_17 a112_18 a112_19
  refine wpF_condP a113_166 (fun hlt8 => ?t137) (fun hlt8 => ?e137)
  case e137 =>
    refine wpF_exit ?_
    refine atX_here ?_
    refine wpF_cut (fun f H => f 1 = PT g1 0 ∧ f 10 = I (((badL l).length : Int)) ∧ f 14 = vn ∧ f 15 = I ((i : Int)) ∧ f 16 = vy ∧ f 17 = I ((k : Int) + 1) ∧ H112 = H) ?_ ?_
    · refine wpF_region ?_
      refine wpL_q (U := NoB) rfl (q_move (v := I ((k : Int))) rfl a113_17) ?_
      refine wpL_q (U := NoB) rfl (q_add rfl rfl rfl (by constructor <;> omega)) ?_
      refine wpL_q (U := NoB) rfl (q_assign (v := I ((k : Int) + 1)) rfl rfl) ?_
      exact ⟨a113_1, a113_10, a113_14, a113_15, a113_16, rfl, rfl⟩
    rintro f136 _ ⟨a136_1, a136_10, a136_14, a136_15, a136_16, a136_17, rfl⟩
    clear a113_1 a113_10 a113_14 a113_15 a113_16 a113_166 a113_17 a113_18 a113_19
    refine ⟨_, ?_, k + 1, ny, vy, rfl, (by omega), hny, (by omega), a136_1, a136_10, a136_14, a136_15, a136_16, (Eq.trans a136_17 (congrArg I (by omega))), (hS112.drop (sk (sn (sk (sk (sk (sk (sk (sk (sk (sk (List.Sublist.slnil))))))))))))⟩
    omega
  refine wpF_skip ?_
  refine wpF_seq ?_
  refine wpF_block ?_
  refine wpF_seq ?_
  obtain ⟨u115, huu115, hlu115⟩ := (Rd.list.1 (hS112.rdS 1 rfl)).elem x (by omega)
  have hS116 : St H0 NoB NoB [rdE u115 (nth (nextL l (nth now k)) x), rowE 32 vy (ny : List (List Int)), rdE r109o5 (nextL l (nth now k)), rdE vn now, blkE g14 (.cells #[I ((loopFault l).1), I ((loopFault l).2)] 27), blkE g1 (.cells #[wa, wb, wc, wd, we] 42), rdE wa l.Low, rdE wb l.High, rdE wc l.Start, rdE wd l.Jumps, rdE we l.Bad] H112 := hS112.rd huu115
  refine wpF_cut (fun f H => f 1 = PT g1 0 ∧ f 10 = I (((badL l).length : Int)) ∧ f 14 = vn ∧ f 15 = I ((i : Int)) ∧ f 16 = vy ∧ f 17 = I ((k : Int)) ∧ f 18 = r109o5 ∧ f 19 = I ((x : Int)) ∧ f 175 = B (decide (¬ ((nth (nextL l (nth now k)) x) ∈ ny))) ∧ St H0 NoB NoB [rowE 32 vy (ny : List (List Int)), rdE r109o5 (nextL l (nth now k)), rdE vn now, blkE g14 (.cells #[I ((loopFault l).1), I ((loopFault l).2)] 27), blkE g1 (.cells #[wa, wb, wc, wd, we] 42), rdE wa l.Low, rdE wb l.High, rdE wc l.Start, rdE wd l.Jumps, rdE we l.Bad] H) ?_ ?_
  · refine wpF_region ?_
    refine wpL_q (U := NoB) rfl (q_move (v := vy) rfl a113_16) ?_
    refine wpL_q (U := NoB) rfl (q_move (v := r109o5) rfl a113_18) ?_
    refine wpL_q (U := NoB) rfl (q_move (v := I ((x : Int))) rfl a113_19) ?_
    refine wpL_q (U := NoB) rfl (q_indexRd (k := x) rfl Try.underlying23 el_LInt_32_HoldBad1 rfl rfl (hS112.rdl 1 rfl) (by omega) (by omega)) ?_
    refine wpL_q (U := NoB) rfl (q_loadE rfl rfl (hlu115 Try.prog 32 _ el_LInt_32_HoldBad1 (fun _ h => False.elim h))) ?_
    refine wpL_o rfl ?_
    refine e_call rfl Try.call35 (arr2 (v0 := vy) (v1 := u115) rfl rfl) (Is_R vy u115 ny (nth (nextL l (nth now k)) x) (hS116.rowN 1 rfl) (hS116.rdN 0 rfl) ) ?_
    rintro _ H117 ⟨hxx, rfl⟩
    have hS118 : St H0 NoB NoB [rdE u115 (nth (nextL l (nth now k)) x), rowE 32 vy (ny : List (List Int)), rdE r109o5 (nextL l (nth now k)), rdE vn now, blkE g14 (.cells #[I ((loopFault l).1), I ((loopFault l).2)] 27), blkE g1 (.cells #[wa, wb, wc, wd, we] 42), rdE wa l.Low, rdE wb l.High, rdE wc l.Start, rdE wd l.Jumps, rdE we l.Bad] H117 := hS116.ext hxx
    refine wpL_q (U := NoB) rfl (q_notP rfl rfl) ?_
    exact ⟨a113_1, a113_10, a113_14, a113_15, a113_16, a113_17, a113_18, a113_19, rfl, (hS118.drop (sn (sk (sk (sk (sk (sk (sk (sk (sk (sk (sk (List.Sublist.slnil)))))))))))))⟩
  rintro f120 H120 ⟨a120_1, a120_10, a120_14, a120_15, a120_16, a120_17, a120_18, a120_19, a120_175, hS120⟩
  clear a113_1 a113_10 a113_14 a113_15 a113_16 a113_166 a113_17 a113_18 a113_19
  refine wpF_condP a120_175 (fun h175 => ?t135) (fun h175 => ?e135)
  case e135 =>
    refine wpF_skip ?_
    refine wpF_cut (fun f H => f 1 = PT g1 0 ∧ f 10 = I (((badL l).length : Int)) ∧ f 14 = vn ∧ f 15 = I ((i : Int)) ∧ f 16 = vy ∧ f 17 = I ((k : Int)) ∧ f 18 = r109o5 ∧ f 19 = I ((x : Int) + 1) ∧ H120 = H) ?_ ?_
    · refine wpF_region ?_
      refine wpL_q (U := NoB) rfl (q_move (v := I ((x : Int))) rfl a120_19) ?_
      refine wpL_q (U := NoB) rfl (q_add rfl rfl rfl (by constructor <;> omega)) ?_
      refine wpL_q (U := NoB) rfl (q_assign (v := I ((x : Int) + 1)) rfl rfl) ?_
      exact ⟨a120_1, a120_10, a120_14, a120_15, a120_16, a120_17, a120_18, rfl, rfl⟩
    rintro f134 _ ⟨a134_1, a134_10, a134_14, a134_15, a134_16, a134_17, a134_18, a134_19, rfl⟩
    clear a120_1 a120_10 a120_14 a120_15 a120_16 a120_17 a120_175 a120_18 a120_19
    refine ⟨_, ?_, x + 1, ny, vy, rfl, (by omega), hny, (by omega), a134_1, a134_10, a134_14, a134_15, a134_16, a134_17, a134_18, (Eq.trans a134_19 (congrArg I (by omega))), hS120⟩
    omega
  obtain ⟨u122, huu122, hlu122⟩ := (Rd.list.1 (hS120.rdS 1 rfl)).elem x (by omega)
  have hS123 : St H0 NoB NoB [rdE u122 (nth (nextL l (nth now k)) x), rowE 32 vy (ny : List (List Int)), rdE r109o5 (nextL l (nth now k)), rdE vn now, blkE g14 (.cells #[I ((loopFault l).1), I ((loopFault l).2)] 27), blkE g1 (.cells #[wa, wb, wc, wd, we] 42), rdE wa l.Low, rdE wb l.High, rdE wc l.Start, rdE wd l.Jumps, rdE we l.Bad] H120 := hS120.rd huu122
  refine wpF_cut (fun f H => ∃ (v129 : Value), f 1 = PT g1 0 ∧ f 10 = I (((badL l).length : Int)) ∧ f 14 = vn ∧ f 15 = I ((i : Int)) ∧ f 16 = v129 ∧ f 17 = I ((k : Int)) ∧ f 18 = r109o5 ∧ f 19 = I ((x : Int)) ∧ St H0 NoB NoB [rowE 32 v129 (ny ++ ([nth (nextL l (nth now k)) x]) : List (List Int)), rdE r109o5 (nextL l (nth now k)), rdE vn now, blkE g14 (.cells #[I ((loopFault l).1), I ((loopFault l).2)] 27), blkE g1 (.cells #[wa, wb, wc, wd, we] 42), rdE wa l.Low, rdE wb l.High, rdE wc l.Start, rdE wd l.Jumps, rdE we l.Bad] H) ?_ ?_
  · refine wpF_region ?_
    refine wpL_q (U := NoB) rfl (q_move (v := vy) rfl a120_16) ?_
    refine wpL_q (U := NoB) rfl (q_move (v := r109o5) rfl a120_18) ?_
    refine wpL_q (U := NoB) rfl (q_move (v := I ((x : Int))) rfl a120_19) ?_
    refine wpL_q (U := NoB) rfl (q_indexRd (k := x) rfl Try.underlying23 el_LInt_32_HoldBad1 rfl rfl (hS120.rdl 1 rfl) (by omega) (by omega)) ?_
    refine wpL_q (U := NoB) rfl (q_loadE rfl rfl (hlu122 Try.prog 32 _ el_LInt_32_HoldBad1 (fun _ h => False.elim h))) ?_
    refine wpL_o rfl ?_
    refine e_buildSlice (vs := [u122]) (xs := ([nth (nextL l (nth now k)) x] : List (List Int))) rfl Try.underlying23 Try.zeroValue32 rfl Try.sizeOf32 (par1 (v0 := u122) rfl) rfl hS123 (RdVs.cons (hS123.rdS 0 rfl) (RdVs.nil)) (by decide) (by decide) (fun v124 H125 hS126 hxx hvv124 => ?_)
    replace hS126 : St H0 NoB NoB [rowE 32 v124 ([nth (nextL l (nth now k)) x] : List (List Int)), rdE u122 (nth (nextL l (nth now k)) x), rowE 32 vy (ny : List (List Int)), rdE r109o5 (nextL l (nth now k)), rdE vn now, blkE g14 (.cells #[I ((loopFault l).1), I ((loopFault l).2)] 27), blkE g1 (.cells #[wa, wb, wc, wd, we] 42), rdE wa l.Low, rdE wb l.High, rdE wc l.Start, rdE wd l.Jumps, rdE we l.Bad] H125 := hS126
    have hS127 : St H0 NoB NoB [rdE v124 ([nth (nextL l (nth now k)) x] : List (List Int)), rdE u122 (nth (nextL l (nth now k)) x), rowE 32 vy (ny : List (List Int)), rdE r109o5 (nextL l (nth now k)), rdE vn now, blkE g14 (.cells #[I ((loopFault l).1), I ((loopFault l).2)] 27), blkE g1 (.cells #[wa, wb, wc, wd, we] 42), rdE wa l.Low, rdE wb l.High, rdE wc l.Start, rdE wd l.Jumps, rdE we l.Bad] H125 := St.fin hS126
    have hS128 : St H0 NoB NoB [rowE 32 vy (ny : List (List Int)), rdE v124 ([nth (nextL l (nth now k)) x] : List (List Int)), rdE u122 (nth (nextL l (nth now k)) x), rdE r109o5 (nextL l (nth now k)), rdE vn now, blkE g14 (.cells #[I ((loopFault l).1), I ((loopFault l).2)] 27), blkE g1 (.cells #[wa, wb, wc, wd, we] 42), rdE wa l.Low, rdE wb l.High, rdE wc l.Start, rdE wd l.Jumps, rdE we l.Bad] H125 := (hS127.front 2 rfl)
    refine wpL_o rfl ?_
    refine e_append rfl Try.underlying23 em_LInt_32_HoldBad1 rfl rfl hS128 (hS128.rdS 1 rfl) (fun _ h => h) (by have hb : GoT.bytes (List Int) = 24 := rfl; simp [hb]; omega) (by decide) (fun v129 H130 hS131 hxx => ?_)
    replace hS131 : St H0 NoB NoB [rowE 32 v129 (ny ++ ([nth (nextL l (nth now k)) x]) : List (List Int)), rdE v124 ([nth (nextL l (nth now k)) x] : List (List Int)), rdE u122 (nth (nextL l (nth now k)) x), rdE r109o5 (nextL l (nth now k)), rdE vn now, blkE g14 (.cells #[I ((loopFault l).1), I ((loopFault l).2)] 27), blkE g1 (.cells #[wa, wb, wc, wd, we] 42), rdE wa l.Low, rdE wb l.High, rdE wc l.Start, rdE wd l.Jumps, rdE we l.Bad] H130 := hS131
    refine wpL_q (U := NoB) rfl (q_assign (v := v129) rfl rfl) ?_
    exact ⟨v129, a120_1, a120_10, a120_14, a120_15, rfl, a120_17, a120_18, a120_19, (hS131.drop (sk (sn (sn (sk (sk (sk (sk (sk (sk (sk (sk (sk (List.Sublist.slnil))))))))))))))⟩
  rintro f132 H132 ⟨v129, a132_1, a132_10, a132_14, a132_15, a132_16, a132_17, a132_18, a132_19, hS132⟩
  clear a120_1 a120_10 a120_14 a120_15 a120_16 a120_17 a120_175 a120_18 a120_19
  refine wpF_cut (fun f H => f 1 = PT g1 0 ∧ f 10 = I (((badL l).length : Int)) ∧ f 14 = vn ∧ f 15 = I ((i : Int)) ∧ f 16 = v129 ∧ f 17 = I ((k : Int)) ∧ f 18 = r109o5 ∧ f 19 = I ((x : Int) + 1) ∧ H132 = H) ?_ ?_
  · refine wpF_region ?_
    refine wpL_q (U := NoB) rfl (q_move (v := I ((x : Int))) rfl a132_19) ?_
    refine wpL_q (U := NoB) rfl (q_add rfl rfl rfl (by constructor <;> omega)) ?_
    refine wpL_q (U := NoB) rfl (q_assign (v := I ((x : Int) + 1)) rfl rfl) ?_
    exact ⟨a132_1, a132_10, a132_14, a132_15, a132_16, a132_17, a132_18, rfl, rfl⟩
  rintro f133 _ ⟨a133_1, a133_10, a133_14, a133_15, a133_16, a133_17, a133_18, a133_19, rfl⟩
  clear a132_1 a132_10 a132_14 a132_15 a132_16 a132_17 a132_18 a132_19
  refine ⟨_, ?_, x + 1, ny ++ ([nth (nextL l (nth now k)) x]), v129, rfl, (by omega), (hnow.add hl hny hmem (nth_mem (by omega))), (by rw [List.length_append, List.length_singleton]; omega), a133_1, a133_10, a133_14, a133_15, a133_16, a133_17, a133_18, (Eq.trans a133_19 (congrArg I (by omega))), (show St H0 NoB NoB [rowE 32 v129 ((ny ++ ([nth (nextL l (nth now k)) x])) : List (List Int)), rdE r109o5 (nextL l (nth now k)), rdE vn now, blkE g14 (.cells #[I ((loopFault l).1), I ((loopFault l).2)] 27), blkE g1 (.cells #[wa, wb, wc, wd, we] 42), rdE wa l.Low, rdE wb l.High, rdE wc l.Start, rdE wd l.Jumps, rdE we l.Bad] H132 from hS132)⟩
  omega

end Go.Um
