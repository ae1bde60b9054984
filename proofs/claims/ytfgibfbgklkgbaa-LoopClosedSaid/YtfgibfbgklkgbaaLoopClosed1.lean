import Derived.Test.YtfgibfbgklkgbaaProg
import Derived.Test.YtfgibfbgklkgbaaLoopF1
namespace Go.Um
open Go.Proofs
open GoT (sz ag rdc)
open KeyT (kv)

theorem el_LInt_32_LoopClosed1 : ElT Try.prog (List Int) 32 := ⟨Try.isAgg32, Try.sizeOf32⟩
theorem em_LInt_32_LoopClosed1 : ElemOk Try.prog (List Int) 32 := ⟨Try.t32, (.slice none 0 0), by kernel_rfl, by kernel_rfl, by kernel_rfl, by kernel_rfl, by kernel_rfl⟩

set_option maxHeartbeats 1000000 in
set_option maxRecDepth 100000 in
theorem LoopClosed_L {H0 : Heap} (wa wb wc wd we : Value) (l : Loop) (rwa : Rd NoB H0 wa l.Low) (rwb : Rd NoB H0 wb l.High) (rwc : Rd NoB H0 wc l.Start) (rwd : Rd NoB H0 wd l.Jumps) (rwe : Rd NoB H0 we l.Bad) : CallsH Try.prog 7 #[Value.agg #[wa, wb, wc, wd, we]] H0 (fun rv_ H' => Ext NoB H0 H' ∧ rv_ = B true) := by
  have hs1 := (Rd.list.1 rwa).small
  have hs2 := (Rd.list.1 rwb).small
  have hs4 := (Rd.list.1 rwd).small
  have hS0 : St H0 NoB NoB [rdE wa (l.Low : List Int), rdE wb (l.High : List Int), rdE wc (l.Start : List LRow), rdE wd (l.Jumps : List Jump), rdE we (l.Bad : List LRow)] H0 := St.arg (St.arg (St.arg (St.arg (St.arg (St.start (fun _ h => h.elim)) (Bl0.nil) rwe (fun _ h => h)) (Bl0.cons (Bl0.nil)) rwd (fun _ h => h)) (Bl0.cons (Bl0.cons (Bl0.nil))) rwc (fun _ h => h)) (Bl0.cons (Bl0.cons (Bl0.cons (Bl0.nil)))) rwb (fun _ h => h)) (Bl0.cons (Bl0.cons (Bl0.cons (Bl0.cons (Bl0.nil))))) rwa (fun _ h => h)
  refine callsH_of_wpF (args := [Value.agg #[wa, wb, wc, wd, we]]) (rs := [.tmp 2]) Try.func7 rfl Try.ntmps7 Try.results7 (by kernel_rfl) (Nat.le_of_ble_eq_true rfl) ?_
  have a0_0 : argF [Value.agg #[wa, wb, wc, wd, we]] 0 = Value.agg #[wa, wb, wc, wd, we] := rfl
  generalize argF [Value.agg #[wa, wb, wc, wd, we]] = f0 at *
  refine wpF_seq ?_
  refine wpF_cut (fun f H => ∃ (g1 : Nat), f 1 = PT g1 0 ∧ St H0 NoB NoB [blkE g1 (.cells #[wa, wb, wc, wd, we] 42), rdE wa (l.Low : List Int), rdE wb (l.High : List Int), rdE wc (l.Start : List LRow), rdE wd (l.Jumps : List Jump), rdE we (l.Bad : List LRow)] H) ?_ ?_
  · refine wpF_region ?_
    refine wpL_o rfl ?_
    refine e_box (v := Value.agg #[wa, wb, wc, wd, we]) rfl a0_0 hS0 (fun g1 H2 hS3 hxx => ?_)
    replace hS3 : St H0 NoB NoB [blkE g1 (.cells #[wa, wb, wc, wd, we] 42), rdE wa (l.Low : List Int), rdE wb (l.High : List Int), rdE wc (l.Start : List LRow), rdE wd (l.Jumps : List Jump), rdE we (l.Bad : List LRow)] H2 := hS3
    refine wpL_q (U := NoB) rfl (q_assign (v := B (false)) rfl rfl) ?_
    exact ⟨g1, rfl, hS3⟩
  rintro f4 H4 ⟨g1, a4_1, hS4⟩
  clear a0_0
  refine wpF_seq ?_
  refine wpF_cut (fun f H => f 1 = PT g1 0 ∧ f 3 = B (true) ∧ St H0 NoB NoB [blkE g1 (.cells #[wa, wb, wc, wd, we] 42), rdE wa (l.Low : List Int), rdE wb (l.High : List Int), rdE wc (l.Start : List LRow), rdE wd (l.Jumps : List Jump), rdE we (l.Bad : List LRow)] H) ?_ ?_
  · refine wpF_region ?_
    refine wpL_o rfl ?_
    refine e_call rfl Try.call32 arr0 (loopFact) ?_
    rintro _ H5 ⟨hxx, rfl⟩
    have hS6 : St H0 NoB NoB [blkE g1 (.cells #[wa, wb, wc, wd, we] 42), rdE wa (l.Low : List Int), rdE wb (l.High : List Int), rdE wc (l.Start : List LRow), rdE wd (l.Jumps : List Jump), rdE we (l.Bad : List LRow)] H5 := hS4.ext hxx
    refine wpL_q (U := NoB) rfl (q_assign (v := B (true)) rfl rfl) ?_
    exact ⟨a4_1, rfl, hS6⟩
  rintro f8 H8 ⟨a8_1, a8_3, hS8⟩
  clear a4_1
  refine wpF_seq ?_
  refine wpF_seq ?_
  refine wpF_cut (fun f H => f 1 = PT g1 0 ∧ f 15 = B (false) ∧ H8 = H) ?_ ?_
  · refine wpF_region ?_
    refine wpL_q (U := NoB) rfl (q_move (v := B (true)) rfl a8_3) ?_
    refine wpL_q (U := NoB) rfl (q_not rfl rfl) ?_
    exact ⟨a8_1, rfl, rfl⟩
  rintro f9 _ ⟨a9_1, a9_15, rfl⟩
  clear a8_1 a8_3
  refine wpF_condF a9_15 ?_
  refine wpF_skip ?_
  refine wpF_seq ?_
  refine wpF_cut (fun f H => ∃ (r10 : Value), ∃ (g14 : Nat), f 1 = PT g1 0 ∧ f 4 = r10 ∧ f 5 = PT g14 0 ∧ St H0 NoB NoB [blkE g14 (.cells #[I ((loopFault l).1), I ((loopFault l).2)] 27), rdE r10 (runsOut l : List (List Int)), blkE g1 (.cells #[wa, wb, wc, wd, we] 42), rdE wa (l.Low : List Int), rdE wb (l.High : List Int), rdE wc (l.Start : List LRow), rdE wd (l.Jumps : List Jump), rdE we (l.Bad : List LRow)] H) ?_ ?_
  · refine wpF_region ?_
    refine wpL_q (U := NoB) rfl (q_loadBlkA rfl a9_1 Try.isAgg42 Try.sizeOf42 rfl (hS8.blk 0 rfl) (fun h => h)) ?_
    refine wpL_o rfl ?_
    refine e_call rfl Try.call22 (arr1 (v0 := Value.agg #[wa, wb, wc, wd, we]) rfl) (Runs_L wa wb wc wd we l (hS8.rdS 1 rfl) (hS8.rdS 2 rfl) (hS8.rdS 3 rfl) (hS8.rdS 4 rfl) (hS8.rdS 5 rfl) ) ?_
    rintro _ H11 ⟨hxx, r10, rfl, hrr10⟩
    have hS12 : St H0 NoB NoB [rdE r10 (runsOut l : List (List Int)), blkE g1 (.cells #[wa, wb, wc, wd, we] 42), rdE wa (l.Low : List Int), rdE wb (l.High : List Int), rdE wc (l.Start : List LRow), rdE wd (l.Jumps : List Jump), rdE we (l.Bad : List LRow)] H11 := hS8.res hxx hrr10
    refine wpL_q (U := NoB) rfl (q_move (v := Value.tuple #[r10, Value.agg #[I ((loopFault l).1), I ((loopFault l).2)]]) rfl rfl) ?_
    refine wpL_q (U := NoB) rfl (q_extract (vs := #[r10, Value.agg #[I ((loopFault l).1), I ((loopFault l).2)]]) (v := r10) rfl rfl rfl) ?_
    refine wpL_q (U := NoB) rfl (q_extract (vs := #[r10, Value.agg #[I ((loopFault l).1), I ((loopFault l).2)]]) (v := Value.agg #[I ((loopFault l).1), I ((loopFault l).2)]) rfl rfl rfl) ?_
    refine wpL_o rfl ?_
    refine e_alloc rfl Try.zeroValue27 hS12 (fun g14 H15 hS16 hxx => ?_)
    replace hS16 : St H0 NoB NoB [blkE g14 (.cells #[I (0), I (0)] 27), rdE r10 (runsOut l : List (List Int)), blkE g1 (.cells #[wa, wb, wc, wd, we] 42), rdE wa (l.Low : List Int), rdE wb (l.High : List Int), rdE wc (l.Start : List LRow), rdE wd (l.Jumps : List Jump), rdE we (l.Bad : List LRow)] H15 := hS16
    refine wpL_q (U := NoB) rfl (q_assign (v := r10) rfl rfl) ?_
    refine wpL_o rfl ?_
    refine e_storeBlkA (cs' := #[I ((loopFault l).1), I ((loopFault l).2)]) rfl rfl rfl Try.sizeOf27 rfl rfl (List.forall_mem_cons.2 ⟨rfl, List.forall_mem_cons.2 ⟨rfl, List.forall_mem_nil _⟩⟩) hS16 (fun H17 hS18 hxx => ?_)
    replace hS18 : St H0 NoB NoB [blkE g14 (.cells #[I ((loopFault l).1), I ((loopFault l).2)] 27), rdE r10 (runsOut l : List (List Int)), blkE g1 (.cells #[wa, wb, wc, wd, we] 42), rdE wa (l.Low : List Int), rdE wb (l.High : List Int), rdE wc (l.Start : List LRow), rdE wd (l.Jumps : List Jump), rdE we (l.Bad : List LRow)] H17 := hS18
    exact ⟨r10, g14, a9_1, rfl, rfl, hS18⟩
  rintro f19 H19 ⟨r10, g14, a19_1, a19_4, a19_5, hS19⟩
  clear a9_1 a9_15
  refine wpF_seq ?_
  refine wpF_seq ?_
  refine wpF_cut (fun f H => f 1 = PT g1 0 ∧ f 4 = r10 ∧ f 23 = B (decide (((loopFault l).1) ≠ 0)) ∧ H19 = H) ?_ ?_
  · refine wpF_region ?_
    refine wpL_q (U := NoB) rfl (q_fieldAddr rfl Try.underlying27 rfl Try.sizeOf3 a19_5) ?_
    refine wpL_q (U := NoB) rfl (q_loadBlk rfl rfl Try.isAgg3 (hS19.blk 0 rfl) rfl (fun h => h)) ?_
    refine wpL_q (U := NoB) rfl (q_neq rfl rfl rfl) ?_
    exact ⟨a19_1, a19_4, rfl, rfl⟩
  rintro f20 _ ⟨a20_1, a20_4, a20_23, rfl⟩
  clear a19_1 a19_4 a19_5
  refine wpF_condP a20_23 (fun h1 => ?t95) (fun h1 => ?e95)
  case t95 =>
    refine wpF_seq ?_
    refine wpF_cut (fun f H => f 2 = B (decide (((runsOut l).length : Int) = 0)) ∧ H19 = H) ?_ ?_
    · refine wpF_region ?_
      refine wpL_q (U := NoB) rfl (q_move (v := r10) rfl a20_4) ?_
      refine wpL_q (U := NoB) rfl (q_lenRd rfl Try.underlying23 rfl (hS19.rdl 1 rfl)) ?_
      refine wpL_q (U := NoB) rfl (q_eql rfl rfl rfl) ?_
      refine wpL_q (U := NoB) rfl (q_assign (v := B (decide (((runsOut l).length : Int) = 0))) rfl rfl) ?_
      exact ⟨rfl, rfl⟩
    rintro f22 _ ⟨a22_2, rfl⟩
    clear a20_1 a20_23 a20_4
    refine wpF_ret ?_
    refine ⟨_, resT a22_2 resN, hS19.frame, ?_⟩
    show (B (decide (((runsOut l).length : Int) = 0))) = B true
    exact congrArg B (decide_eq_true (by rw [runsOut, if_pos h1]; rfl))
  have hl := LW.of (Decidable.of_not_not h1)
  have hro : runsOut l = comeL l := if_neg h1
  have hmany := hl.many
  have hfew := comeL_few hl
  have hs0 : (startsL l).length ≤ 1200 := comeAt_few hl 0
  have hrl : (runsOut l).length ≤ 1200 := by rw [hro]; exact hfew
  refine wpF_skip ?_
  refine wpF_seq ?_
  refine wpF_cut (fun f H => f 1 = PT g1 0 ∧ f 4 = r10 ∧ f 6 = (Value.slice none 0 0) ∧ H19 = H) ?_ ?_
  · refine wpF_region ?_
    refine wpL_q (U := NoB) rfl (q_assign (v := (Value.slice none 0 0)) rfl rfl) ?_
    exact ⟨a20_1, a20_4, rfl, rfl⟩
  rintro f23 _ ⟨a23_1, a23_4, a23_6, rfl⟩
  clear a20_1 a20_23 a20_4
  have hS24 : St H0 NoB NoB [rowE 32 (Value.slice none 0 0) ([] : List (List Int)), blkE g14 (.cells #[I ((loopFault l).1), I ((loopFault l).2)] 27), rdE r10 (runsOut l : List (List Int)), blkE g1 (.cells #[wa, wb, wc, wd, we] 42), rdE wa (l.Low : List Int), rdE wb (l.High : List Int), rdE wc (l.Start : List LRow), rdE wd (l.Jumps : List Jump), rdE we (l.Bad : List LRow)] H19 := hS19.row0 32
  refine wpF_seq ?_
  refine wpF_seq ?_
  refine wpF_cut (fun f H => f 1 = PT g1 0 ∧ f 4 = r10 ∧ f 6 = (Value.slice none 0 0) ∧ f 7 = I (0) ∧ H19 = H) ?_ ?_
  · refine wpF_region ?_
    refine wpL_q (U := NoB) rfl (q_assign (v := I (0)) rfl rfl) ?_
    exact ⟨a23_1, a23_4, a23_6, rfl, rfl⟩
  rintro f25 _ ⟨a25_1, a25_4, a25_6, a25_7, rfl⟩
  clear a23_1 a23_4 a23_6
  refine wpF_block ?_
  refine wpF_loop (fun mz f H => ∃ (i : Nat), ∃ (vo : Value), mz = 60 - i ∧ (i ≤ 60) ∧ f 1 = PT g1 0 ∧ f 4 = r10 ∧ f 6 = vo ∧ f 7 = I ((i : Int)) ∧ St H0 NoB NoB [rowE 32 vo (ledAll l i : List (List Int)), blkE g14 (.cells #[I ((loopFault l).1), I ((loopFault l).2)] 27), rdE r10 (runsOut l : List (List Int)), blkE g1 (.cells #[wa, wb, wc, wd, we] 42), rdE wa (l.Low : List Int), rdE wb (l.High : List Int), rdE wc (l.Start : List LRow), rdE wd (l.Jumps : List Jump), rdE we (l.Bad : List LRow)] H) (60 - 0) ?_ ?_
  · exact ⟨0, (Value.slice none 0 0), rfl, Nat.zero_le _, a25_1, a25_4, a25_6, (Eq.trans a25_7 (congrArg I (by omega))), (show St H0 NoB NoB [rowE 32 (Value.slice none 0 0) (ledAll l 0 : List (List Int)), blkE g14 (.cells #[I ((loopFault l).1), I ((loopFault l).2)] 27), rdE r10 (runsOut l : List (List Int)), blkE g1 (.cells #[wa, wb, wc, wd, we] 42), rdE wa (l.Low : List Int), rdE wb (l.High : List Int), rdE wc (l.Start : List LRow), rdE wd (l.Jumps : List Jump), rdE we (l.Bad : List LRow)] H19 from hS24)⟩
  intro m26 f26 H26 hI26
  obtain ⟨i, vo, hm26, hi, a26_1, a26_4, a26_6, a26_7, hS26⟩ := hI26
  clear a25_1 a25_4 a25_6 a25_7
  refine wpF_seq ?_
  refine wpF_seq ?_
  refine wpF_cut (fun f H => f 1 = PT g1 0 ∧ f 4 = r10 ∧ f 6 = vo ∧ f 7 = I ((i : Int)) ∧ f 34 = B (decide (((i : Int) < ((runsOut l).length : Int)) ∧ ((i : Int) < 60))) ∧ H26 = H) ?_ ?_
  · refine wpF_region ?_
    refine wpL_q (U := NoB) rfl (q_move (v := I ((i : Int))) rfl a26_7) ?_
    refine wpL_q (U := NoB) rfl (q_move (v := r10) rfl a26_4) ?_
    refine wpL_q (U := NoB) rfl (q_lenRd rfl Try.underlying23 rfl (hS26.rdl 2 rfl)) ?_
    refine wpL_q (U := NoB) rfl (q_lss rfl rfl rfl) ?_
    refine wpL_q (U := NoB) rfl (q_move (v := B (decide ((i : Int) < ((runsOut l).length : Int)))) rfl rfl) ?_
    by_cases hg27 : (i : Int) < ((runsOut l).length : Int)
    · have hb28 := Eq.trans rfl (congrArg B (decide_eq_true hg27))
      refine wpL_gq (U := NoB) rfl rfl rfl hb28 (q_move (v := I ((i : Int))) rfl a26_7) ?_
      refine wpL_gq (U := NoB) rfl rfl rfl hb28 (q_lss rfl rfl rfl) ?_
      refine wpL_q (U := NoB) rfl (q_pickT (v := B (decide ((i : Int) < 60))) rfl hb28 rfl) ?_
      exact ⟨a26_1, a26_4, a26_6, a26_7, (Eq.trans rfl (congrArg B (decide_congr_of ((Iff.rfl).trans (((and_iff_right hg27).trans Iff.rfl)).symm)))), rfl⟩
    · have hb29 := Eq.trans rfl (congrArg B (decide_eq_false hg27))
      refine wpL_gs rfl rfl rfl hb29 rfl ?_
      refine wpL_gs rfl rfl rfl hb29 rfl ?_
      refine wpL_q (U := NoB) rfl (q_pickF (v := B (false)) rfl hb29 rfl) ?_
      exact ⟨a26_1, a26_4, a26_6, a26_7, (Eq.trans rfl (congrArg B ((decide_eq_false (fun h => hg27 h.1)).symm))), rfl⟩
  rintro f30 _ ⟨a30_1, a30_4, a30_6, a30_7, a30_34, rfl⟩
  clear a26_1 a26_4 a26_6 a26_7
  refine wpF_condP a30_34 (fun hlt => ?t94) (fun hlt => ?e94)
  case e94 =>
    refine wpF_exit ?_
    refine atX_here ?_
    refine wpF_seq ?_
    refine wpF_cut (fun f H => ∃ (v73 : Value), f 4 = r10 ∧ f 11 = v73 ∧ St H0 NoB NoB [rowE 32 v73 (startsL l : List (List Int)), rowE 32 vo (ledAll l i : List (List Int)), blkE g14 (.cells #[I ((loopFault l).1), I ((loopFault l).2)] 27), rdE r10 (runsOut l : List (List Int)), blkE g1 (.cells #[wa, wb, wc, wd, we] 42), rdE wa (l.Low : List Int), rdE wb (l.High : List Int), rdE wc (l.Start : List LRow), rdE wd (l.Jumps : List Jump), rdE we (l.Bad : List LRow)] H) ?_ ?_
    · refine wpF_region ?_
      refine wpL_q (U := NoB) rfl (q_loadBlkA rfl a30_1 Try.isAgg42 Try.sizeOf42 rfl (hS26.blk 3 rfl) (fun h => h)) ?_
      refine wpL_o rfl ?_
      refine e_call rfl Try.call36 (arr1 (v0 := Value.agg #[wa, wb, wc, wd, we]) rfl) (Starts_R wa wb wc wd we l (hS26.rdS 4 rfl) (hS26.rdS 5 rfl) (hS26.rdS 6 rfl) (hS26.rdS 7 rfl) (hS26.rdS 8 rfl) hl) ?_
      rintro v73 H74 ⟨hxx, hok, hge⟩
      have hS75 : St H0 NoB NoB [rowE 32 v73 (startsL l : List (List Int)), rowE 32 vo (ledAll l i : List (List Int)), blkE g14 (.cells #[I ((loopFault l).1), I ((loopFault l).2)] 27), rdE r10 (runsOut l : List (List Int)), blkE g1 (.cells #[wa, wb, wc, wd, we] 42), rdE wa (l.Low : List Int), rdE wb (l.High : List Int), rdE wc (l.Start : List LRow), rdE wd (l.Jumps : List Jump), rdE we (l.Bad : List LRow)] H74 := St.gotRow hS26 hxx hok hge
      refine wpL_q (U := NoB) rfl (q_assign (v := v73) rfl rfl) ?_
      exact ⟨v73, a30_4, rfl, hS75⟩
    rintro f77 H77 ⟨v73, a77_4, a77_11, hS77⟩
    clear a30_1 a30_34 a30_4 a30_6 a30_7
    refine wpF_seq ?_
    refine wpF_seq ?_
    refine wpF_cut (fun f H => f 4 = r10 ∧ f 11 = v73 ∧ f 12 = I (0) ∧ H77 = H) ?_ ?_
    · refine wpF_region ?_
      refine wpL_q (U := NoB) rfl (q_assign (v := I (0)) rfl rfl) ?_
      exact ⟨a77_4, a77_11, rfl, rfl⟩
    rintro f78 _ ⟨a78_4, a78_11, a78_12, rfl⟩
    clear a77_11 a77_4
    refine wpF_block ?_
    refine wpF_loop (fun mz f H => ∃ (m : Nat), mz = (startsL l).length - m ∧ (m ≤ (startsL l).length) ∧ f 4 = r10 ∧ f 11 = v73 ∧ f 12 = I ((m : Int)) ∧ St H0 NoB NoB [rowE 32 v73 (startsL l : List (List Int)), rowE 32 vo (ledAll l i : List (List Int)), blkE g14 (.cells #[I ((loopFault l).1), I ((loopFault l).2)] 27), rdE r10 (runsOut l : List (List Int)), blkE g1 (.cells #[wa, wb, wc, wd, we] 42), rdE wa (l.Low : List Int), rdE wb (l.High : List Int), rdE wc (l.Start : List LRow), rdE wd (l.Jumps : List Jump), rdE we (l.Bad : List LRow)] H) ((startsL l).length - 0) ?_ ?_
    · exact ⟨0, rfl, Nat.zero_le _, a78_4, a78_11, (Eq.trans a78_12 (congrArg I (by omega))), hS77⟩
    intro m79 f79 H79 hI79
    obtain ⟨m, hm79, hm, a79_4, a79_11, a79_12, hS79⟩ := hI79
    clear a78_11 a78_12 a78_4
    refine wpF_seq ?_
    refine wpF_seq ?_
    refine wpF_cut (fun f H => f 4 = r10 ∧ f 11 = v73 ∧ f 12 = I ((m : Int)) ∧ f 93 = B (decide ((m : Int) < ((startsL l).length : Int))) ∧ H79 = H) ?_ ?_
    · refine wpF_region ?_
      refine wpL_q (U := NoB) rfl (q_move (v := I ((m : Int))) rfl a79_12) ?_
      refine wpL_q (U := NoB) rfl (q_move (v := v73) rfl a79_11) ?_
      refine wpL_q (U := NoB) rfl (q_lenRd rfl Try.underlying23 rfl (hS79.rowl 0 rfl)) ?_
      refine wpL_q (U := NoB) rfl (q_lss rfl rfl rfl) ?_
      exact ⟨a79_4, a79_11, a79_12, rfl, rfl⟩
    rintro f80 _ ⟨a80_4, a80_11, a80_12, a80_93, rfl⟩
    clear a79_11 a79_12 a79_4
    refine wpF_condP a80_93 (fun hlt3 => ?t93) (fun hlt3 => ?e93)
    case e93 =>
      refine wpF_exit ?_
      refine atX_here ?_
      refine wpF_seq ?_
      refine wpF_cut (fun f H => f 2 = B (true) ∧ H79 = H) ?_ ?_
      · refine wpF_region ?_
        refine wpL_q (U := NoB) rfl (q_assign (v := B (true)) rfl rfl) ?_
        exact ⟨rfl, rfl⟩
      rintro f92 _ ⟨a92_2, rfl⟩
      clear a80_11 a80_12 a80_4 a80_93
      refine wpF_ret ?_
      refine ⟨_, resT a92_2 resN, hS79.frame, ?_⟩
      show (B (true)) = B true
      rfl
    refine wpF_skip ?_
    refine wpF_seq ?_
    refine wpF_block ?_
    refine wpF_seq ?_
    obtain ⟨u82, huu82, hlu82⟩ := hS79.rowElem 0 rfl m (by omega)
    have hS83 : St H0 NoB NoB [rdE u82 (nth (startsL l) m : List Int), rowE 32 v73 (startsL l : List (List Int)), rowE 32 vo (ledAll l i : List (List Int)), blkE g14 (.cells #[I ((loopFault l).1), I ((loopFault l).2)] 27), rdE r10 (runsOut l : List (List Int)), blkE g1 (.cells #[wa, wb, wc, wd, we] 42), rdE wa (l.Low : List Int), rdE wb (l.High : List Int), rdE wc (l.Start : List LRow), rdE wd (l.Jumps : List Jump), rdE we (l.Bad : List LRow)] H79 := hS79.rd huu82
    refine wpF_cut (fun f H => f 4 = r10 ∧ f 11 = v73 ∧ f 12 = I ((m : Int)) ∧ f 102 = B (decide (¬ ((nth (startsL l) m) ∈ (runsOut l)))) ∧ St H0 NoB NoB [rowE 32 v73 (startsL l : List (List Int)), rowE 32 vo (ledAll l i : List (List Int)), blkE g14 (.cells #[I ((loopFault l).1), I ((loopFault l).2)] 27), rdE r10 (runsOut l : List (List Int)), blkE g1 (.cells #[wa, wb, wc, wd, we] 42), rdE wa (l.Low : List Int), rdE wb (l.High : List Int), rdE wc (l.Start : List LRow), rdE wd (l.Jumps : List Jump), rdE we (l.Bad : List LRow)] H) ?_ ?_
    · refine wpF_region ?_
      refine wpL_q (U := NoB) rfl (q_move (v := r10) rfl a80_4) ?_
      refine wpL_q (U := NoB) rfl (q_move (v := v73) rfl a80_11) ?_
      refine wpL_q (U := NoB) rfl (q_move (v := I ((m : Int))) rfl a80_12) ?_
      refine wpL_q (U := NoB) rfl (q_indexRd (k := m) rfl Try.underlying23 el_LInt_32_LoopClosed1 rfl rfl (hS79.rowl 0 rfl) (by omega) (by omega)) ?_
      refine wpL_q (U := NoB) rfl (q_loadE rfl rfl (hlu82 Try.prog 32 _ el_LInt_32_LoopClosed1 (fun _ h => False.elim h))) ?_
      refine wpL_o rfl ?_
      refine e_call rfl Try.call35 (arr2 (v0 := r10) (v1 := u82) rfl rfl) (Is_R r10 u82 (runsOut l) (nth (startsL l) m) (hS83.rdN 4 rfl) (hS83.rdN 0 rfl) ) ?_
      rintro _ H84 ⟨hxx, rfl⟩
      have hS85 : St H0 NoB NoB [rdE u82 (nth (startsL l) m : List Int), rowE 32 v73 (startsL l : List (List Int)), rowE 32 vo (ledAll l i : List (List Int)), blkE g14 (.cells #[I ((loopFault l).1), I ((loopFault l).2)] 27), rdE r10 (runsOut l : List (List Int)), blkE g1 (.cells #[wa, wb, wc, wd, we] 42), rdE wa (l.Low : List Int), rdE wb (l.High : List Int), rdE wc (l.Start : List LRow), rdE wd (l.Jumps : List Jump), rdE we (l.Bad : List LRow)] H84 := hS83.ext hxx
      refine wpL_q (U := NoB) rfl (q_notP rfl rfl) ?_
      exact ⟨a80_4, a80_11, a80_12, rfl, (hS85.drop (List.Sublist.cons _ (List.Sublist.cons_cons _ (List.Sublist.cons_cons _ (List.Sublist.cons_cons _ (List.Sublist.cons_cons _ (List.Sublist.cons_cons _ (List.Sublist.cons_cons _ (List.Sublist.cons_cons _ (List.Sublist.cons_cons _ (List.Sublist.cons_cons _ (List.Sublist.cons_cons _ (List.Sublist.slnil)))))))))))))⟩
    rintro f87 H87 ⟨a87_4, a87_11, a87_12, a87_102, hS87⟩
    clear a80_11 a80_12 a80_4 a80_93
    refine wpF_condP a87_102 (fun h100 => ?t91) (fun h100 => ?e91)
    case e91 =>
      refine wpF_skip ?_
      refine wpF_cut (fun f H => f 4 = r10 ∧ f 11 = v73 ∧ f 12 = I ((m : Int) + 1) ∧ H87 = H) ?_ ?_
      · refine wpF_region ?_
        refine wpL_q (U := NoB) rfl (q_move (v := I ((m : Int))) rfl a87_12) ?_
        refine wpL_q (U := NoB) rfl (q_add rfl rfl rfl (by constructor <;> omega)) ?_
        refine wpL_q (U := NoB) rfl (q_assign (v := I ((m : Int) + 1)) rfl rfl) ?_
        exact ⟨a87_4, a87_11, rfl, rfl⟩
      rintro f90 _ ⟨a90_4, a90_11, a90_12, rfl⟩
      clear a87_102 a87_11 a87_12 a87_4
      refine ⟨_, ?_, m + 1, rfl, (by omega), a90_4, a90_11, (Eq.trans a90_12 (congrArg I (by omega))), hS87⟩
      omega
    refine wpF_seq ?_
    refine wpF_cut (fun f H => f 2 = B (false) ∧ H87 = H) ?_ ?_
    · refine wpF_region ?_
      refine wpL_q (U := NoB) rfl (q_assign (v := B (false)) rfl rfl) ?_
      exact ⟨rfl, rfl⟩
    rintro f89 _ ⟨a89_2, rfl⟩
    clear a87_102 a87_11 a87_12 a87_4
    refine wpF_ret ?_
    refine ⟨_, resT a89_2 resN, hS87.frame, ?_⟩
    show (B (false)) = B true
    exfalso
    exact h100 (by rw [hro]; exact starts_come hl (nth_mem (by omega)))
  have hil : i < (comeL l).length := by rw [← hro]; omega
  have hst := comeL_st hl (nth_mem hil)
  rw [← hro] at hst
  have hst1 := hst.1
  have hsm := inside_small hl hst.1 hst.2
  have hnx := next_ok hl hst
  have hll := ledAll_len hl i
  have hnl : (nextOut l (nth (runsOut l) i)).length ≤ 6 := by rw [hnx.2]; exact Nat.le_trans (nextTo_len _) hl.jumps
  refine wpF_skip ?_
  refine wpF_seq ?_
  refine wpF_block ?_
  refine wpF_seq ?_
  obtain ⟨u32o4, huu32o4, hlu32o4⟩ := (Rd.list.1 (hS26.rdS 2 rfl)).elem i (by omega)
  have hS32o4 : St H0 NoB NoB [rdE u32o4 (nth (runsOut l) i : List Int), rowE 32 vo (ledAll l i : List (List Int)), blkE g14 (.cells #[I ((loopFault l).1), I ((loopFault l).2)] 27), rdE r10 (runsOut l : List (List Int)), blkE g1 (.cells #[wa, wb, wc, wd, we] 42), rdE wa (l.Low : List Int), rdE wb (l.High : List Int), rdE wc (l.Start : List LRow), rdE wd (l.Jumps : List Jump), rdE we (l.Bad : List LRow)] H26 := hS26.rd huu32o4
  refine wpF_cut (fun f H => ∃ (r32o5 : Value), ∃ (g32o9 : Nat), f 1 = PT g1 0 ∧ f 4 = r10 ∧ f 6 = vo ∧ f 7 = I ((i : Int)) ∧ f 8 = r32o5 ∧ f 9 = PT g32o9 0 ∧ St H0 NoB NoB [blkE g32o9 (.cells #[I ((nextFault l (nth (runsOut l) i)).1), I ((nextFault l (nth (runsOut l) i)).2)] 27), rdE r32o5 (nextOut l (nth (runsOut l) i) : List (List Int)), rowE 32 vo (ledAll l i : List (List Int)), blkE g14 (.cells #[I ((loopFault l).1), I ((loopFault l).2)] 27), rdE r10 (runsOut l : List (List Int)), blkE g1 (.cells #[wa, wb, wc, wd, we] 42), rdE wa (l.Low : List Int), rdE wb (l.High : List Int), rdE wc (l.Start : List LRow), rdE wd (l.Jumps : List Jump), rdE we (l.Bad : List LRow)] H) ?_ ?_
  · refine wpF_drawn [none, none, none, none, none, none, none, none, none, none, none, some 0] [[], [], [], [], [], [], [], [], [], [], [], []] (fun l b => match l with | 0 => True | _ => False) (by kernel_rfl) (by kernel_rfl) ?_
    refine wpR_q 0 (by kernel_rfl) rfl (quietAt rfl rfl (q_loadBlkA rfl a30_1 Try.isAgg42 Try.sizeOf42 rfl (hS26.blk 3 rfl) (labU_not [] rfl (List.forall_mem_nil _)))) ?_
    refine wpR_q 1 (by kernel_rfl) rfl (quietAt rfl rfl (q_move (v := r10) rfl a30_4)) ?_
    refine wpR_q 2 (by kernel_rfl) rfl (quietAt rfl rfl (q_move (v := I ((i : Int))) rfl a30_7)) ?_
    refine wpR_q 3 (by kernel_rfl) rfl (quietAt rfl rfl (q_indexRd (k := i) rfl Try.underlying23 el_LInt_32_LoopClosed1 rfl rfl (hS26.rdl 2 rfl) (by omega) (by omega))) ?_
    refine wpR_q 4 (by kernel_rfl) rfl (quietAt rfl rfl (q_loadE rfl rfl (hlu32o4 Try.prog 32 _ el_LInt_32_LoopClosed1 (labU_sub [] rfl (List.forall_mem_nil _))))) ?_
    refine wpR_n [5, 9] (by kernel_rfl) ?_
    refine List.forall_mem_cons.2 ⟨?_, List.forall_mem_cons.2 ⟨?_, List.forall_mem_nil _⟩⟩
    · refine exE rfl rfl ?_
      refine e_call rfl Try.call25 (arr2 (v0 := Value.agg #[wa, wb, wc, wd, we]) (v1 := u32o4) rfl rfl) (Next_L wa wb wc wd we u32o4 l (nth (runsOut l) i) (hS32o4.rdS 5 rfl) (hS32o4.rdS 6 rfl) (hS32o4.rdS 7 rfl) (hS32o4.rdS 8 rfl) (hS32o4.rdS 9 rfl) (hS32o4.rdS 0 rfl) ) ?_
      rintro _ H32o5 ⟨hxx, r32o5, rfl, hrr32o5⟩
      have hS32o5 : St H0 NoB NoB [rdE r32o5 (nextOut l (nth (runsOut l) i) : List (List Int)), rdE u32o4 (nth (runsOut l) i : List Int), rowE 32 vo (ledAll l i : List (List Int)), blkE g14 (.cells #[I ((loopFault l).1), I ((loopFault l).2)] 27), rdE r10 (runsOut l : List (List Int)), blkE g1 (.cells #[wa, wb, wc, wd, we] 42), rdE wa (l.Low : List Int), rdE wb (l.High : List Int), rdE wc (l.Start : List LRow), rdE wd (l.Jumps : List Jump), rdE we (l.Bad : List LRow)] H32o5 := hS32o4.res hxx hrr32o5
      refine ⟨Ext.mono hxx (fun _ h => h.elim), ?_⟩
      refine wpR_q 6 (by kernel_rfl) rfl (quietAt rfl rfl (q_move (v := Value.tuple #[r32o5, Value.agg #[I ((nextFault l (nth (runsOut l) i)).1), I ((nextFault l (nth (runsOut l) i)).2)]]) rfl rfl)) ?_
      refine wpR_q 7 (by kernel_rfl) rfl (quietAt rfl rfl (q_extract (vs := #[r32o5, Value.agg #[I ((nextFault l (nth (runsOut l) i)).1), I ((nextFault l (nth (runsOut l) i)).2)]]) (v := r32o5) rfl rfl rfl)) ?_
      refine wpR_q 8 (by kernel_rfl) rfl (quietAt rfl rfl (q_extract (vs := #[r32o5, Value.agg #[I ((nextFault l (nth (runsOut l) i)).1), I ((nextFault l (nth (runsOut l) i)).2)]]) (v := Value.agg #[I ((nextFault l (nth (runsOut l) i)).1), I ((nextFault l (nth (runsOut l) i)).2)]) rfl rfl rfl)) ?_
      refine wpR_n [9] (by kernel_rfl) ?_
      refine List.forall_mem_cons.2 ⟨?_, List.forall_mem_nil _⟩
      refine exE rfl rfl ?_
      refine e_alloc rfl Try.zeroValue27 hS32o5 (fun g32o9 H32o9 hS32o9 hxx => ?_)
      replace hS32o9 : St H0 NoB NoB [blkE g32o9 (.cells #[I (0), I (0)] 27), rdE r32o5 (nextOut l (nth (runsOut l) i) : List (List Int)), rdE u32o4 (nth (runsOut l) i : List Int), rowE 32 vo (ledAll l i : List (List Int)), blkE g14 (.cells #[I ((loopFault l).1), I ((loopFault l).2)] 27), rdE r10 (runsOut l : List (List Int)), blkE g1 (.cells #[wa, wb, wc, wd, we] 42), rdE wa (l.Low : List Int), rdE wb (l.High : List Int), rdE wc (l.Start : List LRow), rdE wd (l.Jumps : List Jump), rdE we (l.Bad : List LRow)] H32o9 := hS32o9
      refine ⟨Ext.mono hxx (fun _ h => h.elim), ?_⟩
      refine wpR_q 10 (by kernel_rfl) rfl (quietAt rfl rfl (q_assign (v := r32o5) rfl rfl)) ?_
      refine wpR_n [11] (by kernel_rfl) ?_
      refine List.forall_mem_cons.2 ⟨?_, List.forall_mem_nil _⟩
      refine exE rfl rfl ?_
      refine e_storeBlkA (cs' := #[I ((nextFault l (nth (runsOut l) i)).1), I ((nextFault l (nth (runsOut l) i)).2)]) rfl rfl rfl Try.sizeOf27 rfl rfl (List.forall_mem_cons.2 ⟨rfl, List.forall_mem_cons.2 ⟨rfl, List.forall_mem_nil _⟩⟩) hS32o9 (fun H32o11 hS32o11 hxx => ?_)
      replace hS32o11 : St H0 NoB NoB [blkE g32o9 (.cells #[I ((nextFault l (nth (runsOut l) i)).1), I ((nextFault l (nth (runsOut l) i)).2)] 27), rdE r32o5 (nextOut l (nth (runsOut l) i) : List (List Int)), rdE u32o4 (nth (runsOut l) i : List Int), rowE 32 vo (ledAll l i : List (List Int)), blkE g14 (.cells #[I ((loopFault l).1), I ((loopFault l).2)] 27), rdE r10 (runsOut l : List (List Int)), blkE g1 (.cells #[wa, wb, wc, wd, we] 42), rdE wa (l.Low : List Int), rdE wb (l.High : List Int), rdE wc (l.Start : List LRow), rdE wd (l.Jumps : List Jump), rdE we (l.Bad : List LRow)] H32o11 := hS32o11
      refine ⟨Ext.mono hxx (labS_of 0 rfl (fun _ _ => trivial)), ?_⟩
      refine wpR_end (by kernel_rfl) ?_
      exact ⟨r32o5, g32o9, a30_1, a30_4, a30_6, a30_7, rfl, rfl, (hS32o11.drop (List.Sublist.cons_cons _ (List.Sublist.cons_cons _ (List.Sublist.cons _ (List.Sublist.cons_cons _ (List.Sublist.cons_cons _ (List.Sublist.cons_cons _ (List.Sublist.cons_cons _ (List.Sublist.cons_cons _ (List.Sublist.cons_cons _ (List.Sublist.cons_cons _ (List.Sublist.cons_cons _ (List.Sublist.cons_cons _ (List.Sublist.slnil))))))))))))))⟩
    · refine exE rfl rfl ?_
      refine e_alloc rfl Try.zeroValue27 hS32o4 (fun g32o9 H32o9 hS32o9 hxx => ?_)
      replace hS32o9 : St H0 NoB NoB [blkE g32o9 (.cells #[I (0), I (0)] 27), rdE u32o4 (nth (runsOut l) i : List Int), rowE 32 vo (ledAll l i : List (List Int)), blkE g14 (.cells #[I ((loopFault l).1), I ((loopFault l).2)] 27), rdE r10 (runsOut l : List (List Int)), blkE g1 (.cells #[wa, wb, wc, wd, we] 42), rdE wa (l.Low : List Int), rdE wb (l.High : List Int), rdE wc (l.Start : List LRow), rdE wd (l.Jumps : List Jump), rdE we (l.Bad : List LRow)] H32o9 := hS32o9
      refine ⟨Ext.mono hxx (fun _ h => h.elim), ?_⟩
      refine wpR_n [5] (by kernel_rfl) ?_
      refine List.forall_mem_cons.2 ⟨?_, List.forall_mem_nil _⟩
      refine exE rfl rfl ?_
      refine e_call rfl Try.call25 (arr2 (v0 := Value.agg #[wa, wb, wc, wd, we]) (v1 := u32o4) rfl rfl) (Next_L wa wb wc wd we u32o4 l (nth (runsOut l) i) (hS32o9.rdS 6 rfl) (hS32o9.rdS 7 rfl) (hS32o9.rdS 8 rfl) (hS32o9.rdS 9 rfl) (hS32o9.rdS 10 rfl) (hS32o9.rdS 1 rfl) ) ?_
      rintro _ H32o5 ⟨hxx, r32o5, rfl, hrr32o5⟩
      have hS32o5 : St H0 NoB NoB [rdE r32o5 (nextOut l (nth (runsOut l) i) : List (List Int)), blkE g32o9 (.cells #[I (0), I (0)] 27), rdE u32o4 (nth (runsOut l) i : List Int), rowE 32 vo (ledAll l i : List (List Int)), blkE g14 (.cells #[I ((loopFault l).1), I ((loopFault l).2)] 27), rdE r10 (runsOut l : List (List Int)), blkE g1 (.cells #[wa, wb, wc, wd, we] 42), rdE wa (l.Low : List Int), rdE wb (l.High : List Int), rdE wc (l.Start : List LRow), rdE wd (l.Jumps : List Jump), rdE we (l.Bad : List LRow)] H32o5 := hS32o9.res hxx hrr32o5
      refine ⟨Ext.mono hxx (fun _ h => h.elim), ?_⟩
      refine wpR_q 6 (by kernel_rfl) rfl (quietAt rfl rfl (q_move (v := Value.tuple #[r32o5, Value.agg #[I ((nextFault l (nth (runsOut l) i)).1), I ((nextFault l (nth (runsOut l) i)).2)]]) rfl rfl)) ?_
      refine wpR_q 7 (by kernel_rfl) rfl (quietAt rfl rfl (q_extract (vs := #[r32o5, Value.agg #[I ((nextFault l (nth (runsOut l) i)).1), I ((nextFault l (nth (runsOut l) i)).2)]]) (v := r32o5) rfl rfl rfl)) ?_
      refine wpR_q 8 (by kernel_rfl) rfl (quietAt rfl rfl (q_extract (vs := #[r32o5, Value.agg #[I ((nextFault l (nth (runsOut l) i)).1), I ((nextFault l (nth (runsOut l) i)).2)]]) (v := Value.agg #[I ((nextFault l (nth (runsOut l) i)).1), I ((nextFault l (nth (runsOut l) i)).2)]) rfl rfl rfl)) ?_
      refine wpR_q 10 (by kernel_rfl) rfl (quietAt rfl rfl (q_assign (v := r32o5) rfl rfl)) ?_
      refine wpR_n [11] (by kernel_rfl) ?_
      refine List.forall_mem_cons.2 ⟨?_, List.forall_mem_nil _⟩
      refine exE rfl rfl ?_
      refine e_storeBlkA (cs' := #[I ((nextFault l (nth (runsOut l) i)).1), I ((nextFault l (nth (runsOut l) i)).2)]) rfl rfl rfl Try.sizeOf27 rfl rfl (List.forall_mem_cons.2 ⟨rfl, List.forall_mem_cons.2 ⟨rfl, List.forall_mem_nil _⟩⟩) (hS32o5.front 1 rfl) (fun H32o11 hS32o11 hxx => ?_)
      replace hS32o11 : St H0 NoB NoB [blkE g32o9 (.cells #[I ((nextFault l (nth (runsOut l) i)).1), I ((nextFault l (nth (runsOut l) i)).2)] 27), rdE r32o5 (nextOut l (nth (runsOut l) i) : List (List Int)), rdE u32o4 (nth (runsOut l) i : List Int), rowE 32 vo (ledAll l i : List (List Int)), blkE g14 (.cells #[I ((loopFault l).1), I ((loopFault l).2)] 27), rdE r10 (runsOut l : List (List Int)), blkE g1 (.cells #[wa, wb, wc, wd, we] 42), rdE wa (l.Low : List Int), rdE wb (l.High : List Int), rdE wc (l.Start : List LRow), rdE wd (l.Jumps : List Jump), rdE we (l.Bad : List LRow)] H32o11 := hS32o11
      refine ⟨Ext.mono hxx (labS_of 0 rfl (fun _ _ => trivial)), ?_⟩
      refine wpR_end (by kernel_rfl) ?_
      exact ⟨r32o5, g32o9, a30_1, a30_4, a30_6, a30_7, rfl, rfl, (hS32o11.drop (List.Sublist.cons_cons _ (List.Sublist.cons_cons _ (List.Sublist.cons _ (List.Sublist.cons_cons _ (List.Sublist.cons_cons _ (List.Sublist.cons_cons _ (List.Sublist.cons_cons _ (List.Sublist.cons_cons _ (List.Sublist.cons_cons _ (List.Sublist.cons_cons _ (List.Sublist.cons_cons _ (List.Sublist.cons_cons _ (List.Sublist.slnil))))))))))))))⟩
  rintro f33 H33 ⟨r32o5, g32o9, a33_1, a33_4, a33_6, a33_7, a33_8, a33_9, hS33⟩
  clear a30_1 a30_34 a30_4 a30_6 a30_7
  refine wpF_seq ?_
  refine wpF_seq ?_
  refine wpF_cut (fun f H => f 1 = PT g1 0 ∧ f 4 = r10 ∧ f 6 = vo ∧ f 7 = I ((i : Int)) ∧ f 8 = r32o5 ∧ f 67 = B (decide ((((nextFault l (nth (runsOut l) i)).1) ≠ 0) ∨ (((!(holdB l.Start (nth (runsOut l) i))) = true) ∧ (¬ ((nth (runsOut l) i) ∈ (ledAll l i)))))) ∧ St H0 NoB NoB [blkE g32o9 (.cells #[I ((nextFault l (nth (runsOut l) i)).1), I ((nextFault l (nth (runsOut l) i)).2)] 27), rdE r32o5 (nextOut l (nth (runsOut l) i) : List (List Int)), rowE 32 vo (ledAll l i : List (List Int)), blkE g14 (.cells #[I ((loopFault l).1), I ((loopFault l).2)] 27), rdE r10 (runsOut l : List (List Int)), blkE g1 (.cells #[wa, wb, wc, wd, we] 42), rdE wa (l.Low : List Int), rdE wb (l.High : List Int), rdE wc (l.Start : List LRow), rdE wd (l.Jumps : List Jump), rdE we (l.Bad : List LRow)] H) ?_ ?_
  · refine wpF_drawn [] [] (fun _ _ => False) (by kernel_rfl) (by kernel_rfl) ?_
    refine wpR_q 0 (by kernel_rfl) rfl (quietAt rfl rfl (q_fieldAddr rfl Try.underlying27 rfl Try.sizeOf3 a33_9)) ?_
    refine wpR_q 1 (by kernel_rfl) rfl (quietAt rfl rfl (q_loadBlk rfl rfl Try.isAgg3 (hS33.blk 0 rfl) rfl (labU_not [] rfl (List.forall_mem_nil _)))) ?_
    refine wpR_q 2 (by kernel_rfl) rfl (quietAt rfl rfl (q_neq rfl rfl rfl)) ?_
    refine wpR_q 3 (by kernel_rfl) rfl (quietAt rfl rfl (q_move (v := B (decide (((nextFault l (nth (runsOut l) i)).1) ≠ 0))) rfl rfl)) ?_
    by_cases hg35 : ((nextFault l (nth (runsOut l) i)).1) ≠ 0
    · have hb36 := Eq.trans rfl (congrArg B (decide_eq_true hg35))
      refine wpR_q 4 (by kernel_rfl) rfl (quietAt_s rfl rfl rfl rfl hb36 rfl) ?_
      refine wpR_q 5 (by kernel_rfl) rfl (quietAt_s rfl rfl rfl rfl hb36 rfl) ?_
      refine wpR_q 6 (by kernel_rfl) rfl (quietAt_s rfl rfl rfl rfl hb36 rfl) ?_
      refine wpR_q 7 (by kernel_rfl) rfl (quietAt_s rfl rfl rfl rfl hb36 rfl) ?_
      refine wpR_q 8 (by kernel_rfl) rfl (quietAt_s rfl rfl rfl rfl hb36 rfl) ?_
      refine wpR_q 9 (by kernel_rfl) rfl (quietAt_s rfl rfl rfl rfl hb36 rfl) ?_
      refine wpR_q 10 (by kernel_rfl) rfl (quietAt_s rfl rfl rfl rfl hb36 rfl) ?_
      refine wpR_q 11 (by kernel_rfl) rfl (quietAt_s rfl rfl rfl rfl hb36 rfl) ?_
      refine wpR_q 12 (by kernel_rfl) rfl (quietAt_s rfl rfl rfl rfl hb36 rfl) ?_
      refine wpR_q 13 (by kernel_rfl) rfl (quietAt_s' rfl rfl rfl rfl rfl) ?_
      refine wpR_q 14 (by kernel_rfl) rfl (quietAt_s' rfl rfl rfl rfl rfl) ?_
      refine wpR_q 15 (by kernel_rfl) rfl (quietAt_s' rfl rfl rfl rfl rfl) ?_
      refine wpR_q 16 (by kernel_rfl) rfl (quietAt_s' rfl rfl rfl rfl rfl) ?_
      refine wpR_q 17 (by kernel_rfl) rfl (quietAt_s' rfl rfl rfl rfl rfl) ?_
      refine wpR_q 18 (by kernel_rfl) rfl (quietAt_s' rfl rfl rfl rfl rfl) ?_
      refine wpR_q 19 (by kernel_rfl) rfl (quietAt_s' rfl rfl rfl rfl rfl) ?_
      refine wpR_q 20 (by kernel_rfl) rfl (quietAt_s rfl rfl rfl rfl hb36 rfl) ?_
      refine wpR_q 21 (by kernel_rfl) rfl (quietAt rfl rfl (q_pickT (v := B (true)) rfl hb36 rfl)) ?_
      refine wpR_end (by kernel_rfl) ?_
      exact ⟨a33_1, a33_4, a33_6, a33_7, a33_8, (Eq.trans rfl (congrArg B ((decide_eq_true (Or.inl hg35)).symm))), hS33⟩
    · have hb37 := Eq.trans rfl (congrArg B (decide_eq_false hg35))
      refine wpR_q 4 (by kernel_rfl) rfl (quietAt_g rfl rfl rfl rfl hb37 (q_fieldAddr rfl Try.underlying42 rfl Try.sizeOf22 a33_1)) ?_
      refine wpR_q 5 (by kernel_rfl) rfl (quietAt_g rfl rfl rfl rfl hb37 (q_loadBlk rfl rfl Try.isAgg22 (hS33.blk 5 rfl) rfl (labU_not [] rfl (List.forall_mem_nil _)))) ?_
      refine wpR_q 6 (by kernel_rfl) rfl (quietAt_g rfl rfl rfl rfl hb37 (q_move (v := r10) rfl a33_4)) ?_
      refine wpR_q 7 (by kernel_rfl) rfl (quietAt_g rfl rfl rfl rfl hb37 (q_move (v := I ((i : Int))) rfl a33_7)) ?_
      refine wpR_q 8 (by kernel_rfl) rfl (quietAt_g rfl rfl rfl rfl hb37 (q_indexRd (k := i) rfl Try.underlying23 el_LInt_32_LoopClosed1 rfl rfl (hS33.rdl 4 rfl) (by omega) (by omega))) ?_
      obtain ⟨u34o9, huu34o9, hlu34o9⟩ := (Rd.list.1 (hS33.rdS 4 rfl)).elem i (by omega)
      have hS34o9 : St H0 NoB NoB [rdE u34o9 (nth (runsOut l) i : List Int), blkE g32o9 (.cells #[I ((nextFault l (nth (runsOut l) i)).1), I ((nextFault l (nth (runsOut l) i)).2)] 27), rdE r32o5 (nextOut l (nth (runsOut l) i) : List (List Int)), rowE 32 vo (ledAll l i : List (List Int)), blkE g14 (.cells #[I ((loopFault l).1), I ((loopFault l).2)] 27), rdE r10 (runsOut l : List (List Int)), blkE g1 (.cells #[wa, wb, wc, wd, we] 42), rdE wa (l.Low : List Int), rdE wb (l.High : List Int), rdE wc (l.Start : List LRow), rdE wd (l.Jumps : List Jump), rdE we (l.Bad : List LRow)] H33 := hS33.rd huu34o9
      refine wpR_q 9 (by kernel_rfl) rfl (quietAt_g rfl rfl rfl rfl hb37 (q_loadE rfl rfl (hlu34o9 Try.prog 32 _ el_LInt_32_LoopClosed1 (labU_sub [] rfl (List.forall_mem_nil _))))) ?_
      refine wpR_n [10] (by kernel_rfl) ?_
      refine List.forall_mem_cons.2 ⟨?_, List.forall_mem_nil _⟩
      refine exE_g rfl rfl rfl rfl hb37 ?_
      refine e_call rfl Try.call33 (arr2 (v0 := wc) (v1 := u34o9) rfl rfl) (Hold_R wc u34o9 l.Start (nth (runsOut l) i) (hS34o9.rdN 9 rfl) (hS34o9.rdN 0 rfl) (HoldOk.of hl.start (by omega) hsm (by omega))) ?_
      rintro _ H34o10 ⟨hxx, rfl⟩
      have hS34o10 : St H0 NoB NoB [rdE u34o9 (nth (runsOut l) i : List Int), blkE g32o9 (.cells #[I ((nextFault l (nth (runsOut l) i)).1), I ((nextFault l (nth (runsOut l) i)).2)] 27), rdE r32o5 (nextOut l (nth (runsOut l) i) : List (List Int)), rowE 32 vo (ledAll l i : List (List Int)), blkE g14 (.cells #[I ((loopFault l).1), I ((loopFault l).2)] 27), rdE r10 (runsOut l : List (List Int)), blkE g1 (.cells #[wa, wb, wc, wd, we] 42), rdE wa (l.Low : List Int), rdE wb (l.High : List Int), rdE wc (l.Start : List LRow), rdE wd (l.Jumps : List Jump), rdE we (l.Bad : List LRow)] H34o10 := hS34o9.ext hxx
      refine ⟨Ext.mono hxx (fun _ h => h.elim), ?_⟩
      refine wpR_q 11 (by kernel_rfl) rfl (quietAt_g rfl rfl rfl rfl hb37 (q_not rfl rfl)) ?_
      refine wpR_q 12 (by kernel_rfl) rfl (quietAt_g rfl rfl rfl rfl hb37 (q_move (v := B (!(holdB l.Start (nth (runsOut l) i)))) rfl rfl)) ?_
      by_cases hg38 : (!(holdB l.Start (nth (runsOut l) i))) = true
      · have hb39 := Eq.trans rfl (congrArg B hg38)
        refine wpR_q 13 (by kernel_rfl) rfl (quietAt_g rfl rfl rfl rfl hb39 (q_move (v := vo) rfl a33_6)) ?_
        refine wpR_q 14 (by kernel_rfl) rfl (quietAt_g rfl rfl rfl rfl hb39 (q_move (v := r10) rfl a33_4)) ?_
        refine wpR_q 15 (by kernel_rfl) rfl (quietAt_g rfl rfl rfl rfl hb39 (q_move (v := I ((i : Int))) rfl a33_7)) ?_
        refine wpR_q 16 (by kernel_rfl) rfl (quietAt_g rfl rfl rfl rfl hb39 (q_indexRd (k := i) rfl Try.underlying23 el_LInt_32_LoopClosed1 rfl rfl (hS34o10.rdl 5 rfl) (by omega) (by omega))) ?_
        obtain ⟨u34o17, huu34o17, hlu34o17⟩ := (Rd.list.1 (hS34o10.rdS 5 rfl)).elem i (by omega)
        have hS34o17 : St H0 NoB NoB [rdE u34o17 (nth (runsOut l) i : List Int), rdE u34o9 (nth (runsOut l) i : List Int), blkE g32o9 (.cells #[I ((nextFault l (nth (runsOut l) i)).1), I ((nextFault l (nth (runsOut l) i)).2)] 27), rdE r32o5 (nextOut l (nth (runsOut l) i) : List (List Int)), rowE 32 vo (ledAll l i : List (List Int)), blkE g14 (.cells #[I ((loopFault l).1), I ((loopFault l).2)] 27), rdE r10 (runsOut l : List (List Int)), blkE g1 (.cells #[wa, wb, wc, wd, we] 42), rdE wa (l.Low : List Int), rdE wb (l.High : List Int), rdE wc (l.Start : List LRow), rdE wd (l.Jumps : List Jump), rdE we (l.Bad : List LRow)] H34o10 := hS34o10.rd huu34o17
        refine wpR_q 17 (by kernel_rfl) rfl (quietAt_g rfl rfl rfl rfl hb39 (q_loadE rfl rfl (hlu34o17 Try.prog 32 _ el_LInt_32_LoopClosed1 (labU_sub [] rfl (List.forall_mem_nil _))))) ?_
        refine wpR_n [18] (by kernel_rfl) ?_
        refine List.forall_mem_cons.2 ⟨?_, List.forall_mem_nil _⟩
        refine exE_g rfl rfl rfl rfl hb39 ?_
        refine e_call rfl Try.call35 (arr2 (v0 := vo) (v1 := u34o17) rfl rfl) (Is_R vo u34o17 (ledAll l i) (nth (runsOut l) i) (hS34o17.rowN 4 rfl) (hS34o17.rdN 0 rfl) ) ?_
        rintro _ H34o18 ⟨hxx, rfl⟩
        have hS34o18 : St H0 NoB NoB [rdE u34o17 (nth (runsOut l) i : List Int), rdE u34o9 (nth (runsOut l) i : List Int), blkE g32o9 (.cells #[I ((nextFault l (nth (runsOut l) i)).1), I ((nextFault l (nth (runsOut l) i)).2)] 27), rdE r32o5 (nextOut l (nth (runsOut l) i) : List (List Int)), rowE 32 vo (ledAll l i : List (List Int)), blkE g14 (.cells #[I ((loopFault l).1), I ((loopFault l).2)] 27), rdE r10 (runsOut l : List (List Int)), blkE g1 (.cells #[wa, wb, wc, wd, we] 42), rdE wa (l.Low : List Int), rdE wb (l.High : List Int), rdE wc (l.Start : List LRow), rdE wd (l.Jumps : List Jump), rdE we (l.Bad : List LRow)] H34o18 := hS34o17.ext hxx
        refine ⟨Ext.mono hxx (fun _ h => h.elim), ?_⟩
        refine wpR_q 19 (by kernel_rfl) rfl (quietAt_g rfl rfl rfl rfl hb39 (q_notP rfl rfl)) ?_
        refine wpR_q 20 (by kernel_rfl) rfl (quietAt_g rfl rfl rfl rfl hb37 (q_pickT (v := B (decide (¬ ((nth (runsOut l) i) ∈ (ledAll l i))))) rfl hb39 rfl)) ?_
        refine wpR_q 21 (by kernel_rfl) rfl (quietAt rfl rfl (q_pickF (v := B (decide (¬ ((nth (runsOut l) i) ∈ (ledAll l i))))) rfl hb37 rfl)) ?_
        refine wpR_end (by kernel_rfl) ?_
        exact ⟨a33_1, a33_4, a33_6, a33_7, a33_8, (Eq.trans rfl (congrArg B (decide_congr_of (((not_congr Iff.rfl)).trans (((or_iff_right hg35).trans ((and_iff_right hg38).trans (not_congr Iff.rfl)))).symm)))), (hS34o18.drop (List.Sublist.cons _ (List.Sublist.cons _ (List.Sublist.cons_cons _ (List.Sublist.cons_cons _ (List.Sublist.cons_cons _ (List.Sublist.cons_cons _ (List.Sublist.cons_cons _ (List.Sublist.cons_cons _ (List.Sublist.cons_cons _ (List.Sublist.cons_cons _ (List.Sublist.cons_cons _ (List.Sublist.cons_cons _ (List.Sublist.cons_cons _ (List.Sublist.slnil)))))))))))))))⟩
      · have hb40 := Eq.trans rfl (congrArg B (Bool.eq_false_iff.2 hg38))
        refine wpR_q 13 (by kernel_rfl) rfl (quietAt_s rfl rfl rfl rfl hb40 rfl) ?_
        refine wpR_q 14 (by kernel_rfl) rfl (quietAt_s rfl rfl rfl rfl hb40 rfl) ?_
        refine wpR_q 15 (by kernel_rfl) rfl (quietAt_s rfl rfl rfl rfl hb40 rfl) ?_
        refine wpR_q 16 (by kernel_rfl) rfl (quietAt_s rfl rfl rfl rfl hb40 rfl) ?_
        refine wpR_q 17 (by kernel_rfl) rfl (quietAt_s rfl rfl rfl rfl hb40 rfl) ?_
        refine wpR_q 18 (by kernel_rfl) rfl (quietAt_s rfl rfl rfl rfl hb40 rfl) ?_
        refine wpR_q 19 (by kernel_rfl) rfl (quietAt_s rfl rfl rfl rfl hb40 rfl) ?_
        refine wpR_q 20 (by kernel_rfl) rfl (quietAt_g rfl rfl rfl rfl hb37 (q_pickF (v := B (false)) rfl hb40 rfl)) ?_
        refine wpR_q 21 (by kernel_rfl) rfl (quietAt rfl rfl (q_pickF (v := B (false)) rfl hb37 rfl)) ?_
        refine wpR_end (by kernel_rfl) ?_
        exact ⟨a33_1, a33_4, a33_6, a33_7, a33_8, (Eq.trans rfl (congrArg B ((decide_eq_false (not_or.2 ⟨hg35, (fun h => hg38 h.1)⟩)).symm))), (hS34o10.drop (List.Sublist.cons _ (List.Sublist.cons_cons _ (List.Sublist.cons_cons _ (List.Sublist.cons_cons _ (List.Sublist.cons_cons _ (List.Sublist.cons_cons _ (List.Sublist.cons_cons _ (List.Sublist.cons_cons _ (List.Sublist.cons_cons _ (List.Sublist.cons_cons _ (List.Sublist.cons_cons _ (List.Sublist.cons_cons _ (List.Sublist.slnil))))))))))))))⟩
  rintro f41 H41 ⟨a41_1, a41_4, a41_6, a41_7, a41_8, a41_67, hS41⟩
  clear a33_1 a33_4 a33_6 a33_7 a33_8 a33_9
  refine wpF_condP a41_67 (fun h67 => ?t72) (fun h67 => ?e72)
  case t72 =>
    refine wpF_seq ?_
    refine wpF_cut (fun f H => f 2 = B (false) ∧ H41 = H) ?_ ?_
    · refine wpF_region ?_
      refine wpL_q (U := NoB) rfl (q_assign (v := B (false)) rfl rfl) ?_
      exact ⟨rfl, rfl⟩
    rintro f43 _ ⟨a43_2, rfl⟩
    clear a41_1 a41_4 a41_6 a41_67 a41_7 a41_8
    refine wpF_ret ?_
    refine ⟨_, resT a43_2 resN, hS41.frame, ?_⟩
    show (B (false)) = B true
    exfalso
    rw [hnx.1] at h67
    have hch := come_hold hl hil
    rw [← hro] at hch
    rcases h67 with h | ⟨h2, h3⟩
    · exact h rfl
    · rcases hch with h4 | h4
      · rw [h4] at h2; cases h2
      · exact h3 h4
  refine wpF_skip ?_
  refine wpF_seq ?_
  refine wpF_cut (fun f H => f 1 = PT g1 0 ∧ f 4 = r10 ∧ f 6 = vo ∧ f 7 = I ((i : Int)) ∧ f 8 = r32o5 ∧ f 10 = I (0) ∧ H41 = H) ?_ ?_
  · refine wpF_region ?_
    refine wpL_q (U := NoB) rfl (q_assign (v := I (0)) rfl rfl) ?_
    exact ⟨a41_1, a41_4, a41_6, a41_7, a41_8, rfl, rfl⟩
  rintro f44 _ ⟨a44_1, a44_4, a44_6, a44_7, a44_8, a44_10, rfl⟩
  clear a41_1 a41_4 a41_6 a41_67 a41_7 a41_8
  refine wpF_block ?_
  refine wpF_loop (fun mz f H => ∃ (k : Nat), ∃ (vp : Value), mz = (nextOut l (nth (runsOut l) i)).length - k ∧ (k ≤ (nextOut l (nth (runsOut l) i)).length) ∧ f 1 = PT g1 0 ∧ f 4 = r10 ∧ f 6 = vp ∧ f 7 = I ((i : Int)) ∧ f 8 = r32o5 ∧ f 10 = I ((k : Int)) ∧ St H0 NoB NoB [rowE 32 vp (ledAll l i ++ (nextOut l (nth (runsOut l) i)).take k : List (List Int)), blkE g32o9 (.cells #[I ((nextFault l (nth (runsOut l) i)).1), I ((nextFault l (nth (runsOut l) i)).2)] 27), rdE r32o5 (nextOut l (nth (runsOut l) i) : List (List Int)), blkE g14 (.cells #[I ((loopFault l).1), I ((loopFault l).2)] 27), rdE r10 (runsOut l : List (List Int)), blkE g1 (.cells #[wa, wb, wc, wd, we] 42), rdE wa (l.Low : List Int), rdE wb (l.High : List Int), rdE wc (l.Start : List LRow), rdE wd (l.Jumps : List Jump), rdE we (l.Bad : List LRow)] H) ((nextOut l (nth (runsOut l) i)).length - 0) ?_ ?_
  · exact ⟨0, vo, rfl, Nat.zero_le _, a44_1, a44_4, a44_6, a44_7, a44_8, (Eq.trans a44_10 (congrArg I (by omega))), (show St H0 NoB NoB [rowE 32 vo (ledAll l i ++ (nextOut l (nth (runsOut l) i)).take 0 : List (List Int)), blkE g32o9 (.cells #[I ((nextFault l (nth (runsOut l) i)).1), I ((nextFault l (nth (runsOut l) i)).2)] 27), rdE r32o5 (nextOut l (nth (runsOut l) i) : List (List Int)), blkE g14 (.cells #[I ((loopFault l).1), I ((loopFault l).2)] 27), rdE r10 (runsOut l : List (List Int)), blkE g1 (.cells #[wa, wb, wc, wd, we] 42), rdE wa (l.Low : List Int), rdE wb (l.High : List Int), rdE wc (l.Start : List LRow), rdE wd (l.Jumps : List Jump), rdE we (l.Bad : List LRow)] H41 from (by have h__ := (St.drop (show St H0 NoB NoB [rowE 32 vo (ledAll l i : List (List Int)), blkE g32o9 (.cells #[I ((nextFault l (nth (runsOut l) i)).1), I ((nextFault l (nth (runsOut l) i)).2)] 27), rdE r32o5 (nextOut l (nth (runsOut l) i) : List (List Int)), blkE g14 (.cells #[I ((loopFault l).1), I ((loopFault l).2)] 27), rdE r10 (runsOut l : List (List Int)), blkE g1 (.cells #[wa, wb, wc, wd, we] 42), rdE wa (l.Low : List Int), rdE wb (l.High : List Int), rdE wc (l.Start : List LRow), rdE wd (l.Jumps : List Jump), rdE we (l.Bad : List LRow)] H41 from (((((((((((hS41.front 10 rfl).front 10 rfl).front 10 rfl).front 10 rfl).front 10 rfl).front 10 rfl).front 10 rfl).front 10 rfl).front 9 rfl).front 9 rfl).front 10 rfl)) (List.Sublist.cons_cons _ (List.Sublist.cons_cons _ (List.Sublist.cons_cons _ (List.Sublist.cons_cons _ (List.Sublist.cons_cons _ (List.Sublist.cons_cons _ (List.Sublist.cons_cons _ (List.Sublist.cons_cons _ (List.Sublist.cons_cons _ (List.Sublist.cons_cons _ (List.Sublist.cons_cons _ (List.Sublist.slnil))))))))))))); rw [← List.append_nil (ledAll l i)] at h__; exact h__))⟩
  intro m45 f45 H45 hI45
  obtain ⟨k, vp, hm45, hk, a45_1, a45_4, a45_6, a45_7, a45_8, a45_10, hS45⟩ := hI45
  clear a44_1 a44_10 a44_4 a44_6 a44_7 a44_8
  refine wpF_seq ?_
  refine wpF_seq ?_
  refine wpF_cut (fun f H => f 1 = PT g1 0 ∧ f 4 = r10 ∧ f 6 = vp ∧ f 7 = I ((i : Int)) ∧ f 8 = r32o5 ∧ f 10 = I ((k : Int)) ∧ f 71 = B (decide ((k : Int) < ((nextOut l (nth (runsOut l) i)).length : Int))) ∧ H45 = H) ?_ ?_
  · refine wpF_region ?_
    refine wpL_q (U := NoB) rfl (q_move (v := I ((k : Int))) rfl a45_10) ?_
    refine wpL_q (U := NoB) rfl (q_move (v := r32o5) rfl a45_8) ?_
    refine wpL_q (U := NoB) rfl (q_lenRd rfl Try.underlying23 rfl (hS45.rdl 2 rfl)) ?_
    refine wpL_q (U := NoB) rfl (q_lss rfl rfl rfl) ?_
    exact ⟨a45_1, a45_4, a45_6, a45_7, a45_8, a45_10, rfl, rfl⟩
  rintro f46 _ ⟨a46_1, a46_4, a46_6, a46_7, a46_8, a46_10, a46_71, rfl⟩
  clear a45_1 a45_10 a45_4 a45_6 a45_7 a45_8
  refine wpF_condP a46_71 (fun hltk => ?t71) (fun hltk => ?e71)
  case e71 =>
    refine wpF_exit ?_
    refine atX_here ?_
    refine wpF_cut (fun f H => f 1 = PT g1 0 ∧ f 4 = r10 ∧ f 6 = vp ∧ f 7 = I ((i : Int) + 1) ∧ H45 = H) ?_ ?_
    · refine wpF_region ?_
      refine wpL_q (U := NoB) rfl (q_move (v := I ((i : Int))) rfl a46_7) ?_
      refine wpL_q (U := NoB) rfl (q_add rfl rfl rfl (by constructor <;> omega)) ?_
      refine wpL_q (U := NoB) rfl (q_assign (v := I ((i : Int) + 1)) rfl rfl) ?_
      exact ⟨a46_1, a46_4, a46_6, rfl, rfl⟩
    rintro f70 _ ⟨a70_1, a70_4, a70_6, a70_7, rfl⟩
    clear a46_1 a46_10 a46_4 a46_6 a46_7 a46_71 a46_8
    refine ⟨_, ?_, i + 1, vp, rfl, (by omega), a70_1, a70_4, a70_6, (Eq.trans a70_7 (congrArg I (by omega))), (show St H0 NoB NoB [rowE 32 vp (ledAll l (i + 1) : List (List Int)), blkE g14 (.cells #[I ((loopFault l).1), I ((loopFault l).2)] 27), rdE r10 (runsOut l : List (List Int)), blkE g1 (.cells #[wa, wb, wc, wd, we] 42), rdE wa (l.Low : List Int), rdE wb (l.High : List Int), rdE wc (l.Start : List LRow), rdE wd (l.Jumps : List Jump), rdE we (l.Bad : List LRow)] H45 from (by have h__ := (hS45.drop (List.Sublist.cons_cons _ (List.Sublist.cons _ (List.Sublist.cons _ (List.Sublist.cons_cons _ (List.Sublist.cons_cons _ (List.Sublist.cons_cons _ (List.Sublist.cons_cons _ (List.Sublist.cons_cons _ (List.Sublist.cons_cons _ (List.Sublist.cons_cons _ (List.Sublist.cons_cons _ (List.Sublist.slnil))))))))))))); rw [show ledAll l i ++ (nextOut l (nth (runsOut l) i)).take k = ledAll l (i + 1) from by rw [List.take_of_length_le (by omega), hnx.2, hro, ledAll_next]] at h__; exact h__))⟩
    omega
  refine wpF_skip ?_
  refine wpF_seq ?_
  refine wpF_block ?_
  refine wpF_seq ?_
  refine wpF_seq ?_
  obtain ⟨u48, huu48, hlu48⟩ := (Rd.list.1 (hS45.rdS 2 rfl)).elem k (by omega)
  have hS49 : St H0 NoB NoB [rdE u48 (nth (nextOut l (nth (runsOut l) i)) k : List Int), rowE 32 vp (ledAll l i ++ (nextOut l (nth (runsOut l) i)).take k : List (List Int)), blkE g32o9 (.cells #[I ((nextFault l (nth (runsOut l) i)).1), I ((nextFault l (nth (runsOut l) i)).2)] 27), rdE r32o5 (nextOut l (nth (runsOut l) i) : List (List Int)), blkE g14 (.cells #[I ((loopFault l).1), I ((loopFault l).2)] 27), rdE r10 (runsOut l : List (List Int)), blkE g1 (.cells #[wa, wb, wc, wd, we] 42), rdE wa (l.Low : List Int), rdE wb (l.High : List Int), rdE wc (l.Start : List LRow), rdE wd (l.Jumps : List Jump), rdE we (l.Bad : List LRow)] H45 := hS45.rd huu48
  refine wpF_cut (fun f H => f 1 = PT g1 0 ∧ f 4 = r10 ∧ f 6 = vp ∧ f 7 = I ((i : Int)) ∧ f 8 = r32o5 ∧ f 10 = I ((k : Int)) ∧ f 80 = B (decide (¬ ((nth (nextOut l (nth (runsOut l) i)) k) ∈ (runsOut l)))) ∧ St H0 NoB NoB [rowE 32 vp (ledAll l i ++ (nextOut l (nth (runsOut l) i)).take k : List (List Int)), blkE g32o9 (.cells #[I ((nextFault l (nth (runsOut l) i)).1), I ((nextFault l (nth (runsOut l) i)).2)] 27), rdE r32o5 (nextOut l (nth (runsOut l) i) : List (List Int)), blkE g14 (.cells #[I ((loopFault l).1), I ((loopFault l).2)] 27), rdE r10 (runsOut l : List (List Int)), blkE g1 (.cells #[wa, wb, wc, wd, we] 42), rdE wa (l.Low : List Int), rdE wb (l.High : List Int), rdE wc (l.Start : List LRow), rdE wd (l.Jumps : List Jump), rdE we (l.Bad : List LRow)] H) ?_ ?_
  · refine wpF_region ?_
    refine wpL_q (U := NoB) rfl (q_move (v := r10) rfl a46_4) ?_
    refine wpL_q (U := NoB) rfl (q_move (v := r32o5) rfl a46_8) ?_
    refine wpL_q (U := NoB) rfl (q_move (v := I ((k : Int))) rfl a46_10) ?_
    refine wpL_q (U := NoB) rfl (q_indexRd (k := k) rfl Try.underlying23 el_LInt_32_LoopClosed1 rfl rfl (hS45.rdl 2 rfl) (by omega) (by omega)) ?_
    refine wpL_q (U := NoB) rfl (q_loadE rfl rfl (hlu48 Try.prog 32 _ el_LInt_32_LoopClosed1 (fun _ h => False.elim h))) ?_
    refine wpL_o rfl ?_
    refine e_call rfl Try.call35 (arr2 (v0 := r10) (v1 := u48) rfl rfl) (Is_R r10 u48 (runsOut l) (nth (nextOut l (nth (runsOut l) i)) k) (hS49.rdN 5 rfl) (hS49.rdN 0 rfl) ) ?_
    rintro _ H50 ⟨hxx, rfl⟩
    have hS51 : St H0 NoB NoB [rdE u48 (nth (nextOut l (nth (runsOut l) i)) k : List Int), rowE 32 vp (ledAll l i ++ (nextOut l (nth (runsOut l) i)).take k : List (List Int)), blkE g32o9 (.cells #[I ((nextFault l (nth (runsOut l) i)).1), I ((nextFault l (nth (runsOut l) i)).2)] 27), rdE r32o5 (nextOut l (nth (runsOut l) i) : List (List Int)), blkE g14 (.cells #[I ((loopFault l).1), I ((loopFault l).2)] 27), rdE r10 (runsOut l : List (List Int)), blkE g1 (.cells #[wa, wb, wc, wd, we] 42), rdE wa (l.Low : List Int), rdE wb (l.High : List Int), rdE wc (l.Start : List LRow), rdE wd (l.Jumps : List Jump), rdE we (l.Bad : List LRow)] H50 := hS49.ext hxx
    refine wpL_q (U := NoB) rfl (q_notP rfl rfl) ?_
    exact ⟨a46_1, a46_4, a46_6, a46_7, a46_8, a46_10, rfl, (hS51.drop (List.Sublist.cons _ (List.Sublist.cons_cons _ (List.Sublist.cons_cons _ (List.Sublist.cons_cons _ (List.Sublist.cons_cons _ (List.Sublist.cons_cons _ (List.Sublist.cons_cons _ (List.Sublist.cons_cons _ (List.Sublist.cons_cons _ (List.Sublist.cons_cons _ (List.Sublist.cons_cons _ (List.Sublist.cons_cons _ (List.Sublist.slnil))))))))))))))⟩
  rintro f53 H53 ⟨a53_1, a53_4, a53_6, a53_7, a53_8, a53_10, a53_80, hS53⟩
  clear a46_1 a46_10 a46_4 a46_6 a46_7 a46_71 a46_8
  refine wpF_condP a53_80 (fun h80 => ?t69) (fun h80 => ?e69)
  case t69 =>
    refine wpF_seq ?_
    refine wpF_cut (fun f H => f 2 = B (false) ∧ H53 = H) ?_ ?_
    · refine wpF_region ?_
      refine wpL_q (U := NoB) rfl (q_assign (v := B (false)) rfl rfl) ?_
      exact ⟨rfl, rfl⟩
    rintro f55 _ ⟨a55_2, rfl⟩
    clear a53_1 a53_10 a53_4 a53_6 a53_7 a53_8 a53_80
    refine wpF_ret ?_
    refine ⟨_, resT a55_2 resN, hS53.frame, ?_⟩
    show (B (false)) = B true
    exfalso
    rw [hnx.2] at h80 hltk
    rw [hro] at h80 hltk
    exact h80 (come_closed hl hil (nth_mem (by omega)))
  refine wpF_skip ?_
  obtain ⟨u56, huu56, hlu56⟩ := (Rd.list.1 (hS53.rdS 2 rfl)).elem k (by omega)
  have hS57 : St H0 NoB NoB [rdE u56 (nth (nextOut l (nth (runsOut l) i)) k : List Int), rowE 32 vp (ledAll l i ++ (nextOut l (nth (runsOut l) i)).take k : List (List Int)), blkE g32o9 (.cells #[I ((nextFault l (nth (runsOut l) i)).1), I ((nextFault l (nth (runsOut l) i)).2)] 27), rdE r32o5 (nextOut l (nth (runsOut l) i) : List (List Int)), blkE g14 (.cells #[I ((loopFault l).1), I ((loopFault l).2)] 27), rdE r10 (runsOut l : List (List Int)), blkE g1 (.cells #[wa, wb, wc, wd, we] 42), rdE wa (l.Low : List Int), rdE wb (l.High : List Int), rdE wc (l.Start : List LRow), rdE wd (l.Jumps : List Jump), rdE we (l.Bad : List LRow)] H53 := hS53.rd huu56
  refine wpF_cut (fun f H => ∃ (v63 : Value), f 1 = PT g1 0 ∧ f 4 = r10 ∧ f 6 = v63 ∧ f 7 = I ((i : Int)) ∧ f 8 = r32o5 ∧ f 10 = I ((k : Int)) ∧ St H0 NoB NoB [rowE 32 v63 (ledAll l i ++ (nextOut l (nth (runsOut l) i)).take (k + 1) : List (List Int)), blkE g32o9 (.cells #[I ((nextFault l (nth (runsOut l) i)).1), I ((nextFault l (nth (runsOut l) i)).2)] 27), rdE r32o5 (nextOut l (nth (runsOut l) i) : List (List Int)), blkE g14 (.cells #[I ((loopFault l).1), I ((loopFault l).2)] 27), rdE r10 (runsOut l : List (List Int)), blkE g1 (.cells #[wa, wb, wc, wd, we] 42), rdE wa (l.Low : List Int), rdE wb (l.High : List Int), rdE wc (l.Start : List LRow), rdE wd (l.Jumps : List Jump), rdE we (l.Bad : List LRow)] H) ?_ ?_
  · refine wpF_region ?_
    refine wpL_q (U := NoB) rfl (q_move (v := vp) rfl a53_6) ?_
    refine wpL_q (U := NoB) rfl (q_move (v := r32o5) rfl a53_8) ?_
    refine wpL_q (U := NoB) rfl (q_move (v := I ((k : Int))) rfl a53_10) ?_
    refine wpL_q (U := NoB) rfl (q_indexRd (k := k) rfl Try.underlying23 el_LInt_32_LoopClosed1 rfl rfl (hS53.rdl 2 rfl) (by omega) (by omega)) ?_
    refine wpL_q (U := NoB) rfl (q_loadE rfl rfl (hlu56 Try.prog 32 _ el_LInt_32_LoopClosed1 (fun _ h => False.elim h))) ?_
    refine wpL_o rfl ?_
    refine e_buildSlice (vs := [u56]) (xs := ([nth (nextOut l (nth (runsOut l) i)) k] : List (List Int))) rfl Try.underlying23 Try.zeroValue32 rfl Try.sizeOf32 (par1 (v0 := u56) rfl) rfl hS57 (RdVs.cons (hS57.rdS 0 rfl) (RdVs.nil)) (by decide) (by decide) (fun v58 H59 hS60 hxx hvv58 => ?_)
    replace hS60 : St H0 NoB NoB [rowE 32 v58 ([nth (nextOut l (nth (runsOut l) i)) k] : List (List Int)), rdE u56 (nth (nextOut l (nth (runsOut l) i)) k : List Int), rowE 32 vp (ledAll l i ++ (nextOut l (nth (runsOut l) i)).take k : List (List Int)), blkE g32o9 (.cells #[I ((nextFault l (nth (runsOut l) i)).1), I ((nextFault l (nth (runsOut l) i)).2)] 27), rdE r32o5 (nextOut l (nth (runsOut l) i) : List (List Int)), blkE g14 (.cells #[I ((loopFault l).1), I ((loopFault l).2)] 27), rdE r10 (runsOut l : List (List Int)), blkE g1 (.cells #[wa, wb, wc, wd, we] 42), rdE wa (l.Low : List Int), rdE wb (l.High : List Int), rdE wc (l.Start : List LRow), rdE wd (l.Jumps : List Jump), rdE we (l.Bad : List LRow)] H59 := hS60
    have hS61 : St H0 NoB NoB [rdE v58 ([nth (nextOut l (nth (runsOut l) i)) k] : List (List Int)), rdE u56 (nth (nextOut l (nth (runsOut l) i)) k : List Int), rowE 32 vp (ledAll l i ++ (nextOut l (nth (runsOut l) i)).take k : List (List Int)), blkE g32o9 (.cells #[I ((nextFault l (nth (runsOut l) i)).1), I ((nextFault l (nth (runsOut l) i)).2)] 27), rdE r32o5 (nextOut l (nth (runsOut l) i) : List (List Int)), blkE g14 (.cells #[I ((loopFault l).1), I ((loopFault l).2)] 27), rdE r10 (runsOut l : List (List Int)), blkE g1 (.cells #[wa, wb, wc, wd, we] 42), rdE wa (l.Low : List Int), rdE wb (l.High : List Int), rdE wc (l.Start : List LRow), rdE wd (l.Jumps : List Jump), rdE we (l.Bad : List LRow)] H59 := St.fin hS60
    have hS62 : St H0 NoB NoB [rowE 32 vp (ledAll l i ++ (nextOut l (nth (runsOut l) i)).take k : List (List Int)), rdE v58 ([nth (nextOut l (nth (runsOut l) i)) k] : List (List Int)), rdE u56 (nth (nextOut l (nth (runsOut l) i)) k : List Int), blkE g32o9 (.cells #[I ((nextFault l (nth (runsOut l) i)).1), I ((nextFault l (nth (runsOut l) i)).2)] 27), rdE r32o5 (nextOut l (nth (runsOut l) i) : List (List Int)), blkE g14 (.cells #[I ((loopFault l).1), I ((loopFault l).2)] 27), rdE r10 (runsOut l : List (List Int)), blkE g1 (.cells #[wa, wb, wc, wd, we] 42), rdE wa (l.Low : List Int), rdE wb (l.High : List Int), rdE wc (l.Start : List LRow), rdE wd (l.Jumps : List Jump), rdE we (l.Bad : List LRow)] H59 := (hS61.front 2 rfl)
    refine wpL_o rfl ?_
    refine e_append rfl Try.underlying23 em_LInt_32_LoopClosed1 rfl rfl hS62 (hS62.rdS 1 rfl) (fun _ h => h) (by have hb : GoT.bytes (List Int) = 24 := rfl; simp [hb]; omega) (by decide) (fun v63 H64 hS65 hxx => ?_)
    replace hS65 : St H0 NoB NoB [rowE 32 v63 ((ledAll l i ++ (nextOut l (nth (runsOut l) i)).take k) ++ ([nth (nextOut l (nth (runsOut l) i)) k]) : List (List Int)), rdE v58 ([nth (nextOut l (nth (runsOut l) i)) k] : List (List Int)), rdE u56 (nth (nextOut l (nth (runsOut l) i)) k : List Int), blkE g32o9 (.cells #[I ((nextFault l (nth (runsOut l) i)).1), I ((nextFault l (nth (runsOut l) i)).2)] 27), rdE r32o5 (nextOut l (nth (runsOut l) i) : List (List Int)), blkE g14 (.cells #[I ((loopFault l).1), I ((loopFault l).2)] 27), rdE r10 (runsOut l : List (List Int)), blkE g1 (.cells #[wa, wb, wc, wd, we] 42), rdE wa (l.Low : List Int), rdE wb (l.High : List Int), rdE wc (l.Start : List LRow), rdE wd (l.Jumps : List Jump), rdE we (l.Bad : List LRow)] H64 := hS65
    have hS66 : St H0 NoB NoB [rowE 32 v63 (ledAll l i ++ (nextOut l (nth (runsOut l) i)).take (k + 1) : List (List Int)), rdE v58 ([nth (nextOut l (nth (runsOut l) i)) k] : List (List Int)), rdE u56 (nth (nextOut l (nth (runsOut l) i)) k : List Int), blkE g32o9 (.cells #[I ((nextFault l (nth (runsOut l) i)).1), I ((nextFault l (nth (runsOut l) i)).2)] 27), rdE r32o5 (nextOut l (nth (runsOut l) i) : List (List Int)), blkE g14 (.cells #[I ((loopFault l).1), I ((loopFault l).2)] 27), rdE r10 (runsOut l : List (List Int)), blkE g1 (.cells #[wa, wb, wc, wd, we] 42), rdE wa (l.Low : List Int), rdE wb (l.High : List Int), rdE wc (l.Start : List LRow), rdE wd (l.Jumps : List Jump), rdE we (l.Bad : List LRow)] H64 := by rw [show (ledAll l i ++ (nextOut l (nth (runsOut l) i)).take (k + 1)) = ((ledAll l i ++ (nextOut l (nth (runsOut l) i)).take k) ++ ([nth (nextOut l (nth (runsOut l) i)) k])) from (by rw [take_succ_nth (by omega), List.append_assoc])]; exact hS65
    refine wpL_q (U := NoB) rfl (q_assign (v := v63) rfl rfl) ?_
    exact ⟨v63, a53_1, a53_4, rfl, a53_7, a53_8, a53_10, (hS66.drop (List.Sublist.cons_cons _ (List.Sublist.cons _ (List.Sublist.cons _ (List.Sublist.cons_cons _ (List.Sublist.cons_cons _ (List.Sublist.cons_cons _ (List.Sublist.cons_cons _ (List.Sublist.cons_cons _ (List.Sublist.cons_cons _ (List.Sublist.cons_cons _ (List.Sublist.cons_cons _ (List.Sublist.cons_cons _ (List.Sublist.cons_cons _ (List.Sublist.slnil)))))))))))))))⟩
  rintro f67 H67 ⟨v63, a67_1, a67_4, a67_6, a67_7, a67_8, a67_10, hS67⟩
  clear a53_1 a53_10 a53_4 a53_6 a53_7 a53_8 a53_80
  refine wpF_cut (fun f H => f 1 = PT g1 0 ∧ f 4 = r10 ∧ f 6 = v63 ∧ f 7 = I ((i : Int)) ∧ f 8 = r32o5 ∧ f 10 = I ((k : Int) + 1) ∧ H67 = H) ?_ ?_
  · refine wpF_region ?_
    refine wpL_q (U := NoB) rfl (q_move (v := I ((k : Int))) rfl a67_10) ?_
    refine wpL_q (U := NoB) rfl (q_add rfl rfl rfl (by constructor <;> omega)) ?_
    refine wpL_q (U := NoB) rfl (q_assign (v := I ((k : Int) + 1)) rfl rfl) ?_
    exact ⟨a67_1, a67_4, a67_6, a67_7, a67_8, rfl, rfl⟩
  rintro f68 _ ⟨a68_1, a68_4, a68_6, a68_7, a68_8, a68_10, rfl⟩
  clear a67_1 a67_10 a67_4 a67_6 a67_7 a67_8
  refine ⟨_, ?_, k + 1, v63, rfl, (by omega), a68_1, a68_4, a68_6, a68_7, a68_8, (Eq.trans a68_10 (congrArg I (by omega))), hS67⟩
  omega

end Go.Um
