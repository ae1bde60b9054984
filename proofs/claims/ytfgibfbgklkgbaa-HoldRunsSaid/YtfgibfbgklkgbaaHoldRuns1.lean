import Derived.Test.YtfgibfbgklkgbaaProg
import Derived.Test.YtfgibfbgklkgbaaHoldF1
import Derived.Test.YtfgibfbgklkgbaaLoopR2
namespace Go.Um
open Go.Proofs
open GoT (sz ag rdc)
open KeyT (kv)

theorem el_LInt_32_HoldRuns1 : ElT Try.prog (List Int) 32 := ⟨Try.isAgg32, Try.sizeOf32⟩

set_option maxHeartbeats 1000000 in
set_option maxRecDepth 100000 in
theorem HoldRuns_L {H0 : Heap} (wa wb wc wd we vr : Value) (l : Loop) (r : List LRow) (rwa : Rd NoB H0 wa l.Low) (rwb : Rd NoB H0 wb l.High) (rwc : Rd NoB H0 wc l.Start) (rwd : Rd NoB H0 wd l.Jumps) (rwe : Rd NoB H0 we l.Bad) (rr : Rd NoB H0 vr r) : CallsH Try.prog 9 #[Value.agg #[wa, wb, wc, wd, we], vr] H0 (fun rv_ H' => Ext NoB H0 H' ∧ rv_ = B true) := by
  have hs1 := (Rd.list.1 rwa).small
  have hs2 := (Rd.list.1 rwb).small
  have hs4 := (Rd.list.1 rwd).small
  have hsr := (Rd.list.1 rr).small
  have hS0 : St H0 NoB NoB [rdE wa (l.Low : List Int), rdE wb (l.High : List Int), rdE wc (l.Start : List LRow), rdE wd (l.Jumps : List Jump), rdE we (l.Bad : List LRow), rdE vr (r : List LRow)] H0 := St.arg (St.arg (St.arg (St.arg (St.arg (St.arg (St.start (fun _ h => h.elim)) (Bl0.nil) rr (fun _ h => h)) (Bl0.cons (Bl0.nil)) rwe (fun _ h => h)) (Bl0.cons (Bl0.cons (Bl0.nil))) rwd (fun _ h => h)) (Bl0.cons (Bl0.cons (Bl0.cons (Bl0.nil)))) rwc (fun _ h => h)) (Bl0.cons (Bl0.cons (Bl0.cons (Bl0.cons (Bl0.nil))))) rwb (fun _ h => h)) (Bl0.cons (Bl0.cons (Bl0.cons (Bl0.cons (Bl0.cons (Bl0.nil)))))) rwa (fun _ h => h)
  refine callsH_of_wpF (args := [Value.agg #[wa, wb, wc, wd, we], vr]) (rs := [.tmp 4]) Try.func9 rfl Try.ntmps9 Try.results9 (by kernel_rfl) (Nat.le_of_ble_eq_true rfl) ?_
  have a0_0 : argF [Value.agg #[wa, wb, wc, wd, we], vr] 0 = Value.agg #[wa, wb, wc, wd, we] := rfl
  have a0_1 : argF [Value.agg #[wa, wb, wc, wd, we], vr] 1 = vr := rfl
  generalize argF [Value.agg #[wa, wb, wc, wd, we], vr] = f0 at *
  refine wpF_seq ?_
  refine wpF_cut (fun f H => ∃ (g1 : Nat), f 1 = vr ∧ f 2 = PT g1 0 ∧ St H0 NoB NoB [blkE g1 (.cells #[wa, wb, wc, wd, we] 42), rdE wa (l.Low : List Int), rdE wb (l.High : List Int), rdE wc (l.Start : List LRow), rdE wd (l.Jumps : List Jump), rdE we (l.Bad : List LRow), rdE vr (r : List LRow)] H) ?_ ?_
  · refine wpF_region ?_
    refine wpL_o rfl ?_
    refine e_box (v := Value.agg #[wa, wb, wc, wd, we]) rfl a0_0 hS0 (fun g1 H2 hS3 hxx => ?_)
    replace hS3 : St H0 NoB NoB [blkE g1 (.cells #[wa, wb, wc, wd, we] 42), rdE wa (l.Low : List Int), rdE wb (l.High : List Int), rdE wc (l.Start : List LRow), rdE wd (l.Jumps : List Jump), rdE we (l.Bad : List LRow), rdE vr (r : List LRow)] H2 := hS3
    refine wpL_q (U := NoB) rfl (q_assign (v := B (false)) rfl rfl) ?_
    exact ⟨g1, a0_1, rfl, hS3⟩
  rintro f4 H4 ⟨g1, a4_1, a4_2, hS4⟩
  clear a0_0 a0_1
  refine wpF_seq ?_
  refine wpF_cut (fun f H => f 1 = vr ∧ f 2 = PT g1 0 ∧ f 5 = B (true) ∧ St H0 NoB NoB [blkE g1 (.cells #[wa, wb, wc, wd, we] 42), rdE wa (l.Low : List Int), rdE wb (l.High : List Int), rdE wc (l.Start : List LRow), rdE wd (l.Jumps : List Jump), rdE we (l.Bad : List LRow), rdE vr (r : List LRow)] H) ?_ ?_
  · refine wpF_region ?_
    refine wpL_o rfl ?_
    refine e_call rfl Try.call42 arr0 (holdFact) ?_
    rintro _ H5 ⟨hxx, rfl⟩
    have hS6 : St H0 NoB NoB [blkE g1 (.cells #[wa, wb, wc, wd, we] 42), rdE wa (l.Low : List Int), rdE wb (l.High : List Int), rdE wc (l.Start : List LRow), rdE wd (l.Jumps : List Jump), rdE we (l.Bad : List LRow), rdE vr (r : List LRow)] H5 := hS4.ext hxx
    refine wpL_q (U := NoB) rfl (q_assign (v := B (true)) rfl rfl) ?_
    exact ⟨a4_1, a4_2, rfl, hS6⟩
  rintro f8 H8 ⟨a8_1, a8_2, a8_5, hS8⟩
  clear a4_1 a4_2
  refine wpF_seq ?_
  refine wpF_seq ?_
  refine wpF_cut (fun f H => f 1 = vr ∧ f 2 = PT g1 0 ∧ f 17 = B (false) ∧ H8 = H) ?_ ?_
  · refine wpF_region ?_
    refine wpL_q (U := NoB) rfl (q_move (v := B (true)) rfl a8_5) ?_
    refine wpL_q (U := NoB) rfl (q_not rfl rfl) ?_
    exact ⟨a8_1, a8_2, rfl, rfl⟩
  rintro f9 _ ⟨a9_1, a9_2, a9_17, rfl⟩
  clear a8_1 a8_2 a8_5
  refine wpF_condF a9_17 ?_
  refine wpF_skip ?_
  refine wpF_seq ?_
  refine wpF_cut (fun f H => ∃ (g14 : Nat), f 1 = vr ∧ f 2 = PT g1 0 ∧ f 6 = B (keptB l r) ∧ f 8 = PT g14 0 ∧ St H0 NoB NoB [blkE g14 (.cells #[I ((chkFault l r).1), I ((chkFault l r).2)] 27), blkE g1 (.cells #[wa, wb, wc, wd, we] 42), rdE wa (l.Low : List Int), rdE wb (l.High : List Int), rdE wc (l.Start : List LRow), rdE wd (l.Jumps : List Jump), rdE we (l.Bad : List LRow), rdE vr (r : List LRow)] H) ?_ ?_
  · refine wpF_region ?_
    refine wpL_q (U := NoB) rfl (q_loadBlkA rfl a9_2 Try.isAgg42 Try.sizeOf42 rfl (hS8.blk 0 rfl) (fun h => h)) ?_
    refine wpL_q (U := NoB) rfl (q_move (v := vr) rfl a9_1) ?_
    refine wpL_o rfl ?_
    refine e_call rfl Try.call21 (arr2 (v0 := Value.agg #[wa, wb, wc, wd, we]) (v1 := vr) rfl rfl) (Kept_L wa wb wc wd we vr l r (hS8.rdS 1 rfl) (hS8.rdS 2 rfl) (hS8.rdS 3 rfl) (hS8.rdS 4 rfl) (hS8.rdS 5 rfl) (hS8.rdS 6 rfl) ) ?_
    rintro _ H11 ⟨hxx, r10, rfl, hrr10⟩
    have hS12 : St H0 NoB NoB [rdE r10 (keptS l r : List Int), blkE g1 (.cells #[wa, wb, wc, wd, we] 42), rdE wa (l.Low : List Int), rdE wb (l.High : List Int), rdE wc (l.Start : List LRow), rdE wd (l.Jumps : List Jump), rdE we (l.Bad : List LRow), rdE vr (r : List LRow)] H11 := hS8.res hxx hrr10
    refine wpL_q (U := NoB) rfl (q_move (v := Value.tuple #[B (keptB l r), r10, Value.agg #[I ((chkFault l r).1), I ((chkFault l r).2)]]) rfl rfl) ?_
    refine wpL_q (U := NoB) rfl (q_extract (vs := #[B (keptB l r), r10, Value.agg #[I ((chkFault l r).1), I ((chkFault l r).2)]]) (v := B (keptB l r)) rfl rfl rfl) ?_
    refine wpL_q (U := NoB) rfl (q_extract (vs := #[B (keptB l r), r10, Value.agg #[I ((chkFault l r).1), I ((chkFault l r).2)]]) (v := r10) rfl rfl rfl) ?_
    refine wpL_q (U := NoB) rfl (q_extract (vs := #[B (keptB l r), r10, Value.agg #[I ((chkFault l r).1), I ((chkFault l r).2)]]) (v := Value.agg #[I ((chkFault l r).1), I ((chkFault l r).2)]) rfl rfl rfl) ?_
    refine wpL_o rfl ?_
    refine e_alloc rfl Try.zeroValue27 hS12 (fun g14 H15 hS16 hxx => ?_)
    replace hS16 : St H0 NoB NoB [blkE g14 (.cells #[I (0), I (0)] 27), rdE r10 (keptS l r : List Int), blkE g1 (.cells #[wa, wb, wc, wd, we] 42), rdE wa (l.Low : List Int), rdE wb (l.High : List Int), rdE wc (l.Start : List LRow), rdE wd (l.Jumps : List Jump), rdE we (l.Bad : List LRow), rdE vr (r : List LRow)] H15 := hS16
    refine wpL_q (U := NoB) rfl (q_assign (v := B (keptB l r)) rfl rfl) ?_
    refine wpL_q (U := NoB) rfl (q_assign (v := r10) rfl rfl) ?_
    refine wpL_o rfl ?_
    refine e_storeBlkA (cs' := #[I ((chkFault l r).1), I ((chkFault l r).2)]) rfl rfl rfl Try.sizeOf27 rfl rfl (List.forall_mem_cons.2 ⟨rfl, List.forall_mem_cons.2 ⟨rfl, List.forall_mem_nil _⟩⟩) hS16 (fun H17 hS18 hxx => ?_)
    replace hS18 : St H0 NoB NoB [blkE g14 (.cells #[I ((chkFault l r).1), I ((chkFault l r).2)] 27), rdE r10 (keptS l r : List Int), blkE g1 (.cells #[wa, wb, wc, wd, we] 42), rdE wa (l.Low : List Int), rdE wb (l.High : List Int), rdE wc (l.Start : List LRow), rdE wd (l.Jumps : List Jump), rdE we (l.Bad : List LRow), rdE vr (r : List LRow)] H17 := hS18
    exact ⟨g14, a9_1, a9_2, rfl, rfl, (hS18.drop (List.Sublist.cons_cons _ (List.Sublist.cons _ (List.Sublist.cons_cons _ (List.Sublist.cons_cons _ (List.Sublist.cons_cons _ (List.Sublist.cons_cons _ (List.Sublist.cons_cons _ (List.Sublist.cons_cons _ (List.Sublist.cons_cons _ (List.Sublist.slnil)))))))))))⟩
  rintro f19 H19 ⟨g14, a19_1, a19_2, a19_6, a19_8, hS19⟩
  clear a9_1 a9_17 a9_2
  refine wpF_seq ?_
  refine wpF_seq ?_
  refine wpF_cut (fun f H => f 1 = vr ∧ f 2 = PT g1 0 ∧ f 6 = B (keptB l r) ∧ f 8 = PT g14 0 ∧ f 31 = B (decide ((((chkFault l r).1) ≠ 0) ∨ ((!(keptB l r)) = true))) ∧ H19 = H) ?_ ?_
  · refine wpF_region ?_
    refine wpL_q (U := NoB) rfl (q_fieldAddr rfl Try.underlying27 rfl Try.sizeOf3 a19_8) ?_
    refine wpL_q (U := NoB) rfl (q_loadBlk rfl rfl Try.isAgg3 (hS19.blk 0 rfl) rfl (fun h => h)) ?_
    refine wpL_q (U := NoB) rfl (q_neq rfl rfl rfl) ?_
    refine wpL_q (U := NoB) rfl (q_move (v := B (decide (((chkFault l r).1) ≠ 0))) rfl rfl) ?_
    by_cases hg20 : ((chkFault l r).1) ≠ 0
    · have hb21 := Eq.trans rfl (congrArg B (decide_eq_true hg20))
      refine wpL_gs rfl rfl rfl hb21 rfl ?_
      refine wpL_gs rfl rfl rfl hb21 rfl ?_
      refine wpL_q (U := NoB) rfl (q_pickT (v := B (true)) rfl hb21 rfl) ?_
      exact ⟨a19_1, a19_2, a19_6, a19_8, (Eq.trans rfl (congrArg B ((decide_eq_true (Or.inl hg20)).symm))), rfl⟩
    · have hb22 := Eq.trans rfl (congrArg B (decide_eq_false hg20))
      refine wpL_gq (U := NoB) rfl rfl rfl hb22 (q_move (v := B (keptB l r)) rfl a19_6) ?_
      refine wpL_gq (U := NoB) rfl rfl rfl hb22 (q_not rfl rfl) ?_
      refine wpL_q (U := NoB) rfl (q_pickF (v := B (!(keptB l r))) rfl hb22 rfl) ?_
      exact ⟨a19_1, a19_2, a19_6, a19_8, (Eq.trans rfl (congrArg B (bool_congr_of ((Iff.rfl).trans (((or_iff_right hg20).trans Iff.rfl)).symm)))), rfl⟩
  rintro f23 _ ⟨a23_1, a23_2, a23_6, a23_8, a23_31, rfl⟩
  clear a19_1 a19_2 a19_6 a19_8
  refine wpF_condP a23_31 (fun h31 => ?t83) (fun h31 => ?e83)
  case t83 =>
    refine wpF_seq ?_
    refine wpF_cut (fun f H => f 4 = B (!(keptB l r)) ∧ H19 = H) ?_ ?_
    · refine wpF_region ?_
      refine wpL_q (U := NoB) rfl (q_move (v := B (keptB l r)) rfl a23_6) ?_
      refine wpL_q (U := NoB) rfl (q_not rfl rfl) ?_
      refine wpL_q (U := NoB) rfl (q_assign (v := B (!(keptB l r))) rfl rfl) ?_
      exact ⟨rfl, rfl⟩
    rintro f25 _ ⟨a25_4, rfl⟩
    clear a23_1 a23_2 a23_31 a23_6 a23_8
    refine wpF_ret ?_
    refine ⟨_, resT a25_4 resN, hS19.frame, ?_⟩
    show (B (!(keptB l r))) = B true
    have q1 : keptB l r = false := by
      rcases h31 with h | h
      · exact if_pos h
      · simpa using h
    rw [q1]; rfl
  have hcz0 : (chkFault l r).1 = 0 := Decidable.of_not_not fun h => h31 (.inl h)
  obtain ⟨hl, hrz, hcz⟩ := chk_zero hcz0
  have hkb : keptB l r = true := Decidable.of_not_not fun h => h31 (.inr (by simpa using h))
  have hls := kept_yes hkb
  have hro := runs_come hl
  have hrl : (runsOut l).length ≤ 1200 := by rw [hro]; exact comeL_few hl
  have hsll : (statesL l).length ≤ 1200 := allTo_le hl (Nat.le_refl l.Low.length)
  refine wpF_skip ?_
  refine wpF_seq ?_
  refine wpF_cut (fun f H => ∃ (r26 : Value), f 1 = vr ∧ f 2 = PT g1 0 ∧ f 8 = PT g14 0 ∧ f 9 = r26 ∧ St H0 NoB NoB [blkE g14 (.cells #[I ((loopFault l).1), I ((loopFault l).2)] 27), rdE r26 (runsOut l : List (List Int)), blkE g1 (.cells #[wa, wb, wc, wd, we] 42), rdE wa (l.Low : List Int), rdE wb (l.High : List Int), rdE wc (l.Start : List LRow), rdE wd (l.Jumps : List Jump), rdE we (l.Bad : List LRow), rdE vr (r : List LRow)] H) ?_ ?_
  · refine wpF_region ?_
    refine wpL_q (U := NoB) rfl (q_loadBlkA rfl a23_2 Try.isAgg42 Try.sizeOf42 rfl (hS19.blk 1 rfl) (fun h => h)) ?_
    refine wpL_o rfl ?_
    refine e_call rfl Try.call22 (arr1 (v0 := Value.agg #[wa, wb, wc, wd, we]) rfl) (Runs_L wa wb wc wd we l (hS19.rdS 2 rfl) (hS19.rdS 3 rfl) (hS19.rdS 4 rfl) (hS19.rdS 5 rfl) (hS19.rdS 6 rfl) ) ?_
    rintro _ H27 ⟨hxx, r26, rfl, hrr26⟩
    have hS28 : St H0 NoB NoB [rdE r26 (runsOut l : List (List Int)), blkE g14 (.cells #[I ((chkFault l r).1), I ((chkFault l r).2)] 27), blkE g1 (.cells #[wa, wb, wc, wd, we] 42), rdE wa (l.Low : List Int), rdE wb (l.High : List Int), rdE wc (l.Start : List LRow), rdE wd (l.Jumps : List Jump), rdE we (l.Bad : List LRow), rdE vr (r : List LRow)] H27 := hS19.res hxx hrr26
    refine wpL_q (U := NoB) rfl (q_move (v := Value.tuple #[r26, Value.agg #[I ((loopFault l).1), I ((loopFault l).2)]]) rfl rfl) ?_
    refine wpL_q (U := NoB) rfl (q_extract (vs := #[r26, Value.agg #[I ((loopFault l).1), I ((loopFault l).2)]]) (v := r26) rfl rfl rfl) ?_
    refine wpL_q (U := NoB) rfl (q_extract (vs := #[r26, Value.agg #[I ((loopFault l).1), I ((loopFault l).2)]]) (v := Value.agg #[I ((loopFault l).1), I ((loopFault l).2)]) rfl rfl rfl) ?_
    refine wpL_q (U := NoB) rfl (q_assign (v := r26) rfl rfl) ?_
    refine wpL_o rfl ?_
    refine e_storeBlkA (cs' := #[I ((loopFault l).1), I ((loopFault l).2)]) rfl a23_8 rfl Try.sizeOf27 rfl rfl (List.forall_mem_cons.2 ⟨rfl, List.forall_mem_cons.2 ⟨rfl, List.forall_mem_nil _⟩⟩) (hS28.front 1 rfl) (fun H30 hS31 hxx => ?_)
    replace hS31 : St H0 NoB NoB [blkE g14 (.cells #[I ((loopFault l).1), I ((loopFault l).2)] 27), rdE r26 (runsOut l : List (List Int)), blkE g1 (.cells #[wa, wb, wc, wd, we] 42), rdE wa (l.Low : List Int), rdE wb (l.High : List Int), rdE wc (l.Start : List LRow), rdE wd (l.Jumps : List Jump), rdE we (l.Bad : List LRow), rdE vr (r : List LRow)] H30 := hS31
    exact ⟨r26, a23_1, a23_2, a23_8, rfl, hS31⟩
  rintro f32 H32 ⟨r26, a32_1, a32_2, a32_8, a32_9, hS32⟩
  clear a23_1 a23_2 a23_31 a23_6 a23_8
  refine wpF_seq ?_
  refine wpF_seq ?_
  refine wpF_cut (fun f H => f 1 = vr ∧ f 2 = PT g1 0 ∧ f 8 = PT g14 0 ∧ f 9 = r26 ∧ f 41 = B (decide (((loopFault l).1) ≠ 0)) ∧ H32 = H) ?_ ?_
  · refine wpF_region ?_
    refine wpL_q (U := NoB) rfl (q_fieldAddr rfl Try.underlying27 rfl Try.sizeOf3 a32_8) ?_
    refine wpL_q (U := NoB) rfl (q_loadBlk rfl rfl Try.isAgg3 (hS32.blk 0 rfl) rfl (fun h => h)) ?_
    refine wpL_q (U := NoB) rfl (q_neq rfl rfl rfl) ?_
    exact ⟨a32_1, a32_2, a32_8, a32_9, rfl, rfl⟩
  rintro f33 _ ⟨a33_1, a33_2, a33_8, a33_9, a33_41, rfl⟩
  clear a32_1 a32_2 a32_8 a32_9
  refine wpF_condP a33_41 (fun h41 => ?t82) (fun h41 => ?e82)
  case t82 =>
    refine wpF_seq ?_
    refine wpF_cut (fun f H => f 4 = B (false) ∧ H32 = H) ?_ ?_
    · refine wpF_region ?_
      refine wpL_q (U := NoB) rfl (q_assign (v := B (false)) rfl rfl) ?_
      exact ⟨rfl, rfl⟩
    rintro f35 _ ⟨a35_4, rfl⟩
    clear a33_1 a33_2 a33_41 a33_8 a33_9
    refine wpF_ret ?_
    refine ⟨_, resT a35_4 resN, hS32.frame, ?_⟩
    show (B (false)) = B true
    exfalso
    exact h41 (by rw [hl.code])
  refine wpF_skip ?_
  refine wpF_seq ?_
  refine wpF_seq ?_
  refine wpF_cut (fun f H => f 1 = vr ∧ f 2 = PT g1 0 ∧ f 8 = PT g14 0 ∧ f 9 = r26 ∧ f 10 = I (0) ∧ H32 = H) ?_ ?_
  · refine wpF_region ?_
    refine wpL_q (U := NoB) rfl (q_assign (v := I (0)) rfl rfl) ?_
    exact ⟨a33_1, a33_2, a33_8, a33_9, rfl, rfl⟩
  rintro f36 _ ⟨a36_1, a36_2, a36_8, a36_9, a36_10, rfl⟩
  clear a33_1 a33_2 a33_41 a33_8 a33_9
  refine wpF_block ?_
  refine wpF_loop (fun mz f H => ∃ (i : Nat), mz = (runsOut l).length - i ∧ (i ≤ (runsOut l).length) ∧ f 1 = vr ∧ f 2 = PT g1 0 ∧ f 8 = PT g14 0 ∧ f 9 = r26 ∧ f 10 = I ((i : Int)) ∧ St H0 NoB NoB [blkE g14 (.cells #[I ((loopFault l).1), I ((loopFault l).2)] 27), rdE r26 (runsOut l : List (List Int)), blkE g1 (.cells #[wa, wb, wc, wd, we] 42), rdE wa (l.Low : List Int), rdE wb (l.High : List Int), rdE wc (l.Start : List LRow), rdE wd (l.Jumps : List Jump), rdE we (l.Bad : List LRow), rdE vr (r : List LRow)] H) ((runsOut l).length - 0) ?_ ?_
  · exact ⟨0, rfl, Nat.zero_le _, a36_1, a36_2, a36_8, a36_9, (Eq.trans a36_10 (congrArg I (by omega))), hS32⟩
  intro m37 f37 H37 hI37
  obtain ⟨i, hm37, hi, a37_1, a37_2, a37_8, a37_9, a37_10, hS37⟩ := hI37
  clear a36_1 a36_10 a36_2 a36_8 a36_9
  refine wpF_seq ?_
  refine wpF_seq ?_
  refine wpF_cut (fun f H => f 1 = vr ∧ f 2 = PT g1 0 ∧ f 8 = PT g14 0 ∧ f 9 = r26 ∧ f 10 = I ((i : Int)) ∧ f 45 = B (decide ((i : Int) < ((runsOut l).length : Int))) ∧ H37 = H) ?_ ?_
  · refine wpF_region ?_
    refine wpL_q (U := NoB) rfl (q_move (v := I ((i : Int))) rfl a37_10) ?_
    refine wpL_q (U := NoB) rfl (q_move (v := r26) rfl a37_9) ?_
    refine wpL_q (U := NoB) rfl (q_lenRd rfl Try.underlying23 rfl (hS37.rdl 1 rfl)) ?_
    refine wpL_q (U := NoB) rfl (q_lss rfl rfl rfl) ?_
    exact ⟨a37_1, a37_2, a37_8, a37_9, a37_10, rfl, rfl⟩
  rintro f38 _ ⟨a38_1, a38_2, a38_8, a38_9, a38_10, a38_45, rfl⟩
  clear a37_1 a37_10 a37_2 a37_8 a37_9
  refine wpF_condP a38_45 (fun hlt => ?t81) (fun hlt => ?e81)
  case t81 =>
    have hst := comeL_st hl (by rw [← hro]; exact nth_mem (l := runsOut l) (k := i) (by omega))
    refine wpF_skip ?_
    refine wpF_seq ?_
    refine wpF_block ?_
    refine wpF_seq ?_
    obtain ⟨u40, huu40, hlu40⟩ := (Rd.list.1 (hS37.rdS 1 rfl)).elem i (by omega)
    have hS41 : St H0 NoB NoB [rdE u40 (nth (runsOut l) i : List Int), blkE g14 (.cells #[I ((loopFault l).1), I ((loopFault l).2)] 27), rdE r26 (runsOut l : List (List Int)), blkE g1 (.cells #[wa, wb, wc, wd, we] 42), rdE wa (l.Low : List Int), rdE wb (l.High : List Int), rdE wc (l.Start : List LRow), rdE wd (l.Jumps : List Jump), rdE we (l.Bad : List LRow), rdE vr (r : List LRow)] H37 := hS37.rd huu40
    refine wpF_cut (fun f H => f 1 = vr ∧ f 2 = PT g1 0 ∧ f 8 = PT g14 0 ∧ f 9 = r26 ∧ f 10 = I ((i : Int)) ∧ f 54 = B (!(holdB r (nth (runsOut l) i))) ∧ St H0 NoB NoB [blkE g14 (.cells #[I ((loopFault l).1), I ((loopFault l).2)] 27), rdE r26 (runsOut l : List (List Int)), blkE g1 (.cells #[wa, wb, wc, wd, we] 42), rdE wa (l.Low : List Int), rdE wb (l.High : List Int), rdE wc (l.Start : List LRow), rdE wd (l.Jumps : List Jump), rdE we (l.Bad : List LRow), rdE vr (r : List LRow)] H) ?_ ?_
    · refine wpF_region ?_
      refine wpL_q (U := NoB) rfl (q_move (v := vr) rfl a38_1) ?_
      refine wpL_q (U := NoB) rfl (q_move (v := r26) rfl a38_9) ?_
      refine wpL_q (U := NoB) rfl (q_move (v := I ((i : Int))) rfl a38_10) ?_
      refine wpL_q (U := NoB) rfl (q_indexRd (k := i) rfl Try.underlying23 el_LInt_32_HoldRuns1 rfl rfl (hS37.rdl 1 rfl) (by omega) (by omega)) ?_
      refine wpL_q (U := NoB) rfl (q_loadE rfl rfl (hlu40 Try.prog 32 _ el_LInt_32_HoldRuns1 (fun _ h => False.elim h))) ?_
      refine wpL_o rfl ?_
      refine e_call rfl Try.call33 (arr2 (v0 := vr) (v1 := u40) rfl rfl) (Hold_R vr u40 r (nth (runsOut l) i) (hS41.rdN 9 rfl) (hS41.rdN 0 rfl) (holdok_st hl hrz hst)) ?_
      rintro _ H42 ⟨hxx, rfl⟩
      have hS43 : St H0 NoB NoB [rdE u40 (nth (runsOut l) i : List Int), blkE g14 (.cells #[I ((loopFault l).1), I ((loopFault l).2)] 27), rdE r26 (runsOut l : List (List Int)), blkE g1 (.cells #[wa, wb, wc, wd, we] 42), rdE wa (l.Low : List Int), rdE wb (l.High : List Int), rdE wc (l.Start : List LRow), rdE wd (l.Jumps : List Jump), rdE we (l.Bad : List LRow), rdE vr (r : List LRow)] H42 := hS41.ext hxx
      refine wpL_q (U := NoB) rfl (q_not rfl rfl) ?_
      exact ⟨a38_1, a38_2, a38_8, a38_9, a38_10, rfl, (hS43.drop (List.Sublist.cons _ (List.Sublist.cons_cons _ (List.Sublist.cons_cons _ (List.Sublist.cons_cons _ (List.Sublist.cons_cons _ (List.Sublist.cons_cons _ (List.Sublist.cons_cons _ (List.Sublist.cons_cons _ (List.Sublist.cons_cons _ (List.Sublist.cons_cons _ (List.Sublist.slnil))))))))))))⟩
    rintro f45 H45 ⟨a45_1, a45_2, a45_8, a45_9, a45_10, a45_54, hS45⟩
    clear a38_1 a38_10 a38_2 a38_45 a38_8 a38_9
    refine wpF_cond a45_54 (fun h54 => ?t49) (fun h54 => ?e49)
    case e49 =>
      refine wpF_skip ?_
      refine wpF_cut (fun f H => f 1 = vr ∧ f 2 = PT g1 0 ∧ f 8 = PT g14 0 ∧ f 9 = r26 ∧ f 10 = I ((i : Int) + 1) ∧ H45 = H) ?_ ?_
      · refine wpF_region ?_
        refine wpL_q (U := NoB) rfl (q_move (v := I ((i : Int))) rfl a45_10) ?_
        refine wpL_q (U := NoB) rfl (q_add rfl rfl rfl (by constructor <;> omega)) ?_
        refine wpL_q (U := NoB) rfl (q_assign (v := I ((i : Int) + 1)) rfl rfl) ?_
        exact ⟨a45_1, a45_2, a45_8, a45_9, rfl, rfl⟩
      rintro f48 _ ⟨a48_1, a48_2, a48_8, a48_9, a48_10, rfl⟩
      clear a45_1 a45_10 a45_2 a45_54 a45_8 a45_9
      refine ⟨_, ?_, i + 1, rfl, (by omega), a48_1, a48_2, a48_8, a48_9, (Eq.trans a48_10 (congrArg I (by omega))), hS45⟩
      omega
    refine wpF_seq ?_
    refine wpF_cut (fun f H => f 4 = B (false) ∧ H45 = H) ?_ ?_
    · refine wpF_region ?_
      refine wpL_q (U := NoB) rfl (q_assign (v := B (false)) rfl rfl) ?_
      exact ⟨rfl, rfl⟩
    rintro f47 _ ⟨a47_4, rfl⟩
    clear a45_1 a45_10 a45_2 a45_54 a45_8 a45_9
    refine wpF_ret ?_
    refine ⟨_, resT a47_4 resN, hS45.frame, ?_⟩
    show (B (false)) = B true
    exfalso
    have h1 := kept_runs hl hls i (by rw [← hro]; omega)
    rw [← hro] at h1
    rw [h1] at h54
    cases h54
  refine wpF_exit ?_
  refine atX_here ?_
  refine wpF_seq ?_
  refine wpF_cut (fun f H => ∃ (r50 : Value), f 1 = vr ∧ f 2 = PT g1 0 ∧ f 8 = PT g14 0 ∧ f 11 = r50 ∧ St H0 NoB NoB [rdE r50 (statesF l l.Low.length [] : List (List Int)), blkE g14 (.cells #[I ((loopFault l).1), I ((loopFault l).2)] 27), blkE g1 (.cells #[wa, wb, wc, wd, we] 42), rdE wa (l.Low : List Int), rdE wb (l.High : List Int), rdE wc (l.Start : List LRow), rdE wd (l.Jumps : List Jump), rdE we (l.Bad : List LRow), rdE vr (r : List LRow)] H) ?_ ?_
  · refine wpF_region ?_
    refine wpL_q (U := NoB) rfl (q_loadBlkA rfl a38_2 Try.isAgg42 Try.sizeOf42 rfl (hS37.blk 2 rfl) (fun h => h)) ?_
    refine wpL_o rfl ?_
    refine e_call rfl Try.call40 (arr2 (v0 := Value.agg #[wa, wb, wc, wd, we]) (v1 := (Value.slice none 0 0)) rfl rfl) (States_R _ wa wb wc wd we ((Value.slice none 0 0)) l [] (hS37.rdS 3 rfl) (hS37.rdS 4 rfl) (hS37.rdS 5 rfl) (hS37.rdS 6 rfl) (hS37.rdS 7 rfl) rdNil hl (Nat.zero_le _) rfl) ?_
    rintro r50 H51 ⟨hxx, hrr50⟩
    have hS52 : St H0 NoB NoB [rdE r50 (statesF l l.Low.length [] : List (List Int)), blkE g14 (.cells #[I ((loopFault l).1), I ((loopFault l).2)] 27), rdE r26 (runsOut l : List (List Int)), blkE g1 (.cells #[wa, wb, wc, wd, we] 42), rdE wa (l.Low : List Int), rdE wb (l.High : List Int), rdE wc (l.Start : List LRow), rdE wd (l.Jumps : List Jump), rdE we (l.Bad : List LRow), rdE vr (r : List LRow)] H51 := hS37.res hxx hrr50
    refine wpL_q (U := NoB) rfl (q_assign (v := r50) rfl rfl) ?_
    exact ⟨r50, a38_1, a38_2, a38_8, rfl, (hS52.drop (List.Sublist.cons_cons _ (List.Sublist.cons_cons _ (List.Sublist.cons _ (List.Sublist.cons_cons _ (List.Sublist.cons_cons _ (List.Sublist.cons_cons _ (List.Sublist.cons_cons _ (List.Sublist.cons_cons _ (List.Sublist.cons_cons _ (List.Sublist.cons_cons _ (List.Sublist.slnil))))))))))))⟩
  rintro f54 H54 ⟨r50, a54_1, a54_2, a54_8, a54_11, hS54⟩
  clear a38_1 a38_10 a38_2 a38_45 a38_8 a38_9
  have hS55 : St H0 NoB NoB [rdE r50 (statesL l : List (List Int)), blkE g14 (.cells #[I ((loopFault l).1), I ((loopFault l).2)] 27), blkE g1 (.cells #[wa, wb, wc, wd, we] 42), rdE wa (l.Low : List Int), rdE wb (l.High : List Int), rdE wc (l.Start : List LRow), rdE wd (l.Jumps : List Jump), rdE we (l.Bad : List LRow), rdE vr (r : List LRow)] H54 := by have h__ := hS54; rw [states_same hl] at h__; exact h__
  refine wpF_seq ?_
  refine wpF_seq ?_
  refine wpF_cut (fun f H => f 1 = vr ∧ f 2 = PT g1 0 ∧ f 8 = PT g14 0 ∧ f 11 = r50 ∧ f 12 = I (0) ∧ H54 = H) ?_ ?_
  · refine wpF_region ?_
    refine wpL_q (U := NoB) rfl (q_assign (v := I (0)) rfl rfl) ?_
    exact ⟨a54_1, a54_2, a54_8, a54_11, rfl, rfl⟩
  rintro f56 _ ⟨a56_1, a56_2, a56_8, a56_11, a56_12, rfl⟩
  clear a54_1 a54_11 a54_2 a54_8
  refine wpF_block ?_
  refine wpF_loop (fun mz f H => ∃ (i2 : Nat), mz = (statesL l).length - i2 ∧ (i2 ≤ (statesL l).length) ∧ (∀ j, j < i2 → ¬ (holdB r (nth (statesL l) j) = true ∧ holdB l.Bad (nth (statesL l) j) = true)) ∧ f 1 = vr ∧ f 2 = PT g1 0 ∧ f 8 = PT g14 0 ∧ f 11 = r50 ∧ f 12 = I ((i2 : Int)) ∧ St H0 NoB NoB [rdE r50 (statesL l : List (List Int)), blkE g14 (.cells #[I ((loopFault l).1), I ((loopFault l).2)] 27), blkE g1 (.cells #[wa, wb, wc, wd, we] 42), rdE wa (l.Low : List Int), rdE wb (l.High : List Int), rdE wc (l.Start : List LRow), rdE wd (l.Jumps : List Jump), rdE we (l.Bad : List LRow), rdE vr (r : List LRow)] H) ((statesL l).length - 0) ?_ ?_
  · exact ⟨0, rfl, Nat.zero_le _, (fun j hj => absurd hj (Nat.not_lt_zero j)), a56_1, a56_2, a56_8, a56_11, (Eq.trans a56_12 (congrArg I (by omega))), hS55⟩
  intro m57 f57 H57 hI57
  obtain ⟨i2, hm57, hi2, hno, a57_1, a57_2, a57_8, a57_11, a57_12, hS57⟩ := hI57
  clear a56_1 a56_11 a56_12 a56_2 a56_8
  refine wpF_seq ?_
  refine wpF_seq ?_
  refine wpF_cut (fun f H => f 1 = vr ∧ f 2 = PT g1 0 ∧ f 8 = PT g14 0 ∧ f 11 = r50 ∧ f 12 = I ((i2 : Int)) ∧ f 60 = B (decide ((i2 : Int) < ((statesL l).length : Int))) ∧ H57 = H) ?_ ?_
  · refine wpF_region ?_
    refine wpL_q (U := NoB) rfl (q_move (v := I ((i2 : Int))) rfl a57_12) ?_
    refine wpL_q (U := NoB) rfl (q_move (v := r50) rfl a57_11) ?_
    refine wpL_q (U := NoB) rfl (q_lenRd rfl Try.underlying23 rfl (hS57.rdl 0 rfl)) ?_
    refine wpL_q (U := NoB) rfl (q_lss rfl rfl rfl) ?_
    exact ⟨a57_1, a57_2, a57_8, a57_11, a57_12, rfl, rfl⟩
  rintro f58 _ ⟨a58_1, a58_2, a58_8, a58_11, a58_12, a58_60, rfl⟩
  clear a57_1 a57_11 a57_12 a57_2 a57_8
  refine wpF_condP a58_60 (fun hlt2 => ?t80) (fun hlt2 => ?e80)
  case e80 =>
    refine wpF_exit ?_
    refine atX_here ?_
    refine wpF_seq ?_
    refine wpF_cut (fun f H => f 8 = PT g14 0 ∧ f 14 = B (badB l) ∧ St H0 NoB NoB [blkE g14 (.cells #[I ((loopFault l).1), I ((loopFault l).2)] 27), blkE g1 (.cells #[wa, wb, wc, wd, we] 42), rdE wa (l.Low : List Int), rdE wb (l.High : List Int), rdE wc (l.Start : List LRow), rdE wd (l.Jumps : List Jump), rdE we (l.Bad : List LRow), rdE vr (r : List LRow)] H) ?_ ?_
    · refine wpF_region ?_
      refine wpL_q (U := NoB) rfl (q_loadBlkA rfl a58_2 Try.isAgg42 Try.sizeOf42 rfl (hS57.blk 2 rfl) (fun h => h)) ?_
      refine wpL_o rfl ?_
      refine e_call rfl Try.call23 (arr1 (v0 := Value.agg #[wa, wb, wc, wd, we]) rfl) (Bad_L wa wb wc wd we l (hS57.rdS 3 rfl) (hS57.rdS 4 rfl) (hS57.rdS 5 rfl) (hS57.rdS 6 rfl) (hS57.rdS 7 rfl) ) ?_
      rintro _ H70 ⟨hxx, r69, rfl, hrr69⟩
      have hS71 : St H0 NoB NoB [rdE r69 (badL l : List (List Int)), rdE r50 (statesL l : List (List Int)), blkE g14 (.cells #[I ((loopFault l).1), I ((loopFault l).2)] 27), blkE g1 (.cells #[wa, wb, wc, wd, we] 42), rdE wa (l.Low : List Int), rdE wb (l.High : List Int), rdE wc (l.Start : List LRow), rdE wd (l.Jumps : List Jump), rdE we (l.Bad : List LRow), rdE vr (r : List LRow)] H70 := hS57.res hxx hrr69
      refine wpL_q (U := NoB) rfl (q_move (v := Value.tuple #[r69, B (badB l), Value.agg #[I ((loopFault l).1), I ((loopFault l).2)]]) rfl rfl) ?_
      refine wpL_q (U := NoB) rfl (q_extract (vs := #[r69, B (badB l), Value.agg #[I ((loopFault l).1), I ((loopFault l).2)]]) (v := r69) rfl rfl rfl) ?_
      refine wpL_q (U := NoB) rfl (q_extract (vs := #[r69, B (badB l), Value.agg #[I ((loopFault l).1), I ((loopFault l).2)]]) (v := B (badB l)) rfl rfl rfl) ?_
      refine wpL_q (U := NoB) rfl (q_extract (vs := #[r69, B (badB l), Value.agg #[I ((loopFault l).1), I ((loopFault l).2)]]) (v := Value.agg #[I ((loopFault l).1), I ((loopFault l).2)]) rfl rfl rfl) ?_
      refine wpL_q (U := NoB) rfl (q_assign (v := r69) rfl rfl) ?_
      refine wpL_q (U := NoB) rfl (q_assign (v := B (badB l)) rfl rfl) ?_
      refine wpL_o rfl ?_
      refine e_storeBlkA (cs' := #[I ((loopFault l).1), I ((loopFault l).2)]) rfl a58_8 rfl Try.sizeOf27 rfl rfl (List.forall_mem_cons.2 ⟨rfl, List.forall_mem_cons.2 ⟨rfl, List.forall_mem_nil _⟩⟩) (hS71.front 2 rfl) (fun H73 hS74 hxx => ?_)
      replace hS74 : St H0 NoB NoB [blkE g14 (.cells #[I ((loopFault l).1), I ((loopFault l).2)] 27), rdE r69 (badL l : List (List Int)), rdE r50 (statesL l : List (List Int)), blkE g1 (.cells #[wa, wb, wc, wd, we] 42), rdE wa (l.Low : List Int), rdE wb (l.High : List Int), rdE wc (l.Start : List LRow), rdE wd (l.Jumps : List Jump), rdE we (l.Bad : List LRow), rdE vr (r : List LRow)] H73 := hS74
      exact ⟨a58_8, rfl, (hS74.drop (List.Sublist.cons_cons _ (List.Sublist.cons _ (List.Sublist.cons _ (List.Sublist.cons_cons _ (List.Sublist.cons_cons _ (List.Sublist.cons_cons _ (List.Sublist.cons_cons _ (List.Sublist.cons_cons _ (List.Sublist.cons_cons _ (List.Sublist.cons_cons _ (List.Sublist.slnil))))))))))))⟩
    rintro f75 H75 ⟨a75_8, a75_14, hS75⟩
    clear a58_1 a58_11 a58_12 a58_2 a58_60 a58_8
    refine wpF_seq ?_
    refine wpF_cut (fun f H => f 4 = B (decide ((((loopFault l).1) = 0) ∧ ((!(badB l)) = true))) ∧ H75 = H) ?_ ?_
    · refine wpF_region ?_
      refine wpL_q (U := NoB) rfl (q_fieldAddr rfl Try.underlying27 rfl Try.sizeOf3 a75_8) ?_
      refine wpL_q (U := NoB) rfl (q_loadBlk rfl rfl Try.isAgg3 (hS75.blk 0 rfl) rfl (fun h => h)) ?_
      refine wpL_q (U := NoB) rfl (q_eql rfl rfl rfl) ?_
      refine wpL_q (U := NoB) rfl (q_move (v := B (decide (((loopFault l).1) = 0))) rfl rfl) ?_
      by_cases hg76 : ((loopFault l).1) = 0
      · have hb77 := Eq.trans rfl (congrArg B (decide_eq_true hg76))
        refine wpL_gq (U := NoB) rfl rfl rfl hb77 (q_move (v := B (badB l)) rfl a75_14) ?_
        refine wpL_gq (U := NoB) rfl rfl rfl hb77 (q_not rfl rfl) ?_
        refine wpL_q (U := NoB) rfl (q_pickT (v := B (!(badB l))) rfl hb77 rfl) ?_
        refine wpL_q (U := NoB) rfl (q_assign (v := B (!(badB l))) rfl rfl) ?_
        exact ⟨(Eq.trans rfl (congrArg B (bool_congr_of ((Iff.rfl).trans (((and_iff_right hg76).trans Iff.rfl)).symm)))), rfl⟩
      · have hb78 := Eq.trans rfl (congrArg B (decide_eq_false hg76))
        refine wpL_gs rfl rfl rfl hb78 rfl ?_
        refine wpL_gs rfl rfl rfl hb78 rfl ?_
        refine wpL_q (U := NoB) rfl (q_pickF (v := B (false)) rfl hb78 rfl) ?_
        refine wpL_q (U := NoB) rfl (q_assign (v := B (false)) rfl rfl) ?_
        exact ⟨(Eq.trans rfl (congrArg B ((decide_eq_false (fun h => hg76 h.1)).symm))), rfl⟩
    rintro f79 _ ⟨a79_4, rfl⟩
    clear a75_14 a75_8
    refine wpF_ret ?_
    refine ⟨_, resT a79_4 resN, hS75.frame, ?_⟩
    show (B (decide ((((loopFault l).1) = 0) ∧ ((!(badB l)) = true)))) = B true
    have hbn := kept_bad hl hls fun j hj => hno j (by omega)
    exact congrArg B (decide_eq_true ⟨by rw [hl.code], by rw [hbn]; rfl⟩)
  have hst := state_st hl (i := i2) (by omega)
  refine wpF_skip ?_
  refine wpF_seq ?_
  refine wpF_block ?_
  refine wpF_seq ?_
  obtain ⟨u60o4, huu60o4, hlu60o4⟩ := (Rd.list.1 (hS57.rdS 0 rfl)).elem i2 (by omega)
  have hS60o4 : St H0 NoB NoB [rdE u60o4 (nth (statesL l) i2 : List Int), rdE r50 (statesL l : List (List Int)), blkE g14 (.cells #[I ((loopFault l).1), I ((loopFault l).2)] 27), blkE g1 (.cells #[wa, wb, wc, wd, we] 42), rdE wa (l.Low : List Int), rdE wb (l.High : List Int), rdE wc (l.Start : List LRow), rdE wd (l.Jumps : List Jump), rdE we (l.Bad : List LRow), rdE vr (r : List LRow)] H57 := hS57.rd huu60o4
  refine wpF_cut (fun f H => f 1 = vr ∧ f 2 = PT g1 0 ∧ f 8 = PT g14 0 ∧ f 11 = r50 ∧ f 12 = I ((i2 : Int)) ∧ f 77 = B (decide (((holdB r (nth (statesL l) i2)) = true) ∧ ((holdB l.Bad (nth (statesL l) i2)) = true))) ∧ St H0 NoB NoB [rdE r50 (statesL l : List (List Int)), blkE g14 (.cells #[I ((loopFault l).1), I ((loopFault l).2)] 27), blkE g1 (.cells #[wa, wb, wc, wd, we] 42), rdE wa (l.Low : List Int), rdE wb (l.High : List Int), rdE wc (l.Start : List LRow), rdE wd (l.Jumps : List Jump), rdE we (l.Bad : List LRow), rdE vr (r : List LRow)] H) ?_ ?_
  · refine wpF_drawn [] [] (fun _ _ => False) (by kernel_rfl) (by kernel_rfl) ?_
    refine wpR_q 0 (by kernel_rfl) rfl (quietAt rfl rfl (q_move (v := vr) rfl a58_1)) ?_
    refine wpR_q 1 (by kernel_rfl) rfl (quietAt rfl rfl (q_move (v := r50) rfl a58_11)) ?_
    refine wpR_q 2 (by kernel_rfl) rfl (quietAt rfl rfl (q_move (v := I ((i2 : Int))) rfl a58_12)) ?_
    refine wpR_q 3 (by kernel_rfl) rfl (quietAt rfl rfl (q_indexRd (k := i2) rfl Try.underlying23 el_LInt_32_HoldRuns1 rfl rfl (hS57.rdl 0 rfl) (by omega) (by omega))) ?_
    refine wpR_q 4 (by kernel_rfl) rfl (quietAt rfl rfl (q_loadE rfl rfl (hlu60o4 Try.prog 32 _ el_LInt_32_HoldRuns1 (labU_sub [] rfl (List.forall_mem_nil _))))) ?_
    refine wpR_n [5] (by kernel_rfl) ?_
    refine List.forall_mem_cons.2 ⟨?_, List.forall_mem_nil _⟩
    refine exE rfl rfl ?_
    refine e_call rfl Try.call33 (arr2 (v0 := vr) (v1 := u60o4) rfl rfl) (Hold_R vr u60o4 r (nth (statesL l) i2) (hS60o4.rdN 9 rfl) (hS60o4.rdN 0 rfl) (holdok_st hl hrz hst)) ?_
    rintro _ H60o5 ⟨hxx, rfl⟩
    have hS60o5 : St H0 NoB NoB [rdE u60o4 (nth (statesL l) i2 : List Int), rdE r50 (statesL l : List (List Int)), blkE g14 (.cells #[I ((loopFault l).1), I ((loopFault l).2)] 27), blkE g1 (.cells #[wa, wb, wc, wd, we] 42), rdE wa (l.Low : List Int), rdE wb (l.High : List Int), rdE wc (l.Start : List LRow), rdE wd (l.Jumps : List Jump), rdE we (l.Bad : List LRow), rdE vr (r : List LRow)] H60o5 := hS60o4.ext hxx
    refine ⟨Ext.mono hxx (fun _ h => h.elim), ?_⟩
    refine wpR_q 6 (by kernel_rfl) rfl (quietAt rfl rfl (q_move (v := B (holdB r (nth (statesL l) i2))) rfl rfl)) ?_
    by_cases hg61 : (holdB r (nth (statesL l) i2)) = true
    · have hb62 := Eq.trans rfl (congrArg B hg61)
      refine wpR_q 7 (by kernel_rfl) rfl (quietAt_g rfl rfl rfl rfl hb62 (q_fieldAddr rfl Try.underlying42 rfl Try.sizeOf22 a58_2)) ?_
      refine wpR_q 8 (by kernel_rfl) rfl (quietAt_g rfl rfl rfl rfl hb62 (q_loadBlk rfl rfl Try.isAgg22 (hS60o5.blk 3 rfl) rfl (labU_not [] rfl (List.forall_mem_nil _)))) ?_
      refine wpR_q 9 (by kernel_rfl) rfl (quietAt_g rfl rfl rfl rfl hb62 (q_move (v := r50) rfl a58_11)) ?_
      refine wpR_q 10 (by kernel_rfl) rfl (quietAt_g rfl rfl rfl rfl hb62 (q_move (v := I ((i2 : Int))) rfl a58_12)) ?_
      refine wpR_q 11 (by kernel_rfl) rfl (quietAt_g rfl rfl rfl rfl hb62 (q_indexRd (k := i2) rfl Try.underlying23 el_LInt_32_HoldRuns1 rfl rfl (hS60o5.rdl 1 rfl) (by omega) (by omega))) ?_
      obtain ⟨u60o12, huu60o12, hlu60o12⟩ := (Rd.list.1 (hS60o5.rdS 1 rfl)).elem i2 (by omega)
      have hS60o12 : St H0 NoB NoB [rdE u60o12 (nth (statesL l) i2 : List Int), rdE u60o4 (nth (statesL l) i2 : List Int), rdE r50 (statesL l : List (List Int)), blkE g14 (.cells #[I ((loopFault l).1), I ((loopFault l).2)] 27), blkE g1 (.cells #[wa, wb, wc, wd, we] 42), rdE wa (l.Low : List Int), rdE wb (l.High : List Int), rdE wc (l.Start : List LRow), rdE wd (l.Jumps : List Jump), rdE we (l.Bad : List LRow), rdE vr (r : List LRow)] H60o5 := hS60o5.rd huu60o12
      refine wpR_q 12 (by kernel_rfl) rfl (quietAt_g rfl rfl rfl rfl hb62 (q_loadE rfl rfl (hlu60o12 Try.prog 32 _ el_LInt_32_HoldRuns1 (labU_sub [] rfl (List.forall_mem_nil _))))) ?_
      refine wpR_n [13] (by kernel_rfl) ?_
      refine List.forall_mem_cons.2 ⟨?_, List.forall_mem_nil _⟩
      refine exE_g rfl rfl rfl rfl hb62 ?_
      refine e_call rfl Try.call33 (arr2 (v0 := we) (v1 := u60o12) rfl rfl) (Hold_R we u60o12 l.Bad (nth (statesL l) i2) (hS60o12.rdN 9 rfl) (hS60o12.rdN 0 rfl) (holdok_st hl hl.bad hst)) ?_
      rintro _ H60o13 ⟨hxx, rfl⟩
      have hS60o13 : St H0 NoB NoB [rdE u60o12 (nth (statesL l) i2 : List Int), rdE u60o4 (nth (statesL l) i2 : List Int), rdE r50 (statesL l : List (List Int)), blkE g14 (.cells #[I ((loopFault l).1), I ((loopFault l).2)] 27), blkE g1 (.cells #[wa, wb, wc, wd, we] 42), rdE wa (l.Low : List Int), rdE wb (l.High : List Int), rdE wc (l.Start : List LRow), rdE wd (l.Jumps : List Jump), rdE we (l.Bad : List LRow), rdE vr (r : List LRow)] H60o13 := hS60o12.ext hxx
      refine ⟨Ext.mono hxx (fun _ h => h.elim), ?_⟩
      refine wpR_q 14 (by kernel_rfl) rfl (quietAt rfl rfl (q_pickT (v := B (holdB l.Bad (nth (statesL l) i2))) rfl hb62 rfl)) ?_
      refine wpR_end (by kernel_rfl) ?_
      exact ⟨a58_1, a58_2, a58_8, a58_11, a58_12, (Eq.trans rfl (congrArg B (bool_congr_of ((Iff.rfl).trans (((and_iff_right hg61).trans Iff.rfl)).symm)))), (hS60o13.drop (List.Sublist.cons _ (List.Sublist.cons _ (List.Sublist.cons_cons _ (List.Sublist.cons_cons _ (List.Sublist.cons_cons _ (List.Sublist.cons_cons _ (List.Sublist.cons_cons _ (List.Sublist.cons_cons _ (List.Sublist.cons_cons _ (List.Sublist.cons_cons _ (List.Sublist.cons_cons _ (List.Sublist.slnil)))))))))))))⟩
    · have hb63 := Eq.trans rfl (congrArg B (Bool.eq_false_iff.2 hg61))
      refine wpR_q 7 (by kernel_rfl) rfl (quietAt_s rfl rfl rfl rfl hb63 rfl) ?_
      refine wpR_q 8 (by kernel_rfl) rfl (quietAt_s rfl rfl rfl rfl hb63 rfl) ?_
      refine wpR_q 9 (by kernel_rfl) rfl (quietAt_s rfl rfl rfl rfl hb63 rfl) ?_
      refine wpR_q 10 (by kernel_rfl) rfl (quietAt_s rfl rfl rfl rfl hb63 rfl) ?_
      refine wpR_q 11 (by kernel_rfl) rfl (quietAt_s rfl rfl rfl rfl hb63 rfl) ?_
      refine wpR_q 12 (by kernel_rfl) rfl (quietAt_s rfl rfl rfl rfl hb63 rfl) ?_
      refine wpR_q 13 (by kernel_rfl) rfl (quietAt_s rfl rfl rfl rfl hb63 rfl) ?_
      refine wpR_q 14 (by kernel_rfl) rfl (quietAt rfl rfl (q_pickF (v := B (false)) rfl hb63 rfl)) ?_
      refine wpR_end (by kernel_rfl) ?_
      exact ⟨a58_1, a58_2, a58_8, a58_11, a58_12, (Eq.trans rfl (congrArg B ((decide_eq_false (fun h => hg61 h.1)).symm))), (hS60o5.drop (List.Sublist.cons _ (List.Sublist.cons_cons _ (List.Sublist.cons_cons _ (List.Sublist.cons_cons _ (List.Sublist.cons_cons _ (List.Sublist.cons_cons _ (List.Sublist.cons_cons _ (List.Sublist.cons_cons _ (List.Sublist.cons_cons _ (List.Sublist.cons_cons _ (List.Sublist.slnil))))))))))))⟩
  rintro f64 H64 ⟨a64_1, a64_2, a64_8, a64_11, a64_12, a64_77, hS64⟩
  clear a58_1 a58_11 a58_12 a58_2 a58_60 a58_8
  refine wpF_condP a64_77 (fun h77 => ?t68) (fun h77 => ?e68)
  case t68 =>
    refine wpF_seq ?_
    refine wpF_cut (fun f H => f 4 = B (true) ∧ H64 = H) ?_ ?_
    · refine wpF_region ?_
      refine wpL_q (U := NoB) rfl (q_assign (v := B (true)) rfl rfl) ?_
      exact ⟨rfl, rfl⟩
    rintro f66 _ ⟨a66_4, rfl⟩
    clear a64_1 a64_11 a64_12 a64_2 a64_77 a64_8
    refine wpF_ret ?_
    refine ⟨_, resT a66_4 resN, hS64.frame, ?_⟩
    show (B (true)) = B true
    rfl
  refine wpF_skip ?_
  refine wpF_cut (fun f H => f 1 = vr ∧ f 2 = PT g1 0 ∧ f 8 = PT g14 0 ∧ f 11 = r50 ∧ f 12 = I ((i2 : Int) + 1) ∧ H64 = H) ?_ ?_
  · refine wpF_region ?_
    refine wpL_q (U := NoB) rfl (q_move (v := I ((i2 : Int))) rfl a64_12) ?_
    refine wpL_q (U := NoB) rfl (q_add rfl rfl rfl (by constructor <;> omega)) ?_
    refine wpL_q (U := NoB) rfl (q_assign (v := I ((i2 : Int) + 1)) rfl rfl) ?_
    exact ⟨a64_1, a64_2, a64_8, a64_11, rfl, rfl⟩
  rintro f67 _ ⟨a67_1, a67_2, a67_8, a67_11, a67_12, rfl⟩
  clear a64_1 a64_11 a64_12 a64_2 a64_77 a64_8
  refine ⟨_, ?_, i2 + 1, rfl, (by omega), (all_succ hno h77), a67_1, a67_2, a67_8, a67_11, (Eq.trans a67_12 (congrArg I (by omega))), hS64⟩
  omega

end Go.Um
