import Derived.Test.YtfgibfbgklkgbaaProg
import Derived.Test.YtfgibfbgklkgbaaLoopS5
namespace Go.Um
open Go.Proofs
open GoT (sz ag rdc)
open KeyT (kv)

theorem fl27_LoopSays1 (a b c d : Int) (w : World) : (Op.equalIn 10000 27 (.agg #[I a, I b]) (.agg #[I c, I d])).run Try.prog w = .ok (decide (a = c ∧ b = d)) w := eq2_run Try.underlying27 Try.underlying3 Try.underlying3 (by decide) (by decide) rfl rfl Try.isAgg3 Try.isAgg3 Try.stoodInHeld27 a b c d w

set_option maxRecDepth 100000 in
theorem LoopSays_L {H0 : Heap} (wa wb wc wd we vs : Value) (l : Loop) (s : List Int) (rwa : Rd NoB H0 wa l.Low) (rwb : Rd NoB H0 wb l.High) (rwc : Rd NoB H0 wc l.Start) (rwd : Rd NoB H0 wd l.Jumps) (rwe : Rd NoB H0 we l.Bad) (rs : Rd NoB H0 vs s) : CallsH Try.prog 5 #[Value.agg #[wa, wb, wc, wd, we], vs] H0 (fun rv_ H' => Ext NoB H0 H' ∧ rv_ = B true) := by
  have hs1 := (Rd.list.1 rwa).small
  have hs2 := (Rd.list.1 rwb).small
  have hs4 := (Rd.list.1 rwd).small
  have hss := (Rd.list.1 rs).small
  have hS0 : St H0 NoB NoB [rdE wa (l.Low : List Int), rdE wb (l.High : List Int), rdE wc (l.Start : List LRow), rdE wd (l.Jumps : List Jump), rdE we (l.Bad : List LRow), rdE vs (s : List Int)] H0 := St.arg (St.arg (St.arg (St.arg (St.arg (St.arg (St.start (fun _ h => h.elim)) (Bl0.nil) rs (fun _ h => h)) (Bl0.cons (Bl0.nil)) rwe (fun _ h => h)) (Bl0.cons (Bl0.cons (Bl0.nil))) rwd (fun _ h => h)) (Bl0.cons (Bl0.cons (Bl0.cons (Bl0.nil)))) rwc (fun _ h => h)) (Bl0.cons (Bl0.cons (Bl0.cons (Bl0.cons (Bl0.nil))))) rwb (fun _ h => h)) (Bl0.cons (Bl0.cons (Bl0.cons (Bl0.cons (Bl0.cons (Bl0.nil)))))) rwa (fun _ h => h)
  refine callsH_of_wpF (args := [Value.agg #[wa, wb, wc, wd, we], vs]) (rs := [.tmp 4]) Try.func5 rfl Try.ntmps5 Try.results5 (by kernel_rfl) (Nat.le_of_ble_eq_true rfl) ?_
  have a0_0 : argF [Value.agg #[wa, wb, wc, wd, we], vs] 0 = Value.agg #[wa, wb, wc, wd, we] := rfl
  have a0_1 : argF [Value.agg #[wa, wb, wc, wd, we], vs] 1 = vs := rfl
  generalize argF [Value.agg #[wa, wb, wc, wd, we], vs] = f0 at *
  refine wpF_seq ?_
  refine wpF_cut (fun f H => ∃ (g1 : Nat), f 1 = vs ∧ f 2 = PT g1 0 ∧ St H0 NoB NoB [blkE g1 (.cells #[wa, wb, wc, wd, we] 42), rdE wa (l.Low : List Int), rdE wb (l.High : List Int), rdE wc (l.Start : List LRow), rdE wd (l.Jumps : List Jump), rdE we (l.Bad : List LRow), rdE vs (s : List Int)] H) ?_ ?_
  · refine wpF_region ?_
    refine wpL_o rfl ?_
    refine e_box (v := Value.agg #[wa, wb, wc, wd, we]) rfl a0_0 hS0 (fun g1 H2 hS3 hxx => ?_)
    replace hS3 : St H0 NoB NoB [blkE g1 (.cells #[wa, wb, wc, wd, we] 42), rdE wa (l.Low : List Int), rdE wb (l.High : List Int), rdE wc (l.Start : List LRow), rdE wd (l.Jumps : List Jump), rdE we (l.Bad : List LRow), rdE vs (s : List Int)] H2 := hS3
    refine wpL_q (U := NoB) rfl (q_assign (v := B (false)) rfl rfl) ?_
    exact ⟨g1, a0_1, rfl, hS3⟩
  rintro f4 H4 ⟨g1, a4_1, a4_2, hS4⟩
  clear a0_0 a0_1
  refine wpF_seq ?_
  refine wpF_seq ?_
  refine wpF_cut (fun f H => f 1 = vs ∧ f 2 = PT g1 0 ∧ f 21 = B (decide ((10 < (l.Low.length : Int)) ∨ (10 < (l.Jumps.length : Int)))) ∧ H4 = H) ?_ ?_
  · refine wpF_region ?_
    refine wpL_q (U := NoB) rfl (q_fieldAddr rfl Try.underlying42 rfl Try.sizeOf32 a4_2) ?_
    refine wpL_q (U := NoB) rfl (q_loadBlk rfl rfl Try.isAgg32 (hS4.blk 0 rfl) rfl (fun h => h)) ?_
    refine wpL_q (U := NoB) rfl (q_lenRd rfl Try.underlying32 rfl (hS4.rdl 1 rfl)) ?_
    refine wpL_q (U := NoB) rfl (q_gtr rfl rfl rfl) ?_
    refine wpL_q (U := NoB) rfl (q_move (v := B (decide (10 < (l.Low.length : Int)))) rfl rfl) ?_
    by_cases hg5 : 10 < (l.Low.length : Int)
    · have hb6 := Eq.trans rfl (congrArg B (decide_eq_true hg5))
      refine wpL_gs rfl rfl rfl hb6 rfl ?_
      refine wpL_gs rfl rfl rfl hb6 rfl ?_
      refine wpL_gs rfl rfl rfl hb6 rfl ?_
      refine wpL_gs rfl rfl rfl hb6 rfl ?_
      refine wpL_q (U := NoB) rfl (q_pickT (v := B (true)) rfl hb6 rfl) ?_
      exact ⟨a4_1, a4_2, (Eq.trans rfl (congrArg B ((decide_eq_true (Or.inl hg5)).symm))), rfl⟩
    · have hb7 := Eq.trans rfl (congrArg B (decide_eq_false hg5))
      refine wpL_gq (U := NoB) rfl rfl rfl hb7 (q_fieldAddr rfl Try.underlying42 rfl Try.sizeOf40 a4_2) ?_
      refine wpL_gq (U := NoB) rfl rfl rfl hb7 (q_loadBlk rfl rfl Try.isAgg40 (hS4.blk 0 rfl) rfl (fun h => h)) ?_
      refine wpL_gq (U := NoB) rfl rfl rfl hb7 (q_lenRd rfl Try.underlying40 rfl (hS4.rdl 4 rfl)) ?_
      refine wpL_gq (U := NoB) rfl rfl rfl hb7 (q_gtr rfl rfl rfl) ?_
      refine wpL_q (U := NoB) rfl (q_pickF (v := B (decide (10 < (l.Jumps.length : Int)))) rfl hb7 rfl) ?_
      exact ⟨a4_1, a4_2, (Eq.trans rfl (congrArg B (decide_congr_of ((Iff.rfl).trans (((or_iff_right hg5).trans Iff.rfl)).symm)))), rfl⟩
  rintro f8 _ ⟨a8_1, a8_2, a8_21, rfl⟩
  clear a4_1 a4_2
  refine wpF_condP a8_21 (fun hbig => ?t105) (fun hbig => ?e105)
  case t105 =>
    refine wpF_seq ?_
    refine wpF_cut (fun f H => f 4 = B (true) ∧ H4 = H) ?_ ?_
    · refine wpF_region ?_
      refine wpL_q (U := NoB) rfl (q_assign (v := B (true)) rfl rfl) ?_
      exact ⟨rfl, rfl⟩
    rintro f10 _ ⟨a10_4, rfl⟩
    clear a8_1 a8_2 a8_21
    refine wpF_ret ?_
    refine ⟨_, resT a10_4 resN, hS4.frame, ?_⟩
    show (B (true)) = B true
    rfl
  refine wpF_skip ?_
  refine wpF_seq ?_
  refine wpF_cut (fun f H => ∃ (g14 : Nat), f 1 = vs ∧ f 2 = PT g1 0 ∧ f 5 = PT g14 0 ∧ St H0 NoB NoB [blkE g14 (.cells #[I ((loopFault l).1), I ((loopFault l).2)] 27), blkE g1 (.cells #[wa, wb, wc, wd, we] 42), rdE wa (l.Low : List Int), rdE wb (l.High : List Int), rdE wc (l.Start : List LRow), rdE wd (l.Jumps : List Jump), rdE we (l.Bad : List LRow), rdE vs (s : List Int)] H) ?_ ?_
  · refine wpF_region ?_
    refine wpL_q (U := NoB) rfl (q_loadBlkA rfl a8_2 Try.isAgg42 Try.sizeOf42 rfl (hS4.blk 0 rfl) (fun h => h)) ?_
    refine wpL_o rfl ?_
    refine e_call rfl Try.call26 (arr1 (v0 := Value.agg #[wa, wb, wc, wd, we]) rfl) (Loop_R wa wb wc wd we l (hS4.rdN 1 rfl) (hS4.rdN 2 rfl) (hS4.rdN 3 rfl) (hS4.rdN 4 rfl) (hS4.rdN 5 rfl) ) ?_
    rintro _ H11 ⟨hxx, rfl⟩
    have hS12 : St H0 NoB NoB [blkE g1 (.cells #[wa, wb, wc, wd, we] 42), rdE wa (l.Low : List Int), rdE wb (l.High : List Int), rdE wc (l.Start : List LRow), rdE wd (l.Jumps : List Jump), rdE we (l.Bad : List LRow), rdE vs (s : List Int)] H11 := hS4.ext hxx
    refine wpL_o rfl ?_
    refine e_alloc rfl Try.zeroValue27 hS12 (fun g14 H15 hS16 hxx => ?_)
    replace hS16 : St H0 NoB NoB [blkE g14 (.cells #[I (0), I (0)] 27), blkE g1 (.cells #[wa, wb, wc, wd, we] 42), rdE wa (l.Low : List Int), rdE wb (l.High : List Int), rdE wc (l.Start : List LRow), rdE wd (l.Jumps : List Jump), rdE we (l.Bad : List LRow), rdE vs (s : List Int)] H15 := hS16
    refine wpL_o rfl ?_
    refine e_storeBlkA (cs' := #[I ((loopFault l).1), I ((loopFault l).2)]) rfl rfl rfl Try.sizeOf27 rfl rfl (List.forall_mem_cons.2 ⟨rfl, List.forall_mem_cons.2 ⟨rfl, List.forall_mem_nil _⟩⟩) hS16 (fun H17 hS18 hxx => ?_)
    replace hS18 : St H0 NoB NoB [blkE g14 (.cells #[I ((loopFault l).1), I ((loopFault l).2)] 27), blkE g1 (.cells #[wa, wb, wc, wd, we] 42), rdE wa (l.Low : List Int), rdE wb (l.High : List Int), rdE wc (l.Start : List LRow), rdE wd (l.Jumps : List Jump), rdE we (l.Bad : List LRow), rdE vs (s : List Int)] H17 := hS18
    exact ⟨g14, a8_1, a8_2, rfl, hS18⟩
  rintro f19 H19 ⟨g14, a19_1, a19_2, a19_5, hS19⟩
  clear a8_1 a8_2 a8_21
  refine wpF_seq ?_
  refine wpF_seq ?_
  refine wpF_cut (fun f H => f 1 = vs ∧ f 2 = PT g1 0 ∧ f 5 = PT g14 0 ∧ f 27 = B (decide (¬ (((loopFault l).1) = ((loopFault l).1) ∧ ((loopFault l).2) = ((loopFault l).2)))) ∧ St H0 NoB NoB [blkE g14 (.cells #[I ((loopFault l).1), I ((loopFault l).2)] 27), blkE g1 (.cells #[wa, wb, wc, wd, we] 42), rdE wa (l.Low : List Int), rdE wb (l.High : List Int), rdE wc (l.Start : List LRow), rdE wd (l.Jumps : List Jump), rdE we (l.Bad : List LRow), rdE vs (s : List Int)] H) ?_ ?_
  · refine wpF_drawn [] [] (fun _ _ => False) (by kernel_rfl) (by kernel_rfl) ?_
    refine wpR_q 0 (by kernel_rfl) rfl (quietAt rfl rfl (q_loadBlkA rfl a19_2 Try.isAgg42 Try.sizeOf42 rfl (hS19.blk 1 rfl) (labU_not [] rfl (List.forall_mem_nil _)))) ?_
    refine wpR_q 2 (by kernel_rfl) rfl (quietAt rfl rfl (q_loadBlkA rfl a19_5 Try.isAgg27 Try.sizeOf27 rfl (hS19.blk 0 rfl) (labU_not [] rfl (List.forall_mem_nil _)))) ?_
    refine wpR_n [1] (by kernel_rfl) ?_
    refine List.forall_mem_cons.2 ⟨?_, List.forall_mem_nil _⟩
    refine exE rfl rfl ?_
    refine e_call rfl Try.call27 (arr1 (v0 := Value.agg #[wa, wb, wc, wd, we]) rfl) (Check_L wa wb wc wd we l (hS19.rdN 2 rfl) (hS19.rdN 3 rfl) (hS19.rdN 4 rfl) (hS19.rdN 5 rfl) (hS19.rdN 6 rfl) ) ?_
    rintro _ H20o1 ⟨hxx, rfl⟩
    have hS20o1 : St H0 NoB NoB [blkE g14 (.cells #[I ((loopFault l).1), I ((loopFault l).2)] 27), blkE g1 (.cells #[wa, wb, wc, wd, we] 42), rdE wa (l.Low : List Int), rdE wb (l.High : List Int), rdE wc (l.Start : List LRow), rdE wd (l.Jumps : List Jump), rdE we (l.Bad : List LRow), rdE vs (s : List Int)] H20o1 := hS19.ext hxx
    refine ⟨Ext.mono hxx (fun _ h => h.elim), ?_⟩
    refine wpR_q 3 (by kernel_rfl) rfl (quietAt rfl rfl (q_neqF2 rfl Try.eqGuardType27 (fl27_LoopSays1 _ _ _ _) rfl rfl)) ?_
    refine wpR_end (by kernel_rfl) ?_
    exact ⟨a19_1, a19_2, a19_5, rfl, hS20o1⟩
  rintro f21 H21 ⟨a21_1, a21_2, a21_5, a21_27, hS21⟩
  clear a19_1 a19_2 a19_5
  refine wpF_condP a21_27 (fun hne => ?t104) (fun hne => ?e104)
  case t104 =>
    refine wpF_seq ?_
    refine wpF_cut (fun f H => f 4 = B (false) ∧ H21 = H) ?_ ?_
    · refine wpF_region ?_
      refine wpL_q (U := NoB) rfl (q_assign (v := B (false)) rfl rfl) ?_
      exact ⟨rfl, rfl⟩
    rintro f23 _ ⟨a23_4, rfl⟩
    clear a21_1 a21_2 a21_27 a21_5
    refine wpF_ret ?_
    refine ⟨_, resT a23_4 resN, hS21.frame, ?_⟩
    show (B (false)) = B true
    exfalso
    exact hne ⟨rfl, rfl⟩
  refine wpF_skip ?_
  refine wpF_seq ?_
  refine wpF_cut (fun f H => ∃ (r24 : Value), ∃ (g28 : Nat), f 1 = vs ∧ f 2 = PT g1 0 ∧ f 5 = PT g14 0 ∧ f 6 = r24 ∧ f 7 = PT g28 0 ∧ St H0 NoB NoB [blkE g28 (.cells #[I ((nextFault l s).1), I ((nextFault l s).2)] 27), rdE r24 (nextOut l s : List (List Int)), blkE g14 (.cells #[I ((loopFault l).1), I ((loopFault l).2)] 27), blkE g1 (.cells #[wa, wb, wc, wd, we] 42), rdE wa (l.Low : List Int), rdE wb (l.High : List Int), rdE wc (l.Start : List LRow), rdE wd (l.Jumps : List Jump), rdE we (l.Bad : List LRow), rdE vs (s : List Int)] H) ?_ ?_
  · refine wpF_region ?_
    refine wpL_q (U := NoB) rfl (q_loadBlkA rfl a21_2 Try.isAgg42 Try.sizeOf42 rfl (hS21.blk 1 rfl) (fun h => h)) ?_
    refine wpL_q (U := NoB) rfl (q_move (v := vs) rfl a21_1) ?_
    refine wpL_o rfl ?_
    refine e_call rfl Try.call25 (arr2 (v0 := Value.agg #[wa, wb, wc, wd, we]) (v1 := vs) rfl rfl) (Next_L wa wb wc wd we vs l s (hS21.rdS 2 rfl) (hS21.rdS 3 rfl) (hS21.rdS 4 rfl) (hS21.rdS 5 rfl) (hS21.rdS 6 rfl) (hS21.rdS 7 rfl) ) ?_
    rintro _ H25 ⟨hxx, r24, rfl, hrr24⟩
    have hS26 : St H0 NoB NoB [rdE r24 (nextOut l s : List (List Int)), blkE g14 (.cells #[I ((loopFault l).1), I ((loopFault l).2)] 27), blkE g1 (.cells #[wa, wb, wc, wd, we] 42), rdE wa (l.Low : List Int), rdE wb (l.High : List Int), rdE wc (l.Start : List LRow), rdE wd (l.Jumps : List Jump), rdE we (l.Bad : List LRow), rdE vs (s : List Int)] H25 := hS21.res hxx hrr24
    refine wpL_q (U := NoB) rfl (q_move (v := Value.tuple #[r24, Value.agg #[I ((nextFault l s).1), I ((nextFault l s).2)]]) rfl rfl) ?_
    refine wpL_q (U := NoB) rfl (q_extract (vs := #[r24, Value.agg #[I ((nextFault l s).1), I ((nextFault l s).2)]]) (v := r24) rfl rfl rfl) ?_
    refine wpL_q (U := NoB) rfl (q_extract (vs := #[r24, Value.agg #[I ((nextFault l s).1), I ((nextFault l s).2)]]) (v := Value.agg #[I ((nextFault l s).1), I ((nextFault l s).2)]) rfl rfl rfl) ?_
    refine wpL_o rfl ?_
    refine e_alloc rfl Try.zeroValue27 hS26 (fun g28 H29 hS30 hxx => ?_)
    replace hS30 : St H0 NoB NoB [blkE g28 (.cells #[I (0), I (0)] 27), rdE r24 (nextOut l s : List (List Int)), blkE g14 (.cells #[I ((loopFault l).1), I ((loopFault l).2)] 27), blkE g1 (.cells #[wa, wb, wc, wd, we] 42), rdE wa (l.Low : List Int), rdE wb (l.High : List Int), rdE wc (l.Start : List LRow), rdE wd (l.Jumps : List Jump), rdE we (l.Bad : List LRow), rdE vs (s : List Int)] H29 := hS30
    refine wpL_q (U := NoB) rfl (q_assign (v := r24) rfl rfl) ?_
    refine wpL_o rfl ?_
    refine e_storeBlkA (cs' := #[I ((nextFault l s).1), I ((nextFault l s).2)]) rfl rfl rfl Try.sizeOf27 rfl rfl (List.forall_mem_cons.2 ⟨rfl, List.forall_mem_cons.2 ⟨rfl, List.forall_mem_nil _⟩⟩) hS30 (fun H31 hS32 hxx => ?_)
    replace hS32 : St H0 NoB NoB [blkE g28 (.cells #[I ((nextFault l s).1), I ((nextFault l s).2)] 27), rdE r24 (nextOut l s : List (List Int)), blkE g14 (.cells #[I ((loopFault l).1), I ((loopFault l).2)] 27), blkE g1 (.cells #[wa, wb, wc, wd, we] 42), rdE wa (l.Low : List Int), rdE wb (l.High : List Int), rdE wc (l.Start : List LRow), rdE wd (l.Jumps : List Jump), rdE we (l.Bad : List LRow), rdE vs (s : List Int)] H31 := hS32
    exact ⟨r24, g28, a21_1, a21_2, a21_5, rfl, rfl, hS32⟩
  rintro f33 H33 ⟨r24, g28, a33_1, a33_2, a33_5, a33_6, a33_7, hS33⟩
  clear a21_1 a21_2 a21_27 a21_5
  refine wpF_seq ?_
  refine wpF_cut (fun f H => ∃ (r34 : Value), ∃ (g38 : Nat), f 1 = vs ∧ f 2 = PT g1 0 ∧ f 5 = PT g14 0 ∧ f 6 = r24 ∧ f 7 = PT g28 0 ∧ f 8 = r34 ∧ f 9 = PT g38 0 ∧ St H0 NoB NoB [blkE g38 (.cells #[I ((loopFault l).1), I ((loopFault l).2)] 27), rdE r34 (runsOut l : List (List Int)), blkE g28 (.cells #[I ((nextFault l s).1), I ((nextFault l s).2)] 27), rdE r24 (nextOut l s : List (List Int)), blkE g14 (.cells #[I ((loopFault l).1), I ((loopFault l).2)] 27), blkE g1 (.cells #[wa, wb, wc, wd, we] 42), rdE wa (l.Low : List Int), rdE wb (l.High : List Int), rdE wc (l.Start : List LRow), rdE wd (l.Jumps : List Jump), rdE we (l.Bad : List LRow), rdE vs (s : List Int)] H) ?_ ?_
  · refine wpF_region ?_
    refine wpL_q (U := NoB) rfl (q_loadBlkA rfl a33_2 Try.isAgg42 Try.sizeOf42 rfl (hS33.blk 3 rfl) (fun h => h)) ?_
    refine wpL_o rfl ?_
    refine e_call rfl Try.call22 (arr1 (v0 := Value.agg #[wa, wb, wc, wd, we]) rfl) (Runs_L wa wb wc wd we l (hS33.rdS 4 rfl) (hS33.rdS 5 rfl) (hS33.rdS 6 rfl) (hS33.rdS 7 rfl) (hS33.rdS 8 rfl) ) ?_
    rintro _ H35 ⟨hxx, r34, rfl, hrr34⟩
    have hS36 : St H0 NoB NoB [rdE r34 (runsOut l : List (List Int)), blkE g28 (.cells #[I ((nextFault l s).1), I ((nextFault l s).2)] 27), rdE r24 (nextOut l s : List (List Int)), blkE g14 (.cells #[I ((loopFault l).1), I ((loopFault l).2)] 27), blkE g1 (.cells #[wa, wb, wc, wd, we] 42), rdE wa (l.Low : List Int), rdE wb (l.High : List Int), rdE wc (l.Start : List LRow), rdE wd (l.Jumps : List Jump), rdE we (l.Bad : List LRow), rdE vs (s : List Int)] H35 := hS33.res hxx hrr34
    refine wpL_q (U := NoB) rfl (q_move (v := Value.tuple #[r34, Value.agg #[I ((loopFault l).1), I ((loopFault l).2)]]) rfl rfl) ?_
    refine wpL_q (U := NoB) rfl (q_extract (vs := #[r34, Value.agg #[I ((loopFault l).1), I ((loopFault l).2)]]) (v := r34) rfl rfl rfl) ?_
    refine wpL_q (U := NoB) rfl (q_extract (vs := #[r34, Value.agg #[I ((loopFault l).1), I ((loopFault l).2)]]) (v := Value.agg #[I ((loopFault l).1), I ((loopFault l).2)]) rfl rfl rfl) ?_
    refine wpL_o rfl ?_
    refine e_alloc rfl Try.zeroValue27 hS36 (fun g38 H39 hS40 hxx => ?_)
    replace hS40 : St H0 NoB NoB [blkE g38 (.cells #[I (0), I (0)] 27), rdE r34 (runsOut l : List (List Int)), blkE g28 (.cells #[I ((nextFault l s).1), I ((nextFault l s).2)] 27), rdE r24 (nextOut l s : List (List Int)), blkE g14 (.cells #[I ((loopFault l).1), I ((loopFault l).2)] 27), blkE g1 (.cells #[wa, wb, wc, wd, we] 42), rdE wa (l.Low : List Int), rdE wb (l.High : List Int), rdE wc (l.Start : List LRow), rdE wd (l.Jumps : List Jump), rdE we (l.Bad : List LRow), rdE vs (s : List Int)] H39 := hS40
    refine wpL_q (U := NoB) rfl (q_assign (v := r34) rfl rfl) ?_
    refine wpL_o rfl ?_
    refine e_storeBlkA (cs' := #[I ((loopFault l).1), I ((loopFault l).2)]) rfl rfl rfl Try.sizeOf27 rfl rfl (List.forall_mem_cons.2 ⟨rfl, List.forall_mem_cons.2 ⟨rfl, List.forall_mem_nil _⟩⟩) hS40 (fun H41 hS42 hxx => ?_)
    replace hS42 : St H0 NoB NoB [blkE g38 (.cells #[I ((loopFault l).1), I ((loopFault l).2)] 27), rdE r34 (runsOut l : List (List Int)), blkE g28 (.cells #[I ((nextFault l s).1), I ((nextFault l s).2)] 27), rdE r24 (nextOut l s : List (List Int)), blkE g14 (.cells #[I ((loopFault l).1), I ((loopFault l).2)] 27), blkE g1 (.cells #[wa, wb, wc, wd, we] 42), rdE wa (l.Low : List Int), rdE wb (l.High : List Int), rdE wc (l.Start : List LRow), rdE wd (l.Jumps : List Jump), rdE we (l.Bad : List LRow), rdE vs (s : List Int)] H41 := hS42
    exact ⟨r34, g38, a33_1, a33_2, a33_5, a33_6, a33_7, rfl, rfl, hS42⟩
  rintro f43 H43 ⟨r34, g38, a43_1, a43_2, a43_5, a43_6, a43_7, a43_8, a43_9, hS43⟩
  clear a33_1 a33_2 a33_5 a33_6 a33_7
  refine wpF_seq ?_
  refine wpF_seq ?_
  refine wpF_cut (fun f H => f 1 = vs ∧ f 2 = PT g1 0 ∧ f 5 = PT g14 0 ∧ f 6 = r24 ∧ f 7 = PT g28 0 ∧ f 8 = r34 ∧ f 9 = PT g38 0 ∧ f 41 = B (decide (((loopFault l).1) ≠ 0)) ∧ H43 = H) ?_ ?_
  · refine wpF_region ?_
    refine wpL_q (U := NoB) rfl (q_fieldAddr rfl Try.underlying27 rfl Try.sizeOf3 a43_5) ?_
    refine wpL_q (U := NoB) rfl (q_loadBlk rfl rfl Try.isAgg3 (hS43.blk 4 rfl) rfl (fun h => h)) ?_
    refine wpL_q (U := NoB) rfl (q_neq rfl rfl rfl) ?_
    exact ⟨a43_1, a43_2, a43_5, a43_6, a43_7, a43_8, a43_9, rfl, rfl⟩
  rintro f44 _ ⟨a44_1, a44_2, a44_5, a44_6, a44_7, a44_8, a44_9, a44_41, rfl⟩
  clear a43_1 a43_2 a43_5 a43_6 a43_7 a43_8 a43_9
  refine wpF_condP a44_41 (fun h1 => ?t103) (fun h1 => ?e103)
  case t103 =>
    refine wpF_seq ?_
    refine wpF_cut (fun f H => f 4 = B (decide ((((((nextFault l s).1) = ((loopFault l).1) ∧ ((nextFault l s).2) = ((loopFault l).2)) ∧ (((loopFault l).1) = ((loopFault l).1) ∧ ((loopFault l).2) = ((loopFault l).2))) ∧ (((nextOut l s).length : Int) = 0)) ∧ (((runsOut l).length : Int) = 0))) ∧ H43 = H) ?_ ?_
    · refine wpF_region ?_
      refine wpL_q (U := NoB) rfl (q_loadBlkA rfl a44_7 Try.isAgg27 Try.sizeOf27 rfl (hS43.blk 2 rfl) (fun h => h)) ?_
      refine wpL_q (U := NoB) rfl (q_loadBlkA rfl a44_5 Try.isAgg27 Try.sizeOf27 rfl (hS43.blk 4 rfl) (fun h => h)) ?_
      refine wpL_q (U := NoB) rfl (q_eqlF2 rfl Try.eqGuardType27 (fl27_LoopSays1 _ _ _ _) rfl rfl) ?_
      refine wpL_q (U := NoB) rfl (q_move (v := B (decide (((nextFault l s).1) = ((loopFault l).1) ∧ ((nextFault l s).2) = ((loopFault l).2)))) rfl rfl) ?_
      by_cases hg46 : ((nextFault l s).1) = ((loopFault l).1) ∧ ((nextFault l s).2) = ((loopFault l).2)
      · have hb47 := Eq.trans rfl (congrArg B (decide_eq_true hg46))
        refine wpL_gq (U := NoB) rfl rfl rfl hb47 (q_loadBlkA rfl a44_9 Try.isAgg27 Try.sizeOf27 rfl (hS43.blk 0 rfl) (fun h => h)) ?_
        refine wpL_gq (U := NoB) rfl rfl rfl hb47 (q_loadBlkA rfl a44_5 Try.isAgg27 Try.sizeOf27 rfl (hS43.blk 4 rfl) (fun h => h)) ?_
        refine wpL_gq (U := NoB) rfl rfl rfl hb47 (q_eqlF2 rfl Try.eqGuardType27 (fl27_LoopSays1 _ _ _ _) rfl rfl) ?_
        refine wpL_q (U := NoB) rfl (q_pickT (v := B (decide (((loopFault l).1) = ((loopFault l).1) ∧ ((loopFault l).2) = ((loopFault l).2)))) rfl hb47 rfl) ?_
        refine wpL_q (U := NoB) rfl (q_move (v := B (decide (((loopFault l).1) = ((loopFault l).1) ∧ ((loopFault l).2) = ((loopFault l).2)))) rfl rfl) ?_
        by_cases hg49 : ((loopFault l).1) = ((loopFault l).1) ∧ ((loopFault l).2) = ((loopFault l).2)
        · have hb50 := Eq.trans rfl (congrArg B (decide_eq_true hg49))
          refine wpL_gq (U := NoB) rfl rfl rfl hb50 (q_move (v := r24) rfl a44_6) ?_
          refine wpL_gq (U := NoB) rfl rfl rfl hb50 (q_lenRd rfl Try.underlying23 rfl (hS43.rdl 3 rfl)) ?_
          refine wpL_gq (U := NoB) rfl rfl rfl hb50 (q_eql rfl rfl rfl) ?_
          refine wpL_q (U := NoB) rfl (q_pickT (v := B (decide (((nextOut l s).length : Int) = 0))) rfl hb50 rfl) ?_
          refine wpL_q (U := NoB) rfl (q_move (v := B (decide (((nextOut l s).length : Int) = 0))) rfl rfl) ?_
          by_cases hg52 : ((nextOut l s).length : Int) = 0
          · have hb53 := Eq.trans rfl (congrArg B (decide_eq_true hg52))
            refine wpL_gq (U := NoB) rfl rfl rfl hb53 (q_move (v := r34) rfl a44_8) ?_
            refine wpL_gq (U := NoB) rfl rfl rfl hb53 (q_lenRd rfl Try.underlying23 rfl (hS43.rdl 1 rfl)) ?_
            refine wpL_gq (U := NoB) rfl rfl rfl hb53 (q_eql rfl rfl rfl) ?_
            refine wpL_q (U := NoB) rfl (q_pickT (v := B (decide (((runsOut l).length : Int) = 0))) rfl hb53 rfl) ?_
            refine wpL_q (U := NoB) rfl (q_assign (v := B (decide (((runsOut l).length : Int) = 0))) rfl rfl) ?_
            exact ⟨(Eq.trans rfl (congrArg B (decide_congr_of ((Iff.rfl).trans (((and_iff_right ⟨⟨hg46, hg49⟩, hg52⟩).trans Iff.rfl)).symm)))), rfl⟩
          · have hb54 := Eq.trans rfl (congrArg B (decide_eq_false hg52))
            refine wpL_gs rfl rfl rfl hb54 rfl ?_
            refine wpL_gs rfl rfl rfl hb54 rfl ?_
            refine wpL_gs rfl rfl rfl hb54 rfl ?_
            refine wpL_q (U := NoB) rfl (q_pickF (v := B (false)) rfl hb54 rfl) ?_
            refine wpL_q (U := NoB) rfl (q_assign (v := B (false)) rfl rfl) ?_
            exact ⟨(Eq.trans rfl (congrArg B ((decide_eq_false (fun h => (fun h => hg52 h.2) h.1)).symm))), rfl⟩
        · have hb51 := Eq.trans rfl (congrArg B (decide_eq_false hg49))
          refine wpL_gs rfl rfl rfl hb51 rfl ?_
          refine wpL_gs rfl rfl rfl hb51 rfl ?_
          refine wpL_gs rfl rfl rfl hb51 rfl ?_
          refine wpL_q (U := NoB) rfl (q_pickF (v := B (false)) rfl hb51 rfl) ?_
          refine wpL_q (U := NoB) rfl (q_move (v := B (false)) rfl rfl) ?_
          refine wpL_gs rfl rfl rfl rfl rfl ?_
          refine wpL_gs rfl rfl rfl rfl rfl ?_
          refine wpL_gs rfl rfl rfl rfl rfl ?_
          refine wpL_q (U := NoB) rfl (q_pickF (v := B (false)) rfl rfl rfl) ?_
          refine wpL_q (U := NoB) rfl (q_assign (v := B (false)) rfl rfl) ?_
          exact ⟨(Eq.trans rfl (congrArg B ((decide_eq_false (fun h => (fun h => (fun h => hg49 h.2) h.1) h.1)).symm))), rfl⟩
      · have hb48 := Eq.trans rfl (congrArg B (decide_eq_false hg46))
        refine wpL_gs rfl rfl rfl hb48 rfl ?_
        refine wpL_gs rfl rfl rfl hb48 rfl ?_
        refine wpL_gs rfl rfl rfl hb48 rfl ?_
        refine wpL_q (U := NoB) rfl (q_pickF (v := B (false)) rfl hb48 rfl) ?_
        refine wpL_q (U := NoB) rfl (q_move (v := B (false)) rfl rfl) ?_
        refine wpL_gs rfl rfl rfl rfl rfl ?_
        refine wpL_gs rfl rfl rfl rfl rfl ?_
        refine wpL_gs rfl rfl rfl rfl rfl ?_
        refine wpL_q (U := NoB) rfl (q_pickF (v := B (false)) rfl rfl rfl) ?_
        refine wpL_q (U := NoB) rfl (q_move (v := B (false)) rfl rfl) ?_
        refine wpL_gs rfl rfl rfl rfl rfl ?_
        refine wpL_gs rfl rfl rfl rfl rfl ?_
        refine wpL_gs rfl rfl rfl rfl rfl ?_
        refine wpL_q (U := NoB) rfl (q_pickF (v := B (false)) rfl rfl rfl) ?_
        refine wpL_q (U := NoB) rfl (q_assign (v := B (false)) rfl rfl) ?_
        exact ⟨(Eq.trans rfl (congrArg B ((decide_eq_false (fun h => (fun h => (fun h => hg46 h.1) h.1) h.1)).symm))), rfl⟩
    rintro f55 _ ⟨a55_4, rfl⟩
    clear a44_1 a44_2 a44_41 a44_5 a44_6 a44_7 a44_8 a44_9
    refine wpF_ret ?_
    refine ⟨_, resT a55_4 resN, hS43.frame, ?_⟩
    show (B (decide ((((((nextFault l s).1) = ((loopFault l).1) ∧ ((nextFault l s).2) = ((loopFault l).2)) ∧ (((loopFault l).1) = ((loopFault l).1) ∧ ((loopFault l).2) = ((loopFault l).2))) ∧ (((nextOut l s).length : Int) = 0)) ∧ (((runsOut l).length : Int) = 0)))) = B true
    exact congrArg B (decide_eq_true (by rw [nextOut, nextFault, runsOut, if_pos h1, if_pos h1, if_pos h1]; simp))
  have hl := LW.of (Decidable.of_not_not h1)
  refine wpF_skip ?_
  refine wpF_seq ?_
  refine wpF_cut (fun f H => ∃ (r56 : Value), f 1 = vs ∧ f 2 = PT g1 0 ∧ f 6 = r24 ∧ f 7 = PT g28 0 ∧ f 8 = r34 ∧ f 9 = PT g38 0 ∧ f 10 = r56 ∧ St H0 NoB NoB [rdE r56 (comeL l : List (List Int)), blkE g38 (.cells #[I ((loopFault l).1), I ((loopFault l).2)] 27), rdE r34 (runsOut l : List (List Int)), blkE g28 (.cells #[I ((nextFault l s).1), I ((nextFault l s).2)] 27), rdE r24 (nextOut l s : List (List Int)), blkE g14 (.cells #[I ((loopFault l).1), I ((loopFault l).2)] 27), blkE g1 (.cells #[wa, wb, wc, wd, we] 42), rdE wa (l.Low : List Int), rdE wb (l.High : List Int), rdE wc (l.Start : List LRow), rdE wd (l.Jumps : List Jump), rdE we (l.Bad : List LRow), rdE vs (s : List Int)] H) ?_ ?_
  · refine wpF_region ?_
    refine wpL_q (U := NoB) rfl (q_loadBlkA rfl a44_2 Try.isAgg42 Try.sizeOf42 rfl (hS43.blk 5 rfl) (fun h => h)) ?_
    refine wpL_o rfl ?_
    refine e_call rfl Try.call28 (arr1 (v0 := Value.agg #[wa, wb, wc, wd, we]) rfl) (Come_R wa wb wc wd we l (hS43.rdS 6 rfl) (hS43.rdS 7 rfl) (hS43.rdS 8 rfl) (hS43.rdS 9 rfl) (hS43.rdS 10 rfl) hl) ?_
    rintro _ H59 ⟨hxx, r56, r57, y58, rfl, hfy58, hrr56, hrr57⟩
    have hS60 : St H0 NoB NoB [rdE r56 (comeL l : List (List Int)), rdE r57 (y58 : List Int), blkE g38 (.cells #[I ((loopFault l).1), I ((loopFault l).2)] 27), rdE r34 (runsOut l : List (List Int)), blkE g28 (.cells #[I ((nextFault l s).1), I ((nextFault l s).2)] 27), rdE r24 (nextOut l s : List (List Int)), blkE g14 (.cells #[I ((loopFault l).1), I ((loopFault l).2)] 27), blkE g1 (.cells #[wa, wb, wc, wd, we] 42), rdE wa (l.Low : List Int), rdE wb (l.High : List Int), rdE wc (l.Start : List LRow), rdE wd (l.Jumps : List Jump), rdE we (l.Bad : List LRow), rdE vs (s : List Int)] H59 := (((hS43.ext hxx).rd (hrr57.sub fun b hb => ⟨hb, SL.lt hS43 hb⟩)).rd (hrr56.sub fun b hb => ⟨(SL_rd hb), SL.lt hS43 (SL_rd hb)⟩))
    refine wpL_q (U := NoB) rfl (q_move (v := Value.tuple #[r56, r57]) rfl rfl) ?_
    refine wpL_q (U := NoB) rfl (q_extract (vs := #[r56, r57]) (v := r56) rfl rfl rfl) ?_
    refine wpL_q (U := NoB) rfl (q_extract (vs := #[r56, r57]) (v := r57) rfl rfl rfl) ?_
    refine wpL_q (U := NoB) rfl (q_assign (v := r56) rfl rfl) ?_
    refine wpL_q (U := NoB) rfl (q_assign (v := r57) rfl rfl) ?_
    exact ⟨r56, a44_1, a44_2, a44_6, a44_7, a44_8, a44_9, rfl, (hS60.drop (List.Sublist.cons_cons _ (List.Sublist.cons _ (List.Sublist.cons_cons _ (List.Sublist.cons_cons _ (List.Sublist.cons_cons _ (List.Sublist.cons_cons _ (List.Sublist.cons_cons _ (List.Sublist.cons_cons _ (List.Sublist.cons_cons _ (List.Sublist.cons_cons _ (List.Sublist.cons_cons _ (List.Sublist.cons_cons _ (List.Sublist.cons_cons _ (List.Sublist.cons_cons _ (List.Sublist.slnil))))))))))))))))⟩
  rintro f62 H62 ⟨r56, a62_1, a62_2, a62_6, a62_7, a62_8, a62_9, a62_10, hS62⟩
  clear a44_1 a44_2 a44_41 a44_5 a44_6 a44_7 a44_8 a44_9
  refine wpF_seq ?_
  refine wpF_seq ?_
  refine wpF_cut (fun f H => f 1 = vs ∧ f 2 = PT g1 0 ∧ f 6 = r24 ∧ f 7 = PT g28 0 ∧ f 73 = B (decide ((((loopFault l).1) ≠ 0) ∨ (¬ ((runsOut l) = (comeL l))))) ∧ St H0 NoB NoB [blkE g38 (.cells #[I ((loopFault l).1), I ((loopFault l).2)] 27), blkE g28 (.cells #[I ((nextFault l s).1), I ((nextFault l s).2)] 27), rdE r24 (nextOut l s : List (List Int)), blkE g14 (.cells #[I ((loopFault l).1), I ((loopFault l).2)] 27), blkE g1 (.cells #[wa, wb, wc, wd, we] 42), rdE wa (l.Low : List Int), rdE wb (l.High : List Int), rdE wc (l.Start : List LRow), rdE wd (l.Jumps : List Jump), rdE we (l.Bad : List LRow), rdE vs (s : List Int)] H) ?_ ?_
  · refine wpF_region ?_
    refine wpL_q (U := NoB) rfl (q_fieldAddr rfl Try.underlying27 rfl Try.sizeOf3 a62_9) ?_
    refine wpL_q (U := NoB) rfl (q_loadBlk rfl rfl Try.isAgg3 (hS62.blk 1 rfl) rfl (fun h => h)) ?_
    refine wpL_q (U := NoB) rfl (q_neq rfl rfl rfl) ?_
    refine wpL_q (U := NoB) rfl (q_move (v := B (decide (((loopFault l).1) ≠ 0))) rfl rfl) ?_
    by_cases hg63 : ((loopFault l).1) ≠ 0
    · have hb64 := Eq.trans rfl (congrArg B (decide_eq_true hg63))
      refine wpL_gs rfl rfl rfl hb64 rfl ?_
      refine wpL_gs rfl rfl rfl hb64 rfl ?_
      refine wpL_gs rfl rfl rfl hb64 rfl ?_
      refine wpL_gs rfl rfl rfl hb64 rfl ?_
      refine wpL_q (U := NoB) rfl (q_pickT (v := B (true)) rfl hb64 rfl) ?_
      exact ⟨a62_1, a62_2, a62_6, a62_7, (Eq.trans rfl (congrArg B ((decide_eq_true (Or.inl hg63)).symm))), (hS62.drop (List.Sublist.cons _ (List.Sublist.cons_cons _ (List.Sublist.cons _ (List.Sublist.cons_cons _ (List.Sublist.cons_cons _ (List.Sublist.cons_cons _ (List.Sublist.cons_cons _ (List.Sublist.cons_cons _ (List.Sublist.cons_cons _ (List.Sublist.cons_cons _ (List.Sublist.cons_cons _ (List.Sublist.cons_cons _ (List.Sublist.cons_cons _ (List.Sublist.slnil)))))))))))))))⟩
    · have hb65 := Eq.trans rfl (congrArg B (decide_eq_false hg63))
      refine wpL_gq (U := NoB) rfl rfl rfl hb65 (q_move (v := r34) rfl a62_8) ?_
      refine wpL_gq (U := NoB) rfl rfl rfl hb65 (q_move (v := r56) rfl a62_10) ?_
      refine wpL_go rfl rfl rfl hb65 ?_
      refine e_call rfl Try.call29 (arr2 (v0 := r34) (v1 := r56) rfl rfl) (rows_L r34 r56 _ _ (hS62.rdN 2 rfl) (hS62.rdN 0 rfl)) ?_
      rintro _ H66 ⟨hxx, rfl⟩
      have hS67 : St H0 NoB NoB [rdE r56 (comeL l : List (List Int)), blkE g38 (.cells #[I ((loopFault l).1), I ((loopFault l).2)] 27), rdE r34 (runsOut l : List (List Int)), blkE g28 (.cells #[I ((nextFault l s).1), I ((nextFault l s).2)] 27), rdE r24 (nextOut l s : List (List Int)), blkE g14 (.cells #[I ((loopFault l).1), I ((loopFault l).2)] 27), blkE g1 (.cells #[wa, wb, wc, wd, we] 42), rdE wa (l.Low : List Int), rdE wb (l.High : List Int), rdE wc (l.Start : List LRow), rdE wd (l.Jumps : List Jump), rdE we (l.Bad : List LRow), rdE vs (s : List Int)] H66 := hS62.ext hxx
      refine wpL_gq (U := NoB) rfl rfl rfl hb65 (q_notP rfl rfl) ?_
      refine wpL_q (U := NoB) rfl (q_pickF (v := B (decide (¬ ((runsOut l) = (comeL l))))) rfl hb65 rfl) ?_
      exact ⟨a62_1, a62_2, a62_6, a62_7, (Eq.trans rfl (congrArg B (decide_congr_of (((not_congr Iff.rfl)).trans (((or_iff_right hg63).trans (not_congr Iff.rfl))).symm)))), (hS67.drop (List.Sublist.cons _ (List.Sublist.cons_cons _ (List.Sublist.cons _ (List.Sublist.cons_cons _ (List.Sublist.cons_cons _ (List.Sublist.cons_cons _ (List.Sublist.cons_cons _ (List.Sublist.cons_cons _ (List.Sublist.cons_cons _ (List.Sublist.cons_cons _ (List.Sublist.cons_cons _ (List.Sublist.cons_cons _ (List.Sublist.cons_cons _ (List.Sublist.slnil)))))))))))))))⟩
  rintro f69 H69 ⟨a69_1, a69_2, a69_6, a69_7, a69_73, hS69⟩
  clear a62_1 a62_10 a62_2 a62_6 a62_7 a62_8 a62_9
  refine wpF_condP a69_73 (fun h73 => ?t102) (fun h73 => ?e102)
  case t102 =>
    refine wpF_seq ?_
    refine wpF_cut (fun f H => f 4 = B (false) ∧ H69 = H) ?_ ?_
    · refine wpF_region ?_
      refine wpL_q (U := NoB) rfl (q_assign (v := B (false)) rfl rfl) ?_
      exact ⟨rfl, rfl⟩
    rintro f71 _ ⟨a71_4, rfl⟩
    clear a69_1 a69_2 a69_6 a69_7 a69_73
    refine wpF_ret ?_
    refine ⟨_, resT a71_4 resN, hS69.frame, ?_⟩
    show (B (false)) = B true
    exfalso
    rw [runsOut, if_neg h1, hl.code] at h73
    simp at h73
  refine wpF_skip ?_
  refine wpF_seq ?_
  refine wpF_seq ?_
  refine wpF_cut (fun f H => f 1 = vs ∧ f 2 = PT g1 0 ∧ f 6 = r24 ∧ f 7 = PT g28 0 ∧ f 79 = B (decide ((s.length : Int) ≠ (l.Low.length : Int))) ∧ H69 = H) ?_ ?_
  · refine wpF_region ?_
    refine wpL_q (U := NoB) rfl (q_move (v := vs) rfl a69_1) ?_
    refine wpL_q (U := NoB) rfl (q_lenRd rfl Try.underlying32 rfl (hS69.rdl 10 rfl)) ?_
    refine wpL_q (U := NoB) rfl (q_fieldAddr rfl Try.underlying42 rfl Try.sizeOf32 a69_2) ?_
    refine wpL_q (U := NoB) rfl (q_loadBlk rfl rfl Try.isAgg32 (hS69.blk 4 rfl) rfl (fun h => h)) ?_
    refine wpL_q (U := NoB) rfl (q_lenRd rfl Try.underlying32 rfl (hS69.rdl 5 rfl)) ?_
    refine wpL_q (U := NoB) rfl (q_neq rfl rfl rfl) ?_
    exact ⟨a69_1, a69_2, a69_6, a69_7, rfl, rfl⟩
  rintro f72 _ ⟨a72_1, a72_2, a72_6, a72_7, a72_79, rfl⟩
  clear a69_1 a69_2 a69_6 a69_7 a69_73
  refine wpF_condP a72_79 (fun h79 => ?t101) (fun h79 => ?e101)
  case t101 =>
    refine wpF_seq ?_
    refine wpF_cut (fun f H => f 4 = B (decide ((((nextFault l s).1) = 9 ∧ ((nextFault l s).2) = (-4)) ∧ (((nextOut l s).length : Int) = 0))) ∧ St H0 NoB NoB [blkE g38 (.cells #[I ((loopFault l).1), I ((loopFault l).2)] 27), blkE g28 (.cells #[I ((nextFault l s).1), I ((nextFault l s).2)] 27), blkE g14 (.cells #[I ((loopFault l).1), I ((loopFault l).2)] 27), blkE g1 (.cells #[wa, wb, wc, wd, we] 42), rdE wa (l.Low : List Int), rdE wb (l.High : List Int), rdE wc (l.Start : List LRow), rdE wd (l.Jumps : List Jump), rdE we (l.Bad : List LRow), rdE vs (s : List Int)] H) ?_ ?_
    · refine wpF_drawn [] [] (fun _ _ => False) (by kernel_rfl) (by kernel_rfl) ?_
      refine wpR_q 0 (by kernel_rfl) rfl (quietAt rfl rfl (q_loadBlkA rfl a72_7 Try.isAgg27 Try.sizeOf27 rfl (hS69.blk 1 rfl) (labU_not [] rfl (List.forall_mem_nil _)))) ?_
      refine wpR_n [1] (by kernel_rfl) ?_
      refine List.forall_mem_cons.2 ⟨?_, List.forall_mem_nil _⟩
      refine exE rfl rfl ?_
      refine e_call rfl Try.call13 (arr2 (v0 := I (9)) (v1 := I (-4)) rfl rfl) (fault_L 9 (-4)) ?_
      rintro _ H74o1 ⟨hxx, rfl⟩
      have hS74o1 : St H0 NoB NoB [blkE g38 (.cells #[I ((loopFault l).1), I ((loopFault l).2)] 27), blkE g28 (.cells #[I ((nextFault l s).1), I ((nextFault l s).2)] 27), rdE r24 (nextOut l s : List (List Int)), blkE g14 (.cells #[I ((loopFault l).1), I ((loopFault l).2)] 27), blkE g1 (.cells #[wa, wb, wc, wd, we] 42), rdE wa (l.Low : List Int), rdE wb (l.High : List Int), rdE wc (l.Start : List LRow), rdE wd (l.Jumps : List Jump), rdE we (l.Bad : List LRow), rdE vs (s : List Int)] H74o1 := hS69.ext hxx
      refine ⟨Ext.mono hxx (fun _ h => h.elim), ?_⟩
      refine wpR_q 2 (by kernel_rfl) rfl (quietAt rfl rfl (q_eqlF2 rfl Try.eqGuardType27 (fl27_LoopSays1 _ _ _ _) rfl rfl)) ?_
      refine wpR_q 3 (by kernel_rfl) rfl (quietAt rfl rfl (q_move (v := B (decide (((nextFault l s).1) = 9 ∧ ((nextFault l s).2) = (-4)))) rfl rfl)) ?_
      by_cases hg75 : ((nextFault l s).1) = 9 ∧ ((nextFault l s).2) = (-4)
      · have hb76 := Eq.trans rfl (congrArg B (decide_eq_true hg75))
        refine wpR_q 4 (by kernel_rfl) rfl (quietAt_g rfl rfl rfl rfl hb76 (q_move (v := r24) rfl a72_6)) ?_
        refine wpR_q 5 (by kernel_rfl) rfl (quietAt_g rfl rfl rfl rfl hb76 (q_lenRd rfl Try.underlying23 rfl (hS74o1.rdl 2 rfl))) ?_
        refine wpR_q 6 (by kernel_rfl) rfl (quietAt_g rfl rfl rfl rfl hb76 (q_eql rfl rfl rfl)) ?_
        refine wpR_q 7 (by kernel_rfl) rfl (quietAt rfl rfl (q_pickT (v := B (decide (((nextOut l s).length : Int) = 0))) rfl hb76 rfl)) ?_
        refine wpR_q 8 (by kernel_rfl) rfl (quietAt rfl rfl (q_assign (v := B (decide (((nextOut l s).length : Int) = 0))) rfl rfl)) ?_
        refine wpR_end (by kernel_rfl) ?_
        exact ⟨(Eq.trans rfl (congrArg B (decide_congr_of ((Iff.rfl).trans (((and_iff_right hg75).trans Iff.rfl)).symm)))), (hS74o1.drop (List.Sublist.cons_cons _ (List.Sublist.cons_cons _ (List.Sublist.cons _ (List.Sublist.cons_cons _ (List.Sublist.cons_cons _ (List.Sublist.cons_cons _ (List.Sublist.cons_cons _ (List.Sublist.cons_cons _ (List.Sublist.cons_cons _ (List.Sublist.cons_cons _ (List.Sublist.cons_cons _ (List.Sublist.slnil)))))))))))))⟩
      · have hb77 := Eq.trans rfl (congrArg B (decide_eq_false hg75))
        refine wpR_q 4 (by kernel_rfl) rfl (quietAt_s rfl rfl rfl rfl hb77 rfl) ?_
        refine wpR_q 5 (by kernel_rfl) rfl (quietAt_s rfl rfl rfl rfl hb77 rfl) ?_
        refine wpR_q 6 (by kernel_rfl) rfl (quietAt_s rfl rfl rfl rfl hb77 rfl) ?_
        refine wpR_q 7 (by kernel_rfl) rfl (quietAt rfl rfl (q_pickF (v := B (false)) rfl hb77 rfl)) ?_
        refine wpR_q 8 (by kernel_rfl) rfl (quietAt rfl rfl (q_assign (v := B (false)) rfl rfl)) ?_
        refine wpR_end (by kernel_rfl) ?_
        exact ⟨(Eq.trans rfl (congrArg B ((decide_eq_false (fun h => hg75 h.1)).symm))), (hS74o1.drop (List.Sublist.cons_cons _ (List.Sublist.cons_cons _ (List.Sublist.cons _ (List.Sublist.cons_cons _ (List.Sublist.cons_cons _ (List.Sublist.cons_cons _ (List.Sublist.cons_cons _ (List.Sublist.cons_cons _ (List.Sublist.cons_cons _ (List.Sublist.cons_cons _ (List.Sublist.cons_cons _ (List.Sublist.slnil)))))))))))))⟩
    rintro f78 H78 ⟨a78_4, hS78⟩
    clear a72_1 a72_2 a72_6 a72_7 a72_79
    refine wpF_ret ?_
    refine ⟨_, resT a78_4 resN, hS78.frame, ?_⟩
    show (B (decide ((((nextFault l s).1) = 9 ∧ ((nextFault l s).2) = (-4)) ∧ (((nextOut l s).length : Int) = 0)))) = B true
    have hq : nextFault l s = (9, -4) := by rw [nextFault, if_neg h1, if_pos h79]
    exact congrArg B (decide_eq_true (by rw [nextOut, hq]; simp))
  refine wpF_skip ?_
  refine wpF_seq ?_
  refine wpF_seq ?_
  refine wpF_cut (fun f H => f 1 = vs ∧ f 2 = PT g1 0 ∧ f 6 = r24 ∧ f 7 = PT g28 0 ∧ f 91 = B (decide (¬ (insideB l s = true ∧ s.length = l.Low.length))) ∧ St H0 NoB NoB [blkE g38 (.cells #[I ((loopFault l).1), I ((loopFault l).2)] 27), blkE g28 (.cells #[I ((nextFault l s).1), I ((nextFault l s).2)] 27), rdE r24 (nextOut l s : List (List Int)), blkE g14 (.cells #[I ((loopFault l).1), I ((loopFault l).2)] 27), blkE g1 (.cells #[wa, wb, wc, wd, we] 42), rdE wa (l.Low : List Int), rdE wb (l.High : List Int), rdE wc (l.Start : List LRow), rdE wd (l.Jumps : List Jump), rdE we (l.Bad : List LRow), rdE vs (s : List Int)] H) ?_ ?_
  · refine wpF_region ?_
    refine wpL_q (U := NoB) rfl (q_loadBlkA rfl a72_2 Try.isAgg42 Try.sizeOf42 rfl (hS69.blk 4 rfl) (fun h => h)) ?_
    refine wpL_q (U := NoB) rfl (q_move (v := vs) rfl a72_1) ?_
    refine wpL_o rfl ?_
    refine e_call rfl Try.call30 (arr2 (v0 := Value.agg #[wa, wb, wc, wd, we]) (v1 := vs) rfl rfl) (Inside_R wa wb wc wd we vs l s (hS69.rdN 5 rfl) (hS69.rdN 6 rfl) (hS69.rdN 7 rfl) (hS69.rdN 8 rfl) (hS69.rdN 9 rfl) (hS69.rdN 10 rfl) (by omega) (by have := hl.high; omega)) ?_
    rintro _ H79 ⟨hxx, rfl⟩
    have hS80 : St H0 NoB NoB [blkE g38 (.cells #[I ((loopFault l).1), I ((loopFault l).2)] 27), blkE g28 (.cells #[I ((nextFault l s).1), I ((nextFault l s).2)] 27), rdE r24 (nextOut l s : List (List Int)), blkE g14 (.cells #[I ((loopFault l).1), I ((loopFault l).2)] 27), blkE g1 (.cells #[wa, wb, wc, wd, we] 42), rdE wa (l.Low : List Int), rdE wb (l.High : List Int), rdE wc (l.Start : List LRow), rdE wd (l.Jumps : List Jump), rdE we (l.Bad : List LRow), rdE vs (s : List Int)] H79 := hS69.ext hxx
    refine wpL_q (U := NoB) rfl (q_notP rfl rfl) ?_
    exact ⟨a72_1, a72_2, a72_6, a72_7, rfl, hS80⟩
  rintro f82 H82 ⟨a82_1, a82_2, a82_6, a82_7, a82_91, hS82⟩
  clear a72_1 a72_2 a72_6 a72_7 a72_79
  refine wpF_condP a82_91 (fun h91 => ?t100) (fun h91 => ?e100)
  case t100 =>
    refine wpF_seq ?_
    refine wpF_cut (fun f H => f 4 = B (decide ((((nextFault l s).1) = 3 ∧ ((nextFault l s).2) = (-4)) ∧ (((nextOut l s).length : Int) = 0))) ∧ St H0 NoB NoB [blkE g38 (.cells #[I ((loopFault l).1), I ((loopFault l).2)] 27), blkE g28 (.cells #[I ((nextFault l s).1), I ((nextFault l s).2)] 27), blkE g14 (.cells #[I ((loopFault l).1), I ((loopFault l).2)] 27), blkE g1 (.cells #[wa, wb, wc, wd, we] 42), rdE wa (l.Low : List Int), rdE wb (l.High : List Int), rdE wc (l.Start : List LRow), rdE wd (l.Jumps : List Jump), rdE we (l.Bad : List LRow), rdE vs (s : List Int)] H) ?_ ?_
    · refine wpF_drawn [] [] (fun _ _ => False) (by kernel_rfl) (by kernel_rfl) ?_
      refine wpR_q 0 (by kernel_rfl) rfl (quietAt rfl rfl (q_loadBlkA rfl a82_7 Try.isAgg27 Try.sizeOf27 rfl (hS82.blk 1 rfl) (labU_not [] rfl (List.forall_mem_nil _)))) ?_
      refine wpR_n [1] (by kernel_rfl) ?_
      refine List.forall_mem_cons.2 ⟨?_, List.forall_mem_nil _⟩
      refine exE rfl rfl ?_
      refine e_call rfl Try.call13 (arr2 (v0 := I (3)) (v1 := I (-4)) rfl rfl) (fault_L 3 (-4)) ?_
      rintro _ H84o1 ⟨hxx, rfl⟩
      have hS84o1 : St H0 NoB NoB [blkE g38 (.cells #[I ((loopFault l).1), I ((loopFault l).2)] 27), blkE g28 (.cells #[I ((nextFault l s).1), I ((nextFault l s).2)] 27), rdE r24 (nextOut l s : List (List Int)), blkE g14 (.cells #[I ((loopFault l).1), I ((loopFault l).2)] 27), blkE g1 (.cells #[wa, wb, wc, wd, we] 42), rdE wa (l.Low : List Int), rdE wb (l.High : List Int), rdE wc (l.Start : List LRow), rdE wd (l.Jumps : List Jump), rdE we (l.Bad : List LRow), rdE vs (s : List Int)] H84o1 := hS82.ext hxx
      refine ⟨Ext.mono hxx (fun _ h => h.elim), ?_⟩
      refine wpR_q 2 (by kernel_rfl) rfl (quietAt rfl rfl (q_eqlF2 rfl Try.eqGuardType27 (fl27_LoopSays1 _ _ _ _) rfl rfl)) ?_
      refine wpR_q 3 (by kernel_rfl) rfl (quietAt rfl rfl (q_move (v := B (decide (((nextFault l s).1) = 3 ∧ ((nextFault l s).2) = (-4)))) rfl rfl)) ?_
      by_cases hg85 : ((nextFault l s).1) = 3 ∧ ((nextFault l s).2) = (-4)
      · have hb86 := Eq.trans rfl (congrArg B (decide_eq_true hg85))
        refine wpR_q 4 (by kernel_rfl) rfl (quietAt_g rfl rfl rfl rfl hb86 (q_move (v := r24) rfl a82_6)) ?_
        refine wpR_q 5 (by kernel_rfl) rfl (quietAt_g rfl rfl rfl rfl hb86 (q_lenRd rfl Try.underlying23 rfl (hS84o1.rdl 2 rfl))) ?_
        refine wpR_q 6 (by kernel_rfl) rfl (quietAt_g rfl rfl rfl rfl hb86 (q_eql rfl rfl rfl)) ?_
        refine wpR_q 7 (by kernel_rfl) rfl (quietAt rfl rfl (q_pickT (v := B (decide (((nextOut l s).length : Int) = 0))) rfl hb86 rfl)) ?_
        refine wpR_q 8 (by kernel_rfl) rfl (quietAt rfl rfl (q_assign (v := B (decide (((nextOut l s).length : Int) = 0))) rfl rfl)) ?_
        refine wpR_end (by kernel_rfl) ?_
        exact ⟨(Eq.trans rfl (congrArg B (decide_congr_of ((Iff.rfl).trans (((and_iff_right hg85).trans Iff.rfl)).symm)))), (hS84o1.drop (List.Sublist.cons_cons _ (List.Sublist.cons_cons _ (List.Sublist.cons _ (List.Sublist.cons_cons _ (List.Sublist.cons_cons _ (List.Sublist.cons_cons _ (List.Sublist.cons_cons _ (List.Sublist.cons_cons _ (List.Sublist.cons_cons _ (List.Sublist.cons_cons _ (List.Sublist.cons_cons _ (List.Sublist.slnil)))))))))))))⟩
      · have hb87 := Eq.trans rfl (congrArg B (decide_eq_false hg85))
        refine wpR_q 4 (by kernel_rfl) rfl (quietAt_s rfl rfl rfl rfl hb87 rfl) ?_
        refine wpR_q 5 (by kernel_rfl) rfl (quietAt_s rfl rfl rfl rfl hb87 rfl) ?_
        refine wpR_q 6 (by kernel_rfl) rfl (quietAt_s rfl rfl rfl rfl hb87 rfl) ?_
        refine wpR_q 7 (by kernel_rfl) rfl (quietAt rfl rfl (q_pickF (v := B (false)) rfl hb87 rfl)) ?_
        refine wpR_q 8 (by kernel_rfl) rfl (quietAt rfl rfl (q_assign (v := B (false)) rfl rfl)) ?_
        refine wpR_end (by kernel_rfl) ?_
        exact ⟨(Eq.trans rfl (congrArg B ((decide_eq_false (fun h => hg85 h.1)).symm))), (hS84o1.drop (List.Sublist.cons_cons _ (List.Sublist.cons_cons _ (List.Sublist.cons _ (List.Sublist.cons_cons _ (List.Sublist.cons_cons _ (List.Sublist.cons_cons _ (List.Sublist.cons_cons _ (List.Sublist.cons_cons _ (List.Sublist.cons_cons _ (List.Sublist.cons_cons _ (List.Sublist.cons_cons _ (List.Sublist.slnil)))))))))))))⟩
    rintro f88 H88 ⟨a88_4, hS88⟩
    clear a82_1 a82_2 a82_6 a82_7 a82_91
    refine wpF_ret ?_
    refine ⟨_, resT a88_4 resN, hS88.frame, ?_⟩
    show (B (decide ((((nextFault l s).1) = 3 ∧ ((nextFault l s).2) = (-4)) ∧ (((nextOut l s).length : Int) = 0)))) = B true
    have hq : nextFault l s = (3, -4) := by rw [nextFault, if_neg h1, if_neg h79, if_neg (fun h => h91 ⟨h, by omega⟩)]
    exact congrArg B (decide_eq_true (by rw [nextOut, hq]; simp))
  have h91in : insideB l s = true := (Decidable.of_not_not h91).1
  refine wpF_skip ?_
  refine wpF_seq ?_
  refine wpF_cut (fun f H => f 4 = B (decide ((((nextFault l s).1) = 0) ∧ ((nextOut l s) = (nextL l s)))) ∧ St H0 NoB NoB [blkE g38 (.cells #[I ((loopFault l).1), I ((loopFault l).2)] 27), blkE g28 (.cells #[I ((nextFault l s).1), I ((nextFault l s).2)] 27), blkE g14 (.cells #[I ((loopFault l).1), I ((loopFault l).2)] 27), blkE g1 (.cells #[wa, wb, wc, wd, we] 42), rdE wa (l.Low : List Int), rdE wb (l.High : List Int), rdE wc (l.Start : List LRow), rdE wd (l.Jumps : List Jump), rdE we (l.Bad : List LRow), rdE vs (s : List Int)] H) ?_ ?_
  · refine wpF_region ?_
    refine wpL_q (U := NoB) rfl (q_fieldAddr rfl Try.underlying27 rfl Try.sizeOf3 a82_7) ?_
    refine wpL_q (U := NoB) rfl (q_loadBlk rfl rfl Try.isAgg3 (hS82.blk 1 rfl) rfl (fun h => h)) ?_
    refine wpL_q (U := NoB) rfl (q_eql rfl rfl rfl) ?_
    refine wpL_q (U := NoB) rfl (q_move (v := B (decide (((nextFault l s).1) = 0))) rfl rfl) ?_
    by_cases hg89 : ((nextFault l s).1) = 0
    · have hb90 := Eq.trans rfl (congrArg B (decide_eq_true hg89))
      refine wpL_gq (U := NoB) rfl rfl rfl hb90 (q_move (v := r24) rfl a82_6) ?_
      refine wpL_gq (U := NoB) rfl rfl rfl hb90 (q_loadBlkA rfl a82_2 Try.isAgg42 Try.sizeOf42 rfl (hS82.blk 4 rfl) (fun h => h)) ?_
      refine wpL_gq (U := NoB) rfl rfl rfl hb90 (q_move (v := vs) rfl a82_1) ?_
      refine wpL_go rfl rfl rfl hb90 ?_
      refine e_call rfl Try.call31 (arr2 (v0 := Value.agg #[wa, wb, wc, wd, we]) (v1 := vs) rfl rfl) (Next_R wa wb wc wd we vs l s (hS82.rdS 5 rfl) (hS82.rdS 6 rfl) (hS82.rdS 7 rfl) (hS82.rdS 8 rfl) (hS82.rdS 9 rfl) (hS82.rdS 10 rfl) hl (by omega) (inside_small hl (by omega) (by simpa using h91in))) ?_
      rintro r92 H93 ⟨hxx, hrr92⟩
      have hS94 : St H0 NoB NoB [rdE r92 (nextL l s : List (List Int)), blkE g38 (.cells #[I ((loopFault l).1), I ((loopFault l).2)] 27), blkE g28 (.cells #[I ((nextFault l s).1), I ((nextFault l s).2)] 27), rdE r24 (nextOut l s : List (List Int)), blkE g14 (.cells #[I ((loopFault l).1), I ((loopFault l).2)] 27), blkE g1 (.cells #[wa, wb, wc, wd, we] 42), rdE wa (l.Low : List Int), rdE wb (l.High : List Int), rdE wc (l.Start : List LRow), rdE wd (l.Jumps : List Jump), rdE we (l.Bad : List LRow), rdE vs (s : List Int)] H93 := hS82.res hxx hrr92
      refine wpL_go rfl rfl rfl hb90 ?_
      refine e_call rfl Try.call29 (arr2 (v0 := r24) (v1 := r92) rfl rfl) (rows_L r24 r92 _ _ (hS94.rdN 3 rfl) (hS94.rdN 0 rfl)) ?_
      rintro _ H96 ⟨hxx, rfl⟩
      have hS97 : St H0 NoB NoB [rdE r92 (nextL l s : List (List Int)), blkE g38 (.cells #[I ((loopFault l).1), I ((loopFault l).2)] 27), blkE g28 (.cells #[I ((nextFault l s).1), I ((nextFault l s).2)] 27), rdE r24 (nextOut l s : List (List Int)), blkE g14 (.cells #[I ((loopFault l).1), I ((loopFault l).2)] 27), blkE g1 (.cells #[wa, wb, wc, wd, we] 42), rdE wa (l.Low : List Int), rdE wb (l.High : List Int), rdE wc (l.Start : List LRow), rdE wd (l.Jumps : List Jump), rdE we (l.Bad : List LRow), rdE vs (s : List Int)] H96 := hS94.ext hxx
      refine wpL_q (U := NoB) rfl (q_pickT (v := B (decide ((nextOut l s) = (nextL l s)))) rfl hb90 rfl) ?_
      refine wpL_q (U := NoB) rfl (q_assign (v := B (decide ((nextOut l s) = (nextL l s)))) rfl rfl) ?_
      exact ⟨(Eq.trans rfl (congrArg B (decide_congr_of ((Iff.rfl).trans (((and_iff_right hg89).trans Iff.rfl)).symm)))), (hS97.drop (List.Sublist.cons _ (List.Sublist.cons_cons _ (List.Sublist.cons_cons _ (List.Sublist.cons _ (List.Sublist.cons_cons _ (List.Sublist.cons_cons _ (List.Sublist.cons_cons _ (List.Sublist.cons_cons _ (List.Sublist.cons_cons _ (List.Sublist.cons_cons _ (List.Sublist.cons_cons _ (List.Sublist.cons_cons _ (List.Sublist.slnil))))))))))))))⟩
    · have hb91 := Eq.trans rfl (congrArg B (decide_eq_false hg89))
      refine wpL_gs rfl rfl rfl hb91 rfl ?_
      refine wpL_gs rfl rfl rfl hb91 rfl ?_
      refine wpL_gs rfl rfl rfl hb91 rfl ?_
      refine wpL_gs rfl rfl rfl hb91 rfl ?_
      refine wpL_gs rfl rfl rfl hb91 rfl ?_
      refine wpL_q (U := NoB) rfl (q_pickF (v := B (false)) rfl hb91 rfl) ?_
      refine wpL_q (U := NoB) rfl (q_assign (v := B (false)) rfl rfl) ?_
      exact ⟨(Eq.trans rfl (congrArg B ((decide_eq_false (fun h => hg89 h.1)).symm))), (hS82.drop (List.Sublist.cons_cons _ (List.Sublist.cons_cons _ (List.Sublist.cons _ (List.Sublist.cons_cons _ (List.Sublist.cons_cons _ (List.Sublist.cons_cons _ (List.Sublist.cons_cons _ (List.Sublist.cons_cons _ (List.Sublist.cons_cons _ (List.Sublist.cons_cons _ (List.Sublist.cons_cons _ (List.Sublist.slnil)))))))))))))⟩
  rintro f99 H99 ⟨a99_4, hS99⟩
  clear a82_1 a82_2 a82_6 a82_7 a82_91
  refine wpF_ret ?_
  refine ⟨_, resT a99_4 resN, hS99.frame, ?_⟩
  show (B (decide ((((nextFault l s).1) = 0) ∧ ((nextOut l s) = (nextL l s))))) = B true
  have hq : nextFault l s = (0, 0) := by rw [nextFault, if_neg h1, if_neg h79, if_pos h91in]
  exact congrArg B (decide_eq_true (by rw [nextOut, hq]; simp))

end Go.Um
