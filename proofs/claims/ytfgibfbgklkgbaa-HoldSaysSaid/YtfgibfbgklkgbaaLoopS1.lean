import Derived.Test.YtfgibfbgklkgbaaProg
import Derived.Test.YtfgibfbgklkgbaaLoopC1
import Derived.Test.YtfgibfbgklkgbaaLoopRuns
import Derived.Test.YtfgibfbgklkgbaaUmRowEl
import Derived.Test.YtfgibfbgklkgbaaUmSub
namespace Go.Um
open Go.Proofs
open GoT (sz ag rdc)
open KeyT (kv)

theorem el_Int_3_LoopS1 : ElT Try.prog Int 3 := ⟨Try.isAgg3, Try.sizeOf3⟩
theorem el_Jump_25_LoopS1 : ElT Try.prog Jump 25 := ⟨Try.isAgg25, Try.sizeOf25⟩
theorem el_LInt_32_LoopS1 : ElT Try.prog (List Int) 32 := ⟨Try.isAgg32, Try.sizeOf32⟩
theorem el_LRow_34_LoopS1 : ElT Try.prog LRow 34 := ⟨Try.isAgg34, Try.sizeOf34⟩

set_option maxRecDepth 100000 in
theorem rows_L {H0 : Heap} (va vb : Value) (a b : List (List Int)) (ra : Rd NoB H0 va a) (rb : Rd NoB H0 vb b) : CallsH Try.prog 29 #[va, vb] H0 (fun rv_ H' => Ext NoB H0 H' ∧ rv_ = B (decide (a = b))) := by
  have hsm := (Rd.list.1 ra).small
  have hS0 : St H0 NoB NoB [rdE va a, rdE vb b] H0 := St.arg (St.arg (St.start (fun _ h => h.elim)) (Bl0.nil) rb (fun _ h => h)) (Bl0.cons (Bl0.nil)) ra (fun _ h => h)
  refine callsH_of_wpF (args := [va, vb]) (rs := [.tmp 4]) Try.func29 rfl Try.ntmps29 Try.results29 (by kernel_rfl) (Nat.le_of_ble_eq_true rfl) ?_
  have a0_0 : argF [va, vb] 0 = va := rfl
  have a0_1 : argF [va, vb] 1 = vb := rfl
  generalize argF [va, vb] = f0 at *
  refine wpF_seq ?_
  refine wpF_cut (fun f H => f 0 = va ∧ f 1 = vb ∧ H0 = H) ?_ ?_
  · refine wpF_region ?_
    refine wpL_q (U := NoB) rfl (q_assign (v := B (false)) rfl rfl) ?_
    exact ⟨a0_0, a0_1, rfl⟩
  rintro f1 _ ⟨a1_0, a1_1, rfl⟩
  clear a0_0 a0_1
  refine wpF_seq ?_
  refine wpF_seq ?_
  refine wpF_cut (fun f H => f 0 = va ∧ f 1 = vb ∧ f 10 = B (decide ((a.length : Int) ≠ (b.length : Int))) ∧ H0 = H) ?_ ?_
  · refine wpF_region ?_
    refine wpL_q (U := NoB) rfl (q_move (v := va) rfl a1_0) ?_
    refine wpL_q (U := NoB) rfl (q_lenRd rfl Try.underlying23 rfl (hS0.rdl 0 rfl)) ?_
    refine wpL_q (U := NoB) rfl (q_move (v := vb) rfl a1_1) ?_
    refine wpL_q (U := NoB) rfl (q_lenRd rfl Try.underlying23 rfl (hS0.rdl 1 rfl)) ?_
    refine wpL_q (U := NoB) rfl (q_neq rfl rfl rfl) ?_
    exact ⟨a1_0, a1_1, rfl, rfl⟩
  rintro f2 _ ⟨a2_0, a2_1, a2_10, rfl⟩
  clear a1_0 a1_1
  refine wpF_condP a2_10 (fun hlen => ?t17) (fun hlen => ?e17)
  case t17 =>
    refine wpF_seq ?_
    refine wpF_cut (fun f H => f 4 = B (false) ∧ H0 = H) ?_ ?_
    · refine wpF_region ?_
      refine wpL_q (U := NoB) rfl (q_assign (v := B (false)) rfl rfl) ?_
      exact ⟨rfl, rfl⟩
    rintro f4 _ ⟨a4_4, rfl⟩
    clear a2_0 a2_1 a2_10
    refine wpF_ret ?_
    refine ⟨_, resT a4_4 resN, hS0.frame, ?_⟩
    show (B (false)) = B (decide (a = b))
    exact congrArg B (by simp; intro h; subst h; simp at hlen)
  refine wpF_skip ?_
  refine wpF_seq ?_
  refine wpF_seq ?_
  refine wpF_cut (fun f H => f 0 = va ∧ f 1 = vb ∧ f 5 = I (0) ∧ H0 = H) ?_ ?_
  · refine wpF_region ?_
    refine wpL_q (U := NoB) rfl (q_assign (v := I (0)) rfl rfl) ?_
    exact ⟨a2_0, a2_1, rfl, rfl⟩
  rintro f5 _ ⟨a5_0, a5_1, a5_5, rfl⟩
  clear a2_0 a2_1 a2_10
  refine wpF_block ?_
  refine wpF_loop (fun mz f H => ∃ (k : Nat), mz = a.length - k ∧ (k ≤ a.length) ∧ (a.take k = b.take k) ∧ f 0 = va ∧ f 1 = vb ∧ f 5 = I ((k : Int)) ∧ St H0 NoB NoB [rdE va a, rdE vb b] H) (a.length - 0) ?_ ?_
  · exact ⟨0, rfl, Nat.zero_le _, rfl, a5_0, a5_1, (Eq.trans a5_5 (congrArg I (by omega))), hS0⟩
  intro m6 f6 H6 hI6
  obtain ⟨k, hm6, hk, hpre, a6_0, a6_1, a6_5, hS6⟩ := hI6
  clear a5_0 a5_1 a5_5
  refine wpF_seq ?_
  refine wpF_seq ?_
  refine wpF_cut (fun f H => f 0 = va ∧ f 1 = vb ∧ f 5 = I ((k : Int)) ∧ f 14 = B (decide ((k : Int) < (a.length : Int))) ∧ H6 = H) ?_ ?_
  · refine wpF_region ?_
    refine wpL_q (U := NoB) rfl (q_move (v := I ((k : Int))) rfl a6_5) ?_
    refine wpL_q (U := NoB) rfl (q_move (v := va) rfl a6_0) ?_
    refine wpL_q (U := NoB) rfl (q_lenRd rfl Try.underlying23 rfl (hS6.rdl 0 rfl)) ?_
    refine wpL_q (U := NoB) rfl (q_lss rfl rfl rfl) ?_
    exact ⟨a6_0, a6_1, a6_5, rfl, rfl⟩
  rintro f7 _ ⟨a7_0, a7_1, a7_5, a7_14, rfl⟩
  clear a6_0 a6_1 a6_5
  refine wpF_condP a7_14 (fun hlt => ?t16) (fun hlt => ?e16)
  case e16 =>
    refine wpF_exit ?_
    refine atX_here ?_
    refine wpF_seq ?_
    refine wpF_cut (fun f H => f 4 = B (true) ∧ H6 = H) ?_ ?_
    · refine wpF_region ?_
      refine wpL_q (U := NoB) rfl (q_assign (v := B (true)) rfl rfl) ?_
      exact ⟨rfl, rfl⟩
    rintro f15 _ ⟨a15_4, rfl⟩
    clear a7_0 a7_1 a7_14 a7_5
    refine wpF_ret ?_
    refine ⟨_, resT a15_4 resN, hS6.frame, ?_⟩
    show (B (true)) = B (decide (a = b))
    exact congrArg B (by simp; exact take_all hpre (by omega) (by omega))
  refine wpF_skip ?_
  refine wpF_seq ?_
  refine wpF_block ?_
  refine wpF_seq ?_
  obtain ⟨u9o3, huu9o3, hlu9o3⟩ := (Rd.list.1 (hS6.rdS 0 rfl)).elem k (by omega)
  have hS9o3 : St H0 NoB NoB [rdE u9o3 (nth a k), rdE va a, rdE vb b] H6 := hS6.rd huu9o3
  obtain ⟨u9o7, huu9o7, hlu9o7⟩ := (Rd.list.1 (hS9o3.rdS 2 rfl)).elem k (by omega)
  have hS9o7 : St H0 NoB NoB [rdE u9o7 (nth b k), rdE u9o3 (nth a k), rdE va a, rdE vb b] H6 := hS9o3.rd huu9o7
  refine wpF_cut (fun f H => f 0 = va ∧ f 1 = vb ∧ f 5 = I ((k : Int)) ∧ f 26 = B (decide (¬ ((nth a k) = (nth b k)))) ∧ St H0 NoB NoB [rdE va a, rdE vb b] H) ?_ ?_
  · refine wpF_drawn [] [] (fun _ _ => False) (by kernel_rfl) (by kernel_rfl) ?_
    refine wpR_q 0 (by kernel_rfl) rfl (quietAt rfl rfl (q_move (v := va) rfl a7_0)) ?_
    refine wpR_q 1 (by kernel_rfl) rfl (quietAt rfl rfl (q_move (v := I ((k : Int))) rfl a7_5)) ?_
    refine wpR_q 2 (by kernel_rfl) rfl (quietAt rfl rfl (q_indexRd (k := k) rfl Try.underlying23 el_LInt_32_LoopS1 rfl rfl (hS6.rdl 0 rfl) (by omega) (by omega))) ?_
    refine wpR_q 3 (by kernel_rfl) rfl (quietAt rfl rfl (q_loadE rfl rfl (hlu9o3 Try.prog 32 _ el_LInt_32_LoopS1 (labU_sub [] rfl (List.forall_mem_nil _))))) ?_
    refine wpR_q 4 (by kernel_rfl) rfl (quietAt rfl rfl (q_move (v := vb) rfl a7_1)) ?_
    refine wpR_q 5 (by kernel_rfl) rfl (quietAt rfl rfl (q_move (v := I ((k : Int))) rfl a7_5)) ?_
    refine wpR_q 6 (by kernel_rfl) rfl (quietAt rfl rfl (q_indexRd (k := k) rfl Try.underlying23 el_LInt_32_LoopS1 rfl rfl (hS9o3.rdl 2 rfl) (by omega) (by omega))) ?_
    refine wpR_q 7 (by kernel_rfl) rfl (quietAt rfl rfl (q_loadE rfl rfl (hlu9o7 Try.prog 32 _ el_LInt_32_LoopS1 (labU_sub [] rfl (List.forall_mem_nil _))))) ?_
    refine wpR_n [8] (by kernel_rfl) ?_
    refine List.forall_mem_cons.2 ⟨?_, List.forall_mem_nil _⟩
    refine exE rfl rfl ?_
    refine e_call rfl Try.call39 (arr2 (v0 := u9o3) (v1 := u9o7) rfl rfl) (Ints u9o3 u9o7 _ _ (hS9o7.rdN 1 rfl) (hS9o7.rdN 0 rfl)) ?_
    rintro _ H9o8 ⟨hxx, rfl⟩
    have hS9o8 : St H0 NoB NoB [rdE u9o7 (nth b k), rdE u9o3 (nth a k), rdE va a, rdE vb b] H9o8 := hS9o7.ext hxx
    refine ⟨Ext.mono hxx (fun _ h => h.elim), ?_⟩
    refine wpR_q 9 (by kernel_rfl) rfl (quietAt rfl rfl (q_notP rfl rfl)) ?_
    refine wpR_end (by kernel_rfl) ?_
    exact ⟨a7_0, a7_1, a7_5, rfl, (hS9o8.drop (sn (sn (sk (sk (List.Sublist.slnil))))))⟩
  rintro f10 H10 ⟨a10_0, a10_1, a10_5, a10_26, hS10⟩
  clear a7_0 a7_1 a7_14 a7_5
  refine wpF_condP a10_26 (fun hne => ?t14) (fun hne => ?e14)
  case t14 =>
    refine wpF_seq ?_
    refine wpF_cut (fun f H => f 4 = B (false) ∧ H10 = H) ?_ ?_
    · refine wpF_region ?_
      refine wpL_q (U := NoB) rfl (q_assign (v := B (false)) rfl rfl) ?_
      exact ⟨rfl, rfl⟩
    rintro f12 _ ⟨a12_4, rfl⟩
    clear a10_0 a10_1 a10_26 a10_5
    refine wpF_ret ?_
    refine ⟨_, resT a12_4 resN, hS10.frame, ?_⟩
    show (B (false)) = B (decide (a = b))
    exact congrArg B (by simp; intro h; subst h; simp at hne)
  refine wpF_skip ?_
  refine wpF_cut (fun f H => f 0 = va ∧ f 1 = vb ∧ f 5 = I ((k : Int) + 1) ∧ H10 = H) ?_ ?_
  · refine wpF_region ?_
    refine wpL_q (U := NoB) rfl (q_move (v := I ((k : Int))) rfl a10_5) ?_
    refine wpL_q (U := NoB) rfl (q_add rfl rfl rfl (by constructor <;> omega)) ?_
    refine wpL_q (U := NoB) rfl (q_assign (v := I ((k : Int) + 1)) rfl rfl) ?_
    exact ⟨a10_0, a10_1, rfl, rfl⟩
  rintro f13 _ ⟨a13_0, a13_1, a13_5, rfl⟩
  clear a10_0 a10_1 a10_26 a10_5
  refine ⟨_, ?_, k + 1, rfl, (by omega), (take_same hpre (by omega) (by omega) (by simpa using hne)), a13_0, a13_1, (Eq.trans a13_5 (congrArg I (by omega))), hS10⟩
  omega

set_option maxHeartbeats 1000000 in
set_option maxRecDepth 100000 in
theorem Check_L {H0 : Heap} (wa wb wc wd we : Value) (l : Loop) (rwa : Rd NoB H0 wa l.Low) (rwb : Rd NoB H0 wb l.High) (rwc : Rd NoB H0 wc l.Start) (rwd : Rd NoB H0 wd l.Jumps) (rwe : Rd NoB H0 we l.Bad) : CallsH Try.prog 27 #[Value.agg #[wa, wb, wc, wd, we]] H0 (fun rv_ H' => Ext NoB H0 H' ∧ rv_ = Value.agg #[I (loopFault l).1, I (loopFault l).2]) := by
  have hs1 := (Rd.list.1 rwa).small
  have hs2 := (Rd.list.1 rwb).small
  have hs4 := (Rd.list.1 rwd).small
  have hS0 : St H0 NoB NoB [rdE wa l.Low, rdE wb l.High, rdE wc l.Start, rdE wd l.Jumps, rdE we l.Bad] H0 := St.arg (St.arg (St.arg (St.arg (St.arg (St.start (fun _ h => h.elim)) (Bl0.nil) rwe (fun _ h => h)) (Bl0.cons (Bl0.nil)) rwd (fun _ h => h)) (Bl0.cons (Bl0.cons (Bl0.nil))) rwc (fun _ h => h)) (Bl0.cons (Bl0.cons (Bl0.cons (Bl0.nil)))) rwb (fun _ h => h)) (Bl0.cons (Bl0.cons (Bl0.cons (Bl0.cons (Bl0.nil))))) rwa (fun _ h => h)
  refine callsH_of_wpF (args := [Value.agg #[wa, wb, wc, wd, we]]) (rs := [.cell 2 27]) Try.func27 rfl Try.ntmps27 Try.results27 (by kernel_rfl) (Nat.le_of_ble_eq_true rfl) ?_
  have a0_0 : argF [Value.agg #[wa, wb, wc, wd, we]] 0 = Value.agg #[wa, wb, wc, wd, we] := rfl
  generalize argF [Value.agg #[wa, wb, wc, wd, we]] = f0 at *
  refine wpF_seq ?_
  refine wpF_cut (fun f H => ∃ (g1 : Nat), ∃ (g4 : Nat), f 1 = PT g1 0 ∧ f 2 = PT g4 0 ∧ St H0 NoB NoB [blkE g4 (.cells #[I (0), I (0)] 27), blkE g1 (.cells #[wa, wb, wc, wd, we] 42), rdE wa l.Low, rdE wb l.High, rdE wc l.Start, rdE wd l.Jumps, rdE we l.Bad] H) ?_ ?_
  · refine wpF_region ?_
    refine wpL_o rfl ?_
    refine e_box (v := Value.agg #[wa, wb, wc, wd, we]) rfl a0_0 hS0 (fun g1 H2 hS3 hxx => ?_)
    replace hS3 : St H0 NoB NoB [blkE g1 (.cells #[wa, wb, wc, wd, we] 42), rdE wa l.Low, rdE wb l.High, rdE wc l.Start, rdE wd l.Jumps, rdE we l.Bad] H2 := hS3
    refine wpL_o rfl ?_
    refine e_alloc rfl Try.zeroValue27 hS3 (fun g4 H5 hS6 hxx => ?_)
    replace hS6 : St H0 NoB NoB [blkE g4 (.cells #[I (0), I (0)] 27), blkE g1 (.cells #[wa, wb, wc, wd, we] 42), rdE wa l.Low, rdE wb l.High, rdE wc l.Start, rdE wd l.Jumps, rdE we l.Bad] H5 := hS6
    exact ⟨g1, g4, rfl, rfl, hS6⟩
  rintro f7 H7 ⟨g1, g4, a7_1, a7_2, hS7⟩
  clear a0_0
  refine wpF_seq ?_
  refine wpF_cut (fun f H => f 1 = PT g1 0 ∧ f 2 = PT g4 0 ∧ f 3 = I ((l.Low.length : Int)) ∧ H7 = H) ?_ ?_
  · refine wpF_region ?_
    refine wpL_q (U := NoB) rfl (q_fieldAddr rfl Try.underlying42 rfl Try.sizeOf32 a7_1) ?_
    refine wpL_q (U := NoB) rfl (q_loadBlk rfl rfl Try.isAgg32 (hS7.blk 1 rfl) rfl (fun h => h)) ?_
    refine wpL_q (U := NoB) rfl (q_lenRd rfl Try.underlying32 rfl (hS7.rdl 2 rfl)) ?_
    refine wpL_q (U := NoB) rfl (q_assign (v := I ((l.Low.length : Int))) rfl rfl) ?_
    exact ⟨a7_1, a7_2, rfl, rfl⟩
  rintro f8 _ ⟨a8_1, a8_2, a8_3, rfl⟩
  clear a7_1 a7_2
  refine wpF_seq ?_
  refine wpF_block ?_
  refine wpF_seq ?_
  refine wpF_cut (fun f H => f 1 = PT g1 0 ∧ f 2 = PT g4 0 ∧ f 3 = I ((l.Low.length : Int)) ∧ f 14 = B (decide (((l.Low.length : Int) < 1) ∨ (8 < (l.Low.length : Int)))) ∧ H7 = H) ?_ ?_
  · refine wpF_region ?_
    refine wpL_q (U := NoB) rfl (q_move (v := I ((l.Low.length : Int))) rfl a8_3) ?_
    refine wpL_q (U := NoB) rfl (q_lss rfl rfl rfl) ?_
    refine wpL_q (U := NoB) rfl (q_move (v := B (decide ((l.Low.length : Int) < 1))) rfl rfl) ?_
    by_cases hg9 : (l.Low.length : Int) < 1
    · have hb10 := Eq.trans rfl (congrArg B (decide_eq_true hg9))
      refine wpL_gs rfl rfl rfl hb10 rfl ?_
      refine wpL_gs rfl rfl rfl hb10 rfl ?_
      refine wpL_q (U := NoB) rfl (q_pickT (v := B (true)) rfl hb10 rfl) ?_
      refine wpL_q (U := NoB) rfl (q_assign (v := B (true)) rfl rfl) ?_
      exact ⟨a8_1, a8_2, a8_3, (Eq.trans rfl (congrArg B ((decide_eq_true (Or.inl hg9)).symm))), rfl⟩
    · have hb11 := Eq.trans rfl (congrArg B (decide_eq_false hg9))
      refine wpL_gq (U := NoB) rfl rfl rfl hb11 (q_move (v := I ((l.Low.length : Int))) rfl a8_3) ?_
      refine wpL_gq (U := NoB) rfl rfl rfl hb11 (q_gtr rfl rfl rfl) ?_
      refine wpL_q (U := NoB) rfl (q_pickF (v := B (decide (8 < (l.Low.length : Int)))) rfl hb11 rfl) ?_
      refine wpL_q (U := NoB) rfl (q_assign (v := B (decide (8 < (l.Low.length : Int)))) rfl rfl) ?_
      exact ⟨a8_1, a8_2, a8_3, (Eq.trans rfl (congrArg B (decide_congr_of ((Iff.rfl).trans (((or_iff_right hg9).trans Iff.rfl)).symm)))), rfl⟩
  rintro f12 _ ⟨a12_1, a12_2, a12_3, a12_14, rfl⟩
  clear a8_1 a8_2 a8_3
  refine wpF_condP a12_14 (fun h1 => ?t106) (fun h1 => ?e106)
  case t106 =>
    refine wpF_seq ?_
    refine wpF_cut (fun f H => f 2 = PT g4 0 ∧ St H0 NoB NoB [blkE g4 (.cells #[I (2), I (-1)] 27), blkE g1 (.cells #[wa, wb, wc, wd, we] 42), rdE wa l.Low, rdE wb l.High, rdE wc l.Start, rdE wd l.Jumps, rdE we l.Bad] H) ?_ ?_
    · refine wpF_region ?_
      refine wpL_q (U := NoB) rfl (q_build (v := Value.agg #[I (2), I (-1)]) rfl (par2 (v0 := I (2)) (v1 := I (-1)) rfl rfl) (fun w => by kernel_rfl)) ?_
      refine wpL_o rfl ?_
      refine e_storeBlkA (cs' := #[I (2), I (-1)]) rfl a12_2 rfl Try.sizeOf27 rfl rfl (List.forall_mem_cons.2 ⟨rfl, List.forall_mem_cons.2 ⟨rfl, List.forall_mem_nil _⟩⟩) hS7 (fun H14 hS15 hxx => ?_)
      replace hS15 : St H0 NoB NoB [blkE g4 (.cells #[I (2), I (-1)] 27), blkE g1 (.cells #[wa, wb, wc, wd, we] 42), rdE wa l.Low, rdE wb l.High, rdE wc l.Start, rdE wd l.Jumps, rdE we l.Bad] H14 := hS15
      exact ⟨a12_2, hS15⟩
    rintro f16 H16 ⟨a16_2, hS16⟩
    clear a12_1 a12_14 a12_2 a12_3
    refine wpF_ret ?_
    refine ⟨_, resC a16_2 (loadV_blkA Try.isAgg27 Try.sizeOf27 rfl (hS16.blk 0 rfl)) (resN), hS16.frame, ?_⟩
    show (Value.agg #[I (2), I (-1)]) = Value.agg #[I (loopFault l).1, I (loopFault l).2]
    have hq := loopFault_1 (l := l) (by omega)
    rw [hq]
  refine wpF_seq ?_
  refine wpF_cut (fun f H => f 1 = PT g1 0 ∧ f 2 = PT g4 0 ∧ f 3 = I ((l.Low.length : Int)) ∧ f 22 = B (decide ((l.High.length : Int) ≠ (l.Low.length : Int))) ∧ H7 = H) ?_ ?_
  · refine wpF_region ?_
    refine wpL_q (U := NoB) rfl (q_fieldAddr rfl Try.underlying42 rfl Try.sizeOf32 a12_1) ?_
    refine wpL_q (U := NoB) rfl (q_loadBlk rfl rfl Try.isAgg32 (hS7.blk 1 rfl) rfl (fun h => h)) ?_
    refine wpL_q (U := NoB) rfl (q_lenRd rfl Try.underlying32 rfl (hS7.rdl 3 rfl)) ?_
    refine wpL_q (U := NoB) rfl (q_move (v := I ((l.Low.length : Int))) rfl a12_3) ?_
    refine wpL_q (U := NoB) rfl (q_neq rfl rfl rfl) ?_
    refine wpL_q (U := NoB) rfl (q_assign (v := B (decide ((l.High.length : Int) ≠ (l.Low.length : Int)))) rfl rfl) ?_
    exact ⟨a12_1, a12_2, a12_3, rfl, rfl⟩
  rintro f17 _ ⟨a17_1, a17_2, a17_3, a17_22, rfl⟩
  clear a12_1 a12_14 a12_2 a12_3
  refine wpF_condP a17_22 (fun h2 => ?t105) (fun h2 => ?e105)
  case t105 =>
    refine wpF_seq ?_
    refine wpF_cut (fun f H => f 2 = PT g4 0 ∧ St H0 NoB NoB [blkE g4 (.cells #[I (9), I (-1)] 27), blkE g1 (.cells #[wa, wb, wc, wd, we] 42), rdE wa l.Low, rdE wb l.High, rdE wc l.Start, rdE wd l.Jumps, rdE we l.Bad] H) ?_ ?_
    · refine wpF_region ?_
      refine wpL_q (U := NoB) rfl (q_build (v := Value.agg #[I (9), I (-1)]) rfl (par2 (v0 := I (9)) (v1 := I (-1)) rfl rfl) (fun w => by kernel_rfl)) ?_
      refine wpL_o rfl ?_
      refine e_storeBlkA (cs' := #[I (9), I (-1)]) rfl a17_2 rfl Try.sizeOf27 rfl rfl (List.forall_mem_cons.2 ⟨rfl, List.forall_mem_cons.2 ⟨rfl, List.forall_mem_nil _⟩⟩) hS7 (fun H19 hS20 hxx => ?_)
      replace hS20 : St H0 NoB NoB [blkE g4 (.cells #[I (9), I (-1)] 27), blkE g1 (.cells #[wa, wb, wc, wd, we] 42), rdE wa l.Low, rdE wb l.High, rdE wc l.Start, rdE wd l.Jumps, rdE we l.Bad] H19 := hS20
      exact ⟨a17_2, hS20⟩
    rintro f21 H21 ⟨a21_2, hS21⟩
    clear a17_1 a17_2 a17_22 a17_3
    refine wpF_ret ?_
    refine ⟨_, resC a21_2 (loadV_blkA Try.isAgg27 Try.sizeOf27 rfl (hS21.blk 0 rfl)) (resN), hS21.frame, ?_⟩
    show (Value.agg #[I (9), I (-1)]) = Value.agg #[I (loopFault l).1, I (loopFault l).2]
    have hq := loopFault_2 (l := l) (by unfold LH1; omega) h2
    rw [hq]
  refine wpF_skip ?_
  refine wpF_seq ?_
  refine wpF_cut (fun f H => f 1 = PT g1 0 ∧ f 2 = PT g4 0 ∧ f 3 = I ((l.Low.length : Int)) ∧ f 4 = I (1) ∧ H7 = H) ?_ ?_
  · refine wpF_region ?_
    refine wpL_q (U := NoB) rfl (q_assign (v := I (1)) rfl rfl) ?_
    exact ⟨a17_1, a17_2, a17_3, rfl, rfl⟩
  rintro f22 _ ⟨a22_1, a22_2, a22_3, a22_4, rfl⟩
  clear a17_1 a17_2 a17_22 a17_3
  refine wpF_seq ?_
  refine wpF_seq ?_
  refine wpF_cut (fun f H => f 1 = PT g1 0 ∧ f 2 = PT g4 0 ∧ f 3 = I ((l.Low.length : Int)) ∧ f 4 = I (1) ∧ f 29 = I ((l.Low.length : Int)) ∧ f 30 = I (0) ∧ H7 = H) ?_ ?_
  · refine wpF_region ?_
    refine wpL_q (U := NoB) rfl (q_move (v := I ((l.Low.length : Int))) rfl a22_3) ?_
    refine wpL_q (U := NoB) rfl (q_move (v := I (0)) rfl rfl) ?_
    exact ⟨a22_1, a22_2, a22_3, a22_4, rfl, rfl, rfl⟩
  rintro f23 _ ⟨a23_1, a23_2, a23_3, a23_4, a23_29, a23_30, rfl⟩
  clear a22_1 a22_2 a22_3 a22_4
  refine wpF_block ?_
  refine wpF_loop (fun mz f H => ∃ (k : Nat), mz = l.Low.length - k ∧ (k ≤ l.Low.length) ∧ (∀ j, j < k → boxBad l j = 0) ∧ (∀ j, j ≤ k → 1 ≤ boxTo l j ∧ boxTo l j ≤ 1200) ∧ f 1 = PT g1 0 ∧ f 2 = PT g4 0 ∧ f 3 = I ((l.Low.length : Int)) ∧ f 4 = I (boxTo l k) ∧ f 29 = I ((l.Low.length : Int)) ∧ f 30 = I ((k : Int)) ∧ St H0 NoB NoB [blkE g4 (.cells #[I (0), I (0)] 27), blkE g1 (.cells #[wa, wb, wc, wd, we] 42), rdE wa l.Low, rdE wb l.High, rdE wc l.Start, rdE wd l.Jumps, rdE we l.Bad] H) (l.Low.length - 0) ?_ ?_
  · exact ⟨0, rfl, Nat.zero_le _, (fun j hj => absurd hj (Nat.not_lt_zero j)), box_start, a23_1, a23_2, a23_3, a23_4, a23_29, (Eq.trans a23_30 (congrArg I (by omega))), hS7⟩
  intro m24 f24 H24 hI24
  obtain ⟨k, hm24, hk, hp, hbx, a24_1, a24_2, a24_3, a24_4, a24_29, a24_30, hS24⟩ := hI24
  clear a23_1 a23_2 a23_29 a23_3 a23_30 a23_4
  refine wpF_seq ?_
  refine wpF_cut (fun f H => f 1 = PT g1 0 ∧ f 2 = PT g4 0 ∧ f 3 = I ((l.Low.length : Int)) ∧ f 4 = I (boxTo l k) ∧ f 29 = I ((l.Low.length : Int)) ∧ f 30 = I ((k : Int)) ∧ f 31 = B (decide ((k : Int) < (l.Low.length : Int))) ∧ H24 = H) ?_ ?_
  · refine wpF_region ?_
    refine wpL_q (U := NoB) rfl (q_lss rfl a24_30 a24_29) ?_
    exact ⟨a24_1, a24_2, a24_3, a24_4, a24_29, a24_30, rfl, rfl⟩
  rintro f25 _ ⟨a25_1, a25_2, a25_3, a25_4, a25_29, a25_30, a25_31, rfl⟩
  clear a24_1 a24_2 a24_29 a24_3 a24_30 a24_4
  refine wpF_seq ?_
  refine wpF_condP a25_31 (fun hlt => ?t104) (fun hlt => ?e104)
  case t104 =>
    refine wpF_skip ?_
    refine wpF_seq ?_
    refine wpF_block ?_
    refine wpF_seq ?_
    refine wpF_cut (fun f H => f 1 = PT g1 0 ∧ f 2 = PT g4 0 ∧ f 3 = I ((l.Low.length : Int)) ∧ f 4 = I (boxTo l k) ∧ f 5 = I ((k : Int)) ∧ f 29 = I ((l.Low.length : Int)) ∧ f 30 = I ((k : Int)) ∧ H24 = H) ?_ ?_
    · refine wpF_region ?_
      refine wpL_q (U := NoB) rfl (q_move (v := I ((k : Int))) rfl a25_30) ?_
      refine wpL_q (U := NoB) rfl (q_assign (v := I ((k : Int))) rfl rfl) ?_
      exact ⟨a25_1, a25_2, a25_3, a25_4, rfl, a25_29, a25_30, rfl⟩
    rintro f27 _ ⟨a27_1, a27_2, a27_3, a27_4, a27_5, a27_29, a27_30, rfl⟩
    clear a25_1 a25_2 a25_29 a25_3 a25_30 a25_31 a25_4
    refine wpF_seq ?_
    refine wpF_seq ?_
    refine wpF_cut (fun f H => f 1 = PT g1 0 ∧ f 2 = PT g4 0 ∧ f 3 = I ((l.Low.length : Int)) ∧ f 4 = I (boxTo l k) ∧ f 5 = I ((k : Int)) ∧ f 29 = I ((l.Low.length : Int)) ∧ f 30 = I ((k : Int)) ∧ f 59 = B (decide ((((nth l.Low k) < (-1000000)) ∨ (1000000 < (nth l.High k))) ∨ ((nth l.High k) < (nth l.Low k)))) ∧ H24 = H) ?_ ?_
    · refine wpF_drawn [] [] (fun _ _ => False) (by kernel_rfl) (by kernel_rfl) ?_
      refine wpR_q 0 (by kernel_rfl) rfl (quietAt rfl rfl (q_fieldAddr rfl Try.underlying42 rfl Try.sizeOf32 a27_1)) ?_
      refine wpR_q 1 (by kernel_rfl) rfl (quietAt rfl rfl (q_loadBlk rfl rfl Try.isAgg32 (hS24.blk 1 rfl) rfl (labU_not [] rfl (List.forall_mem_nil _)))) ?_
      refine wpR_q 2 (by kernel_rfl) rfl (quietAt rfl rfl (q_move (v := I ((k : Int))) rfl a27_5)) ?_
      refine wpR_q 3 (by kernel_rfl) rfl (quietAt rfl rfl (q_indexRd (k := k) rfl Try.underlying32 el_Int_3_LoopS1 rfl rfl (hS24.rdl 2 rfl) (by omega) (by omega))) ?_
      refine wpR_q 4 (by kernel_rfl) rfl (quietAt rfl rfl (q_loadInt (k := k) rfl rfl el_Int_3_LoopS1 (hS24.rdl 2 rfl) (by omega) (labU_sub [] rfl (List.forall_mem_nil _)))) ?_
      refine wpR_q 5 (by kernel_rfl) rfl (quietAt rfl rfl (q_lss rfl rfl rfl)) ?_
      refine wpR_q 6 (by kernel_rfl) rfl (quietAt rfl rfl (q_move (v := B (decide ((nth l.Low k) < (-1000000)))) rfl rfl)) ?_
      by_cases hg29 : (nth l.Low k) < (-1000000)
      · have hb30 := Eq.trans rfl (congrArg B (decide_eq_true hg29))
        refine wpR_q 7 (by kernel_rfl) rfl (quietAt_s rfl rfl rfl rfl hb30 rfl) ?_
        refine wpR_q 8 (by kernel_rfl) rfl (quietAt_s rfl rfl rfl rfl hb30 rfl) ?_
        refine wpR_q 9 (by kernel_rfl) rfl (quietAt_s rfl rfl rfl rfl hb30 rfl) ?_
        refine wpR_q 10 (by kernel_rfl) rfl (quietAt_s rfl rfl rfl rfl hb30 rfl) ?_
        refine wpR_q 11 (by kernel_rfl) rfl (quietAt_s rfl rfl rfl rfl hb30 rfl) ?_
        refine wpR_q 12 (by kernel_rfl) rfl (quietAt_s rfl rfl rfl rfl hb30 rfl) ?_
        refine wpR_q 13 (by kernel_rfl) rfl (quietAt rfl rfl (q_pickT (v := B (true)) rfl hb30 rfl)) ?_
        refine wpR_q 14 (by kernel_rfl) rfl (quietAt rfl rfl (q_move (v := B (true)) rfl rfl)) ?_
        refine wpR_q 15 (by kernel_rfl) rfl (quietAt_s rfl rfl rfl rfl rfl rfl) ?_
        refine wpR_q 16 (by kernel_rfl) rfl (quietAt_s rfl rfl rfl rfl rfl rfl) ?_
        refine wpR_q 17 (by kernel_rfl) rfl (quietAt_s rfl rfl rfl rfl rfl rfl) ?_
        refine wpR_q 18 (by kernel_rfl) rfl (quietAt_s rfl rfl rfl rfl rfl rfl) ?_
        refine wpR_q 19 (by kernel_rfl) rfl (quietAt_s rfl rfl rfl rfl rfl rfl) ?_
        refine wpR_q 20 (by kernel_rfl) rfl (quietAt_s rfl rfl rfl rfl rfl rfl) ?_
        refine wpR_q 21 (by kernel_rfl) rfl (quietAt_s rfl rfl rfl rfl rfl rfl) ?_
        refine wpR_q 22 (by kernel_rfl) rfl (quietAt_s rfl rfl rfl rfl rfl rfl) ?_
        refine wpR_q 23 (by kernel_rfl) rfl (quietAt_s rfl rfl rfl rfl rfl rfl) ?_
        refine wpR_q 24 (by kernel_rfl) rfl (quietAt_s rfl rfl rfl rfl rfl rfl) ?_
        refine wpR_q 25 (by kernel_rfl) rfl (quietAt_s rfl rfl rfl rfl rfl rfl) ?_
        refine wpR_q 26 (by kernel_rfl) rfl (quietAt rfl rfl (q_pickT (v := B (true)) rfl rfl rfl)) ?_
        refine wpR_end (by kernel_rfl) ?_
        exact ⟨a27_1, a27_2, a27_3, a27_4, a27_5, a27_29, a27_30, (Eq.trans rfl (congrArg B ((decide_eq_true (Or.inl (Or.inl hg29))).symm))), rfl⟩
      · have hb31 := Eq.trans rfl (congrArg B (decide_eq_false hg29))
        refine wpR_q 7 (by kernel_rfl) rfl (quietAt_g rfl rfl rfl rfl hb31 (q_fieldAddr rfl Try.underlying42 rfl Try.sizeOf32 a27_1)) ?_
        refine wpR_q 8 (by kernel_rfl) rfl (quietAt_g rfl rfl rfl rfl hb31 (q_loadBlk rfl rfl Try.isAgg32 (hS24.blk 1 rfl) rfl (labU_not [] rfl (List.forall_mem_nil _)))) ?_
        refine wpR_q 9 (by kernel_rfl) rfl (quietAt_g rfl rfl rfl rfl hb31 (q_move (v := I ((k : Int))) rfl a27_5)) ?_
        refine wpR_q 10 (by kernel_rfl) rfl (quietAt_g rfl rfl rfl rfl hb31 (q_indexRd (k := k) rfl Try.underlying32 el_Int_3_LoopS1 rfl rfl (hS24.rdl 3 rfl) (by omega) (by omega))) ?_
        refine wpR_q 11 (by kernel_rfl) rfl (quietAt_g rfl rfl rfl rfl hb31 (q_loadInt (k := k) rfl rfl el_Int_3_LoopS1 (hS24.rdl 3 rfl) (by omega) (labU_sub [] rfl (List.forall_mem_nil _)))) ?_
        refine wpR_q 12 (by kernel_rfl) rfl (quietAt_g rfl rfl rfl rfl hb31 (q_gtr rfl rfl rfl)) ?_
        refine wpR_q 13 (by kernel_rfl) rfl (quietAt rfl rfl (q_pickF (v := B (decide (1000000 < (nth l.High k)))) rfl hb31 rfl)) ?_
        refine wpR_q 14 (by kernel_rfl) rfl (quietAt rfl rfl (q_move (v := B (decide (1000000 < (nth l.High k)))) rfl rfl)) ?_
        by_cases hg32 : 1000000 < (nth l.High k)
        · have hb33 := Eq.trans rfl (congrArg B (decide_eq_true hg32))
          refine wpR_q 15 (by kernel_rfl) rfl (quietAt_s rfl rfl rfl rfl hb33 rfl) ?_
          refine wpR_q 16 (by kernel_rfl) rfl (quietAt_s rfl rfl rfl rfl hb33 rfl) ?_
          refine wpR_q 17 (by kernel_rfl) rfl (quietAt_s rfl rfl rfl rfl hb33 rfl) ?_
          refine wpR_q 18 (by kernel_rfl) rfl (quietAt_s rfl rfl rfl rfl hb33 rfl) ?_
          refine wpR_q 19 (by kernel_rfl) rfl (quietAt_s rfl rfl rfl rfl hb33 rfl) ?_
          refine wpR_q 20 (by kernel_rfl) rfl (quietAt_s rfl rfl rfl rfl hb33 rfl) ?_
          refine wpR_q 21 (by kernel_rfl) rfl (quietAt_s rfl rfl rfl rfl hb33 rfl) ?_
          refine wpR_q 22 (by kernel_rfl) rfl (quietAt_s rfl rfl rfl rfl hb33 rfl) ?_
          refine wpR_q 23 (by kernel_rfl) rfl (quietAt_s rfl rfl rfl rfl hb33 rfl) ?_
          refine wpR_q 24 (by kernel_rfl) rfl (quietAt_s rfl rfl rfl rfl hb33 rfl) ?_
          refine wpR_q 25 (by kernel_rfl) rfl (quietAt_s rfl rfl rfl rfl hb33 rfl) ?_
          refine wpR_q 26 (by kernel_rfl) rfl (quietAt rfl rfl (q_pickT (v := B (true)) rfl hb33 rfl)) ?_
          refine wpR_end (by kernel_rfl) ?_
          exact ⟨a27_1, a27_2, a27_3, a27_4, a27_5, a27_29, a27_30, (Eq.trans rfl (congrArg B ((decide_eq_true (Or.inl (Or.inr hg32))).symm))), rfl⟩
        · have hb34 := Eq.trans rfl (congrArg B (decide_eq_false hg32))
          refine wpR_q 15 (by kernel_rfl) rfl (quietAt_g rfl rfl rfl rfl hb34 (q_fieldAddr rfl Try.underlying42 rfl Try.sizeOf32 a27_1)) ?_
          refine wpR_q 16 (by kernel_rfl) rfl (quietAt_g rfl rfl rfl rfl hb34 (q_loadBlk rfl rfl Try.isAgg32 (hS24.blk 1 rfl) rfl (labU_not [] rfl (List.forall_mem_nil _)))) ?_
          refine wpR_q 17 (by kernel_rfl) rfl (quietAt_g rfl rfl rfl rfl hb34 (q_move (v := I ((k : Int))) rfl a27_5)) ?_
          refine wpR_q 18 (by kernel_rfl) rfl (quietAt_g rfl rfl rfl rfl hb34 (q_indexRd (k := k) rfl Try.underlying32 el_Int_3_LoopS1 rfl rfl (hS24.rdl 2 rfl) (by omega) (by omega))) ?_
          refine wpR_q 19 (by kernel_rfl) rfl (quietAt_g rfl rfl rfl rfl hb34 (q_loadInt (k := k) rfl rfl el_Int_3_LoopS1 (hS24.rdl 2 rfl) (by omega) (labU_sub [] rfl (List.forall_mem_nil _)))) ?_
          refine wpR_q 20 (by kernel_rfl) rfl (quietAt_g rfl rfl rfl rfl hb34 (q_fieldAddr rfl Try.underlying42 rfl Try.sizeOf32 a27_1)) ?_
          refine wpR_q 21 (by kernel_rfl) rfl (quietAt_g rfl rfl rfl rfl hb34 (q_loadBlk rfl rfl Try.isAgg32 (hS24.blk 1 rfl) rfl (labU_not [] rfl (List.forall_mem_nil _)))) ?_
          refine wpR_q 22 (by kernel_rfl) rfl (quietAt_g rfl rfl rfl rfl hb34 (q_move (v := I ((k : Int))) rfl a27_5)) ?_
          refine wpR_q 23 (by kernel_rfl) rfl (quietAt_g rfl rfl rfl rfl hb34 (q_indexRd (k := k) rfl Try.underlying32 el_Int_3_LoopS1 rfl rfl (hS24.rdl 3 rfl) (by omega) (by omega))) ?_
          refine wpR_q 24 (by kernel_rfl) rfl (quietAt_g rfl rfl rfl rfl hb34 (q_loadInt (k := k) rfl rfl el_Int_3_LoopS1 (hS24.rdl 3 rfl) (by omega) (labU_sub [] rfl (List.forall_mem_nil _)))) ?_
          refine wpR_q 25 (by kernel_rfl) rfl (quietAt_g rfl rfl rfl rfl hb34 (q_gtr rfl rfl rfl)) ?_
          refine wpR_q 26 (by kernel_rfl) rfl (quietAt rfl rfl (q_pickF (v := B (decide ((nth l.High k) < (nth l.Low k)))) rfl hb34 rfl)) ?_
          refine wpR_end (by kernel_rfl) ?_
          exact ⟨a27_1, a27_2, a27_3, a27_4, a27_5, a27_29, a27_30, (Eq.trans rfl (congrArg B (decide_congr_of ((Iff.rfl).trans (((or_iff_right (not_or.2 ⟨hg29, hg32⟩)).trans Iff.rfl)).symm)))), rfl⟩
    rintro f35 _ ⟨a35_1, a35_2, a35_3, a35_4, a35_5, a35_29, a35_30, a35_59, rfl⟩
    clear a27_1 a27_2 a27_29 a27_3 a27_30 a27_4 a27_5
    refine wpF_condP a35_59 (fun h3 => ?t49) (fun h3 => ?e49)
    case t49 =>
      refine wpF_seq ?_
      refine wpF_cut (fun f H => f 2 = PT g4 0 ∧ St H0 NoB NoB [blkE g4 (.cells #[I (3), I (-1)] 27), blkE g1 (.cells #[wa, wb, wc, wd, we] 42), rdE wa l.Low, rdE wb l.High, rdE wc l.Start, rdE wd l.Jumps, rdE we l.Bad] H) ?_ ?_
      · refine wpF_region ?_
        refine wpL_q (U := NoB) rfl (q_build (v := Value.agg #[I (3), I (-1)]) rfl (par2 (v0 := I (3)) (v1 := I (-1)) rfl rfl) (fun w => by kernel_rfl)) ?_
        refine wpL_o rfl ?_
        refine e_storeBlkA (cs' := #[I (3), I (-1)]) rfl a35_2 rfl Try.sizeOf27 rfl rfl (List.forall_mem_cons.2 ⟨rfl, List.forall_mem_cons.2 ⟨rfl, List.forall_mem_nil _⟩⟩) hS24 (fun H37 hS38 hxx => ?_)
        replace hS38 : St H0 NoB NoB [blkE g4 (.cells #[I (3), I (-1)] 27), blkE g1 (.cells #[wa, wb, wc, wd, we] 42), rdE wa l.Low, rdE wb l.High, rdE wc l.Start, rdE wd l.Jumps, rdE we l.Bad] H37 := hS38
        exact ⟨a35_2, hS38⟩
      rintro f39 H39 ⟨a39_2, hS39⟩
      clear a35_1 a35_2 a35_29 a35_3 a35_30 a35_4 a35_5 a35_59
      refine wpF_ret ?_
      refine ⟨_, resC a39_2 (loadV_blkA Try.isAgg27 Try.sizeOf27 rfl (hS39.blk 0 rfl)) (resN), hS39.frame, ?_⟩
      show (Value.agg #[I (3), I (-1)]) = Value.agg #[I (loopFault l).1, I (loopFault l).2]
      have hq := loopFault_3 (k := k) (by unfold LH1; omega) h2 (by omega) hp (boxBad_rng (h3)) (by decide)
      rw [hq]
    have hnr : ¬ rngBad l k := h3
    have hb1 := hbx k (Nat.le_refl _)
    have hnb := hnr
    unfold rngBad at hnb
    have hmb := mul_box (a := boxTo l k) (b := nth l.High k - nth l.Low k + 1) hb1 (by omega)
    refine wpF_skip ?_
    refine wpF_seq ?_
    refine wpF_cut (fun f H => f 1 = PT g1 0 ∧ f 2 = PT g4 0 ∧ f 3 = I ((l.Low.length : Int)) ∧ f 4 = I ((boxTo l k) * (((nth l.High k) - (nth l.Low k)) + 1)) ∧ f 29 = I ((l.Low.length : Int)) ∧ f 30 = I ((k : Int)) ∧ H24 = H) ?_ ?_
    · refine wpF_drawn [] [] (fun _ _ => False) (by kernel_rfl) (by kernel_rfl) ?_
      refine wpR_q 0 (by kernel_rfl) rfl (quietAt rfl rfl (q_move (v := I (boxTo l k)) rfl a35_4)) ?_
      refine wpR_q 1 (by kernel_rfl) rfl (quietAt rfl rfl (q_fieldAddr rfl Try.underlying42 rfl Try.sizeOf32 a35_1)) ?_
      refine wpR_q 2 (by kernel_rfl) rfl (quietAt rfl rfl (q_loadBlk rfl rfl Try.isAgg32 (hS24.blk 1 rfl) rfl (labU_not [] rfl (List.forall_mem_nil _)))) ?_
      refine wpR_q 3 (by kernel_rfl) rfl (quietAt rfl rfl (q_move (v := I ((k : Int))) rfl a35_5)) ?_
      refine wpR_q 4 (by kernel_rfl) rfl (quietAt rfl rfl (q_indexRd (k := k) rfl Try.underlying32 el_Int_3_LoopS1 rfl rfl (hS24.rdl 3 rfl) (by omega) (by omega))) ?_
      refine wpR_q 5 (by kernel_rfl) rfl (quietAt rfl rfl (q_loadInt (k := k) rfl rfl el_Int_3_LoopS1 (hS24.rdl 3 rfl) (by omega) (labU_sub [] rfl (List.forall_mem_nil _)))) ?_
      refine wpR_q 6 (by kernel_rfl) rfl (quietAt rfl rfl (q_fieldAddr rfl Try.underlying42 rfl Try.sizeOf32 a35_1)) ?_
      refine wpR_q 7 (by kernel_rfl) rfl (quietAt rfl rfl (q_loadBlk rfl rfl Try.isAgg32 (hS24.blk 1 rfl) rfl (labU_not [] rfl (List.forall_mem_nil _)))) ?_
      refine wpR_q 8 (by kernel_rfl) rfl (quietAt rfl rfl (q_move (v := I ((k : Int))) rfl a35_5)) ?_
      refine wpR_q 9 (by kernel_rfl) rfl (quietAt rfl rfl (q_indexRd (k := k) rfl Try.underlying32 el_Int_3_LoopS1 rfl rfl (hS24.rdl 2 rfl) (by omega) (by omega))) ?_
      refine wpR_q 10 (by kernel_rfl) rfl (quietAt rfl rfl (q_loadInt (k := k) rfl rfl el_Int_3_LoopS1 (hS24.rdl 2 rfl) (by omega) (labU_sub [] rfl (List.forall_mem_nil _)))) ?_
      refine wpR_q 11 (by kernel_rfl) rfl (quietAt rfl rfl (q_sub rfl rfl rfl (by constructor <;> omega))) ?_
      refine wpR_q 12 (by kernel_rfl) rfl (quietAt rfl rfl (q_add rfl rfl rfl (by constructor <;> omega))) ?_
      refine wpR_q 13 (by kernel_rfl) rfl (quietAt rfl rfl (q_mul rfl rfl rfl (by constructor <;> omega))) ?_
      refine wpR_q 14 (by kernel_rfl) rfl (quietAt rfl rfl (q_assign (v := I ((boxTo l k) * (((nth l.High k) - (nth l.Low k)) + 1))) rfl rfl)) ?_
      refine wpR_end (by kernel_rfl) ?_
      exact ⟨a35_1, a35_2, a35_3, rfl, a35_29, a35_30, rfl⟩
    rintro f41 _ ⟨a41_1, a41_2, a41_3, a41_4, a41_29, a41_30, rfl⟩
    clear a35_1 a35_2 a35_29 a35_3 a35_30 a35_4 a35_5 a35_59
    refine wpF_seq ?_
    refine wpF_cut (fun f H => f 1 = PT g1 0 ∧ f 2 = PT g4 0 ∧ f 3 = I ((l.Low.length : Int)) ∧ f 4 = I ((boxTo l k) * (((nth l.High k) - (nth l.Low k)) + 1)) ∧ f 29 = I ((l.Low.length : Int)) ∧ f 30 = I ((k : Int)) ∧ f 76 = B (decide (1200 < ((boxTo l k) * (((nth l.High k) - (nth l.Low k)) + 1)))) ∧ H24 = H) ?_ ?_
    · refine wpF_region ?_
      refine wpL_q (U := NoB) rfl (q_move (v := I ((boxTo l k) * (((nth l.High k) - (nth l.Low k)) + 1))) rfl a41_4) ?_
      refine wpL_q (U := NoB) rfl (q_gtr rfl rfl rfl) ?_
      exact ⟨a41_1, a41_2, a41_3, a41_4, a41_29, a41_30, rfl, rfl⟩
    rintro f42 _ ⟨a42_1, a42_2, a42_3, a42_4, a42_29, a42_30, a42_76, rfl⟩
    clear a41_1 a41_2 a41_29 a41_3 a41_30 a41_4
    refine wpF_condP a42_76 (fun h4 => ?t48) (fun h4 => ?e48)
    case e48 =>
      refine wpF_skip ?_
      refine wpF_cut (fun f H => f 1 = PT g1 0 ∧ f 2 = PT g4 0 ∧ f 3 = I ((l.Low.length : Int)) ∧ f 4 = I ((boxTo l k) * (((nth l.High k) - (nth l.Low k)) + 1)) ∧ f 29 = I ((l.Low.length : Int)) ∧ f 30 = I ((k : Int) + 1) ∧ H24 = H) ?_ ?_
      · refine wpF_region ?_
        refine wpL_q (U := NoB) rfl (q_add rfl a42_30 rfl (by constructor <;> omega)) ?_
        refine wpL_q (U := NoB) rfl (q_move (v := I ((k : Int) + 1)) rfl rfl) ?_
        exact ⟨a42_1, a42_2, a42_3, a42_4, a42_29, rfl, rfl⟩
      rintro f47 _ ⟨a47_1, a47_2, a47_3, a47_4, a47_29, a47_30, rfl⟩
      clear a42_1 a42_2 a42_29 a42_3 a42_30 a42_4 a42_76
      refine ⟨_, ?_, k + 1, rfl, (by omega), (all_succ hp (boxBad_no hnr h4)), (box_next hbx hmb.1 h4), a47_1, a47_2, a47_3, a47_4, a47_29, (Eq.trans a47_30 (congrArg I (by omega))), hS24⟩
      omega
    refine wpF_seq ?_
    refine wpF_cut (fun f H => f 2 = PT g4 0 ∧ St H0 NoB NoB [blkE g4 (.cells #[I (10), I (-1)] 27), blkE g1 (.cells #[wa, wb, wc, wd, we] 42), rdE wa l.Low, rdE wb l.High, rdE wc l.Start, rdE wd l.Jumps, rdE we l.Bad] H) ?_ ?_
    · refine wpF_region ?_
      refine wpL_q (U := NoB) rfl (q_build (v := Value.agg #[I (10), I (-1)]) rfl (par2 (v0 := I (10)) (v1 := I (-1)) rfl rfl) (fun w => by kernel_rfl)) ?_
      refine wpL_o rfl ?_
      refine e_storeBlkA (cs' := #[I (10), I (-1)]) rfl a42_2 rfl Try.sizeOf27 rfl rfl (List.forall_mem_cons.2 ⟨rfl, List.forall_mem_cons.2 ⟨rfl, List.forall_mem_nil _⟩⟩) hS24 (fun H44 hS45 hxx => ?_)
      replace hS45 : St H0 NoB NoB [blkE g4 (.cells #[I (10), I (-1)] 27), blkE g1 (.cells #[wa, wb, wc, wd, we] 42), rdE wa l.Low, rdE wb l.High, rdE wc l.Start, rdE wd l.Jumps, rdE we l.Bad] H44 := hS45
      exact ⟨a42_2, hS45⟩
    rintro f46 H46 ⟨a46_2, hS46⟩
    clear a42_1 a42_2 a42_29 a42_3 a42_30 a42_4 a42_76
    refine wpF_ret ?_
    refine ⟨_, resC a46_2 (loadV_blkA Try.isAgg27 Try.sizeOf27 rfl (hS46.blk 0 rfl)) (resN), hS46.frame, ?_⟩
    show (Value.agg #[I (10), I (-1)]) = Value.agg #[I (loopFault l).1, I (loopFault l).2]
    have hq := loopFault_3 (k := k) (by unfold LH1; omega) h2 (by omega) hp (boxBad_much hnr h4) (by decide)
    rw [hq]
  refine wpF_exit ?_
  refine atX_here ?_
  refine wpF_seq ?_
  refine wpF_seq ?_
  refine wpF_cut (fun f H => f 1 = PT g1 0 ∧ f 2 = PT g4 0 ∧ f 3 = I ((l.Low.length : Int)) ∧ f 82 = B (decide (6 < (l.Jumps.length : Int))) ∧ H24 = H) ?_ ?_
  · refine wpF_region ?_
    refine wpL_q (U := NoB) rfl (q_fieldAddr rfl Try.underlying42 rfl Try.sizeOf40 a25_1) ?_
    refine wpL_q (U := NoB) rfl (q_loadBlk rfl rfl Try.isAgg40 (hS24.blk 1 rfl) rfl (fun h => h)) ?_
    refine wpL_q (U := NoB) rfl (q_lenRd rfl Try.underlying40 rfl (hS24.rdl 5 rfl)) ?_
    refine wpL_q (U := NoB) rfl (q_gtr rfl rfl rfl) ?_
    exact ⟨a25_1, a25_2, a25_3, rfl, rfl⟩
  rintro f50 _ ⟨a50_1, a50_2, a50_3, a50_82, rfl⟩
  clear a25_1 a25_2 a25_29 a25_3 a25_30 a25_31 a25_4
  refine wpF_condP a50_82 (fun h5 => ?t103) (fun h5 => ?e103)
  case t103 =>
    refine wpF_seq ?_
    refine wpF_cut (fun f H => f 2 = PT g4 0 ∧ St H0 NoB NoB [blkE g4 (.cells #[I (2), I (-1)] 27), blkE g1 (.cells #[wa, wb, wc, wd, we] 42), rdE wa l.Low, rdE wb l.High, rdE wc l.Start, rdE wd l.Jumps, rdE we l.Bad] H) ?_ ?_
    · refine wpF_region ?_
      refine wpL_q (U := NoB) rfl (q_build (v := Value.agg #[I (2), I (-1)]) rfl (par2 (v0 := I (2)) (v1 := I (-1)) rfl rfl) (fun w => by kernel_rfl)) ?_
      refine wpL_o rfl ?_
      refine e_storeBlkA (cs' := #[I (2), I (-1)]) rfl a50_2 rfl Try.sizeOf27 rfl rfl (List.forall_mem_cons.2 ⟨rfl, List.forall_mem_cons.2 ⟨rfl, List.forall_mem_nil _⟩⟩) hS24 (fun H52 hS53 hxx => ?_)
      replace hS53 : St H0 NoB NoB [blkE g4 (.cells #[I (2), I (-1)] 27), blkE g1 (.cells #[wa, wb, wc, wd, we] 42), rdE wa l.Low, rdE wb l.High, rdE wc l.Start, rdE wd l.Jumps, rdE we l.Bad] H52 := hS53
      exact ⟨a50_2, hS53⟩
    rintro f54 H54 ⟨a54_2, hS54⟩
    clear a50_1 a50_2 a50_3 a50_82
    refine wpF_ret ?_
    refine ⟨_, resC a54_2 (loadV_blkA Try.isAgg27 Try.sizeOf27 rfl (hS54.blk 0 rfl)) (resN), hS54.frame, ?_⟩
    show (Value.agg #[I (2), I (-1)]) = Value.agg #[I (loopFault l).1, I (loopFault l).2]
    have hq := loopFault_4 (l := l) (by unfold LH1; omega) h2 (fun j hj => hp j (by omega)) h5
    rw [hq]
  refine wpF_skip ?_
  refine wpF_seq ?_
  refine wpF_seq ?_
  refine wpF_cut (fun f H => f 1 = PT g1 0 ∧ f 2 = PT g4 0 ∧ f 3 = I ((l.Low.length : Int)) ∧ f 6 = I (rowsFault l.Start (l.Low.length : Int)) ∧ St H0 NoB NoB [blkE g4 (.cells #[I (0), I (0)] 27), blkE g1 (.cells #[wa, wb, wc, wd, we] 42), rdE wa l.Low, rdE wb l.High, rdE wc l.Start, rdE wd l.Jumps, rdE we l.Bad] H) ?_ ?_
  · refine wpF_region ?_
    refine wpL_q (U := NoB) rfl (q_fieldAddr rfl Try.underlying42 rfl Try.sizeOf22 a50_1) ?_
    refine wpL_q (U := NoB) rfl (q_loadBlk rfl rfl Try.isAgg22 (hS24.blk 1 rfl) rfl (fun h => h)) ?_
    refine wpL_q (U := NoB) rfl (q_move (v := I ((l.Low.length : Int))) rfl a50_3) ?_
    refine wpL_o rfl ?_
    refine e_call rfl Try.call46 (arr2 (v0 := wc) (v1 := I ((l.Low.length : Int))) rfl rfl) (Rows_L wc l.Start (l.Low.length : Int) (hS24.rdN 4 rfl)) ?_
    rintro _ H55 ⟨hxx, rfl⟩
    have hS56 : St H0 NoB NoB [blkE g4 (.cells #[I (0), I (0)] 27), blkE g1 (.cells #[wa, wb, wc, wd, we] 42), rdE wa l.Low, rdE wb l.High, rdE wc l.Start, rdE wd l.Jumps, rdE we l.Bad] H55 := hS24.ext hxx
    refine wpL_q (U := NoB) rfl (q_assign (v := I (rowsFault l.Start (l.Low.length : Int))) rfl rfl) ?_
    exact ⟨a50_1, a50_2, a50_3, rfl, hS56⟩
  rintro f58 H58 ⟨a58_1, a58_2, a58_3, a58_6, hS58⟩
  clear a50_1 a50_2 a50_3 a50_82
  refine wpF_seq ?_
  refine wpF_cut (fun f H => f 1 = PT g1 0 ∧ f 2 = PT g4 0 ∧ f 3 = I ((l.Low.length : Int)) ∧ f 6 = I (rowsFault l.Start (l.Low.length : Int)) ∧ f 89 = B (decide ((rowsFault l.Start (l.Low.length : Int)) ≠ 0)) ∧ H58 = H) ?_ ?_
  · refine wpF_region ?_
    refine wpL_q (U := NoB) rfl (q_move (v := I (rowsFault l.Start (l.Low.length : Int))) rfl a58_6) ?_
    refine wpL_q (U := NoB) rfl (q_neq rfl rfl rfl) ?_
    exact ⟨a58_1, a58_2, a58_3, a58_6, rfl, rfl⟩
  rintro f59 _ ⟨a59_1, a59_2, a59_3, a59_6, a59_89, rfl⟩
  clear a58_1 a58_2 a58_3 a58_6
  refine wpF_condP a59_89 (fun h6 => ?t102) (fun h6 => ?e102)
  case t102 =>
    refine wpF_seq ?_
    refine wpF_cut (fun f H => f 2 = PT g4 0 ∧ St H0 NoB NoB [blkE g4 (.cells #[I (rowsFault l.Start (l.Low.length : Int)), I (-2)] 27), blkE g1 (.cells #[wa, wb, wc, wd, we] 42), rdE wa l.Low, rdE wb l.High, rdE wc l.Start, rdE wd l.Jumps, rdE we l.Bad] H) ?_ ?_
    · refine wpF_region ?_
      refine wpL_q (U := NoB) rfl (q_move (v := I (rowsFault l.Start (l.Low.length : Int))) rfl a59_6) ?_
      refine wpL_q (U := NoB) rfl (q_build (v := Value.agg #[I (rowsFault l.Start (l.Low.length : Int)), I (-2)]) rfl (par2 (v0 := I (rowsFault l.Start (l.Low.length : Int))) (v1 := I (-2)) rfl rfl) (fun w => by kernel_rfl)) ?_
      refine wpL_o rfl ?_
      refine e_storeBlkA (cs' := #[I (rowsFault l.Start (l.Low.length : Int)), I (-2)]) rfl a59_2 rfl Try.sizeOf27 rfl rfl (List.forall_mem_cons.2 ⟨rfl, List.forall_mem_cons.2 ⟨rfl, List.forall_mem_nil _⟩⟩) hS58 (fun H61 hS62 hxx => ?_)
      replace hS62 : St H0 NoB NoB [blkE g4 (.cells #[I (rowsFault l.Start (l.Low.length : Int)), I (-2)] 27), blkE g1 (.cells #[wa, wb, wc, wd, we] 42), rdE wa l.Low, rdE wb l.High, rdE wc l.Start, rdE wd l.Jumps, rdE we l.Bad] H61 := hS62
      exact ⟨a59_2, hS62⟩
    rintro f63 H63 ⟨a63_2, hS63⟩
    clear a59_1 a59_2 a59_3 a59_6 a59_89
    refine wpF_ret ?_
    refine ⟨_, resC a63_2 (loadV_blkA Try.isAgg27 Try.sizeOf27 rfl (hS63.blk 0 rfl)) (resN), hS63.frame, ?_⟩
    show (Value.agg #[I (rowsFault l.Start (l.Low.length : Int)), I (-2)]) = Value.agg #[I (loopFault l).1, I (loopFault l).2]
    have hq := loopFault_5 (l := l) (by unfold LH1; omega) h2 (fun j hj => hp j (by omega)) h5 h6
    rw [hq]
  refine wpF_skip ?_
  refine wpF_seq ?_
  refine wpF_seq ?_
  refine wpF_cut (fun f H => f 1 = PT g1 0 ∧ f 2 = PT g4 0 ∧ f 3 = I ((l.Low.length : Int)) ∧ f 93 = wd ∧ f 94 = I ((l.Jumps.length : Int)) ∧ f 95 = I (0) ∧ H58 = H) ?_ ?_
  · refine wpF_region ?_
    refine wpL_q (U := NoB) rfl (q_fieldAddr rfl Try.underlying42 rfl Try.sizeOf40 a59_1) ?_
    refine wpL_q (U := NoB) rfl (q_loadBlk rfl rfl Try.isAgg40 (hS58.blk 1 rfl) rfl (fun h => h)) ?_
    refine wpL_q (U := NoB) rfl (q_lenRd rfl Try.underlying40 rfl (hS58.rdl 5 rfl)) ?_
    refine wpL_q (U := NoB) rfl (q_move (v := I (0)) rfl rfl) ?_
    exact ⟨a59_1, a59_2, a59_3, rfl, rfl, rfl, rfl⟩
  rintro f64 _ ⟨a64_1, a64_2, a64_3, a64_93, a64_94, a64_95, rfl⟩
  clear a59_1 a59_2 a59_3 a59_6 a59_89
  refine wpF_block ?_
  refine wpF_loop (fun mz f H => ∃ (i : Nat), mz = l.Jumps.length - i ∧ (i ≤ l.Jumps.length) ∧ (∀ j, j < i → jumpFault (nth l.Jumps j) l.Low.length = 0) ∧ f 1 = PT g1 0 ∧ f 2 = PT g4 0 ∧ f 3 = I ((l.Low.length : Int)) ∧ f 93 = wd ∧ f 94 = I ((l.Jumps.length : Int)) ∧ f 95 = I ((i : Int)) ∧ St H0 NoB NoB [blkE g4 (.cells #[I (0), I (0)] 27), blkE g1 (.cells #[wa, wb, wc, wd, we] 42), rdE wa l.Low, rdE wb l.High, rdE wc l.Start, rdE wd l.Jumps, rdE we l.Bad] H) (l.Jumps.length - 0) ?_ ?_
  · exact ⟨0, rfl, Nat.zero_le _, (fun j hj => absurd hj (Nat.not_lt_zero j)), a64_1, a64_2, a64_3, a64_93, a64_94, (Eq.trans a64_95 (congrArg I (by omega))), hS58⟩
  intro m65 f65 H65 hI65
  obtain ⟨i, hm65, hi, hj, a65_1, a65_2, a65_3, a65_93, a65_94, a65_95, hS65⟩ := hI65
  clear a64_1 a64_2 a64_3 a64_93 a64_94 a64_95
  refine wpF_seq ?_
  refine wpF_cut (fun f H => f 1 = PT g1 0 ∧ f 2 = PT g4 0 ∧ f 3 = I ((l.Low.length : Int)) ∧ f 93 = wd ∧ f 94 = I ((l.Jumps.length : Int)) ∧ f 95 = I ((i : Int)) ∧ f 96 = B (decide ((i : Int) < (l.Jumps.length : Int))) ∧ H65 = H) ?_ ?_
  · refine wpF_region ?_
    refine wpL_q (U := NoB) rfl (q_lss rfl a65_95 a65_94) ?_
    exact ⟨a65_1, a65_2, a65_3, a65_93, a65_94, a65_95, rfl, rfl⟩
  rintro f66 _ ⟨a66_1, a66_2, a66_3, a66_93, a66_94, a66_95, a66_96, rfl⟩
  clear a65_1 a65_2 a65_3 a65_93 a65_94 a65_95
  refine wpF_seq ?_
  refine wpF_condP a66_96 (fun hlt2 => ?t101) (fun hlt2 => ?e101)
  case e101 =>
    refine wpF_exit ?_
    refine atX_here ?_
    refine wpF_seq ?_
    refine wpF_seq ?_
    refine wpF_cut (fun f H => f 2 = PT g4 0 ∧ f 10 = I (rowsFault l.Bad (l.Low.length : Int)) ∧ St H0 NoB NoB [blkE g4 (.cells #[I (0), I (0)] 27), blkE g1 (.cells #[wa, wb, wc, wd, we] 42), rdE wa l.Low, rdE wb l.High, rdE wc l.Start, rdE wd l.Jumps, rdE we l.Bad] H) ?_ ?_
    · refine wpF_region ?_
      refine wpL_q (U := NoB) rfl (q_fieldAddr rfl Try.underlying42 rfl Try.sizeOf22 a66_1) ?_
      refine wpL_q (U := NoB) rfl (q_loadBlk rfl rfl Try.isAgg22 (hS65.blk 1 rfl) rfl (fun h => h)) ?_
      refine wpL_q (U := NoB) rfl (q_move (v := I ((l.Low.length : Int))) rfl a66_3) ?_
      refine wpL_o rfl ?_
      refine e_call rfl Try.call46 (arr2 (v0 := we) (v1 := I ((l.Low.length : Int))) rfl rfl) (Rows_L we l.Bad (l.Low.length : Int) (hS65.rdN 6 rfl)) ?_
      rintro _ H88 ⟨hxx, rfl⟩
      have hS89 : St H0 NoB NoB [blkE g4 (.cells #[I (0), I (0)] 27), blkE g1 (.cells #[wa, wb, wc, wd, we] 42), rdE wa l.Low, rdE wb l.High, rdE wc l.Start, rdE wd l.Jumps, rdE we l.Bad] H88 := hS65.ext hxx
      refine wpL_q (U := NoB) rfl (q_assign (v := I (rowsFault l.Bad (l.Low.length : Int))) rfl rfl) ?_
      exact ⟨a66_2, rfl, hS89⟩
    rintro f91 H91 ⟨a91_2, a91_10, hS91⟩
    clear a66_1 a66_2 a66_3 a66_93 a66_94 a66_95 a66_96
    refine wpF_seq ?_
    refine wpF_cut (fun f H => f 2 = PT g4 0 ∧ f 10 = I (rowsFault l.Bad (l.Low.length : Int)) ∧ f 114 = B (decide ((rowsFault l.Bad (l.Low.length : Int)) ≠ 0)) ∧ H91 = H) ?_ ?_
    · refine wpF_region ?_
      refine wpL_q (U := NoB) rfl (q_move (v := I (rowsFault l.Bad (l.Low.length : Int))) rfl a91_10) ?_
      refine wpL_q (U := NoB) rfl (q_neq rfl rfl rfl) ?_
      exact ⟨a91_2, a91_10, rfl, rfl⟩
    rintro f92 _ ⟨a92_2, a92_10, a92_114, rfl⟩
    clear a91_10 a91_2
    refine wpF_condP a92_114 (fun h8 => ?t100) (fun h8 => ?e100)
    case t100 =>
      refine wpF_seq ?_
      refine wpF_cut (fun f H => f 2 = PT g4 0 ∧ St H0 NoB NoB [blkE g4 (.cells #[I (rowsFault l.Bad (l.Low.length : Int)), I (-3)] 27), blkE g1 (.cells #[wa, wb, wc, wd, we] 42), rdE wa l.Low, rdE wb l.High, rdE wc l.Start, rdE wd l.Jumps, rdE we l.Bad] H) ?_ ?_
      · refine wpF_region ?_
        refine wpL_q (U := NoB) rfl (q_move (v := I (rowsFault l.Bad (l.Low.length : Int))) rfl a92_10) ?_
        refine wpL_q (U := NoB) rfl (q_build (v := Value.agg #[I (rowsFault l.Bad (l.Low.length : Int)), I (-3)]) rfl (par2 (v0 := I (rowsFault l.Bad (l.Low.length : Int))) (v1 := I (-3)) rfl rfl) (fun w => by kernel_rfl)) ?_
        refine wpL_o rfl ?_
        refine e_storeBlkA (cs' := #[I (rowsFault l.Bad (l.Low.length : Int)), I (-3)]) rfl a92_2 rfl Try.sizeOf27 rfl rfl (List.forall_mem_cons.2 ⟨rfl, List.forall_mem_cons.2 ⟨rfl, List.forall_mem_nil _⟩⟩) hS91 (fun H94 hS95 hxx => ?_)
        replace hS95 : St H0 NoB NoB [blkE g4 (.cells #[I (rowsFault l.Bad (l.Low.length : Int)), I (-3)] 27), blkE g1 (.cells #[wa, wb, wc, wd, we] 42), rdE wa l.Low, rdE wb l.High, rdE wc l.Start, rdE wd l.Jumps, rdE we l.Bad] H94 := hS95
        exact ⟨a92_2, hS95⟩
      rintro f96 H96 ⟨a96_2, hS96⟩
      clear a92_10 a92_114 a92_2
      refine wpF_ret ?_
      refine ⟨_, resC a96_2 (loadV_blkA Try.isAgg27 Try.sizeOf27 rfl (hS96.blk 0 rfl)) (resN), hS96.frame, ?_⟩
      show (Value.agg #[I (rowsFault l.Bad (l.Low.length : Int)), I (-3)]) = Value.agg #[I (loopFault l).1, I (loopFault l).2]
      have hq := (loopFault_78 (l := l) (by unfold LH1; omega) h2 (fun j hj => hp j (by omega)) h5 h6 (fun j hjj => hj j (by omega))).trans (if_pos h8)
      rw [hq]
    refine wpF_skip ?_
    refine wpF_seq ?_
    refine wpF_cut (fun f H => f 2 = PT g4 0 ∧ St H0 NoB NoB [blkE g4 (.cells #[I (0), I (0)] 27), blkE g1 (.cells #[wa, wb, wc, wd, we] 42), rdE wa l.Low, rdE wb l.High, rdE wc l.Start, rdE wd l.Jumps, rdE we l.Bad] H) ?_ ?_
    · refine wpF_region ?_
      refine wpL_q (U := NoB) rfl (q_build (v := Value.agg #[I (0), I (0)]) rfl par0 (fun w => by kernel_rfl)) ?_
      refine wpL_o rfl ?_
      refine e_storeBlkA (cs' := #[I (0), I (0)]) rfl a92_2 rfl Try.sizeOf27 rfl rfl (List.forall_mem_cons.2 ⟨rfl, List.forall_mem_cons.2 ⟨rfl, List.forall_mem_nil _⟩⟩) hS91 (fun H97 hS98 hxx => ?_)
      replace hS98 : St H0 NoB NoB [blkE g4 (.cells #[I (0), I (0)] 27), blkE g1 (.cells #[wa, wb, wc, wd, we] 42), rdE wa l.Low, rdE wb l.High, rdE wc l.Start, rdE wd l.Jumps, rdE we l.Bad] H97 := hS98
      exact ⟨a92_2, hS98⟩
    rintro f99 H99 ⟨a99_2, hS99⟩
    clear a92_10 a92_114 a92_2
    refine wpF_ret ?_
    refine ⟨_, resC a99_2 (loadV_blkA Try.isAgg27 Try.sizeOf27 rfl (hS99.blk 0 rfl)) (resN), hS99.frame, ?_⟩
    show (Value.agg #[I (0), I (0)]) = Value.agg #[I (loopFault l).1, I (loopFault l).2]
    have hq := (loopFault_78 (l := l) (by unfold LH1; omega) h2 (fun j hj => hp j (by omega)) h5 h6 (fun j hjj => hj j (by omega))).trans (if_neg h8)
    rw [hq]
  refine wpF_skip ?_
  refine wpF_seq ?_
  refine wpF_block ?_
  refine wpF_seq ?_
  refine wpF_cut (fun f H => ∃ (u68n0 : Value), ∃ (u68n1 : Value), ∃ (g71 : Nat), f 1 = PT g1 0 ∧ f 2 = PT g4 0 ∧ f 3 = I ((l.Low.length : Int)) ∧ f 7 = I ((i : Int)) ∧ f 8 = PT g71 0 ∧ f 93 = wd ∧ f 94 = I ((l.Jumps.length : Int)) ∧ f 95 = I ((i : Int)) ∧ St H0 NoB NoB [blkE g71 (.cells #[u68n0, u68n1] 25), rdE u68n1 ((nth l.Jumps i).To), rdE u68n0 ((nth l.Jumps i).When), blkE g4 (.cells #[I (0), I (0)] 27), blkE g1 (.cells #[wa, wb, wc, wd, we] 42), rdE wa l.Low, rdE wb l.High, rdE wc l.Start, rdE wd l.Jumps, rdE we l.Bad] H) ?_ ?_
  · refine wpF_region ?_
    refine wpL_q (U := NoB) rfl (q_move (v := I ((i : Int))) rfl a66_95) ?_
    refine wpL_q (U := NoB) rfl (q_indexRd (k := i) rfl Try.underlying40 el_Jump_25_LoopS1 a66_93 a66_95 (hS65.rdl 5 rfl) (by omega) (by omega)) ?_
    obtain ⟨u68, huu68, hlu68⟩ := (Rd.list.1 (hS65.rdS 5 rfl)).elem i (by omega)
    obtain ⟨u68n0, u68n1, rfl, hu680, hu681⟩ := Rd.jump.1 huu68
    have hS69 : St H0 NoB NoB [rdE u68n0 ((nth l.Jumps i).When), blkE g4 (.cells #[I (0), I (0)] 27), blkE g1 (.cells #[wa, wb, wc, wd, we] 42), rdE wa l.Low, rdE wb l.High, rdE wc l.Start, rdE wd l.Jumps, rdE we l.Bad] H65 := hS65.rd hu680
    have hS70 : St H0 NoB NoB [rdE u68n1 ((nth l.Jumps i).To), rdE u68n0 ((nth l.Jumps i).When), blkE g4 (.cells #[I (0), I (0)] 27), blkE g1 (.cells #[wa, wb, wc, wd, we] 42), rdE wa l.Low, rdE wb l.High, rdE wc l.Start, rdE wd l.Jumps, rdE we l.Bad] H65 := hS69.rd (hu681.sub fun _ hb => SL_rd hb)
    refine wpL_q (U := NoB) rfl (q_loadE rfl rfl (hlu68 Try.prog 25 _ el_Jump_25_LoopS1 (fun _ h => False.elim h))) ?_
    refine wpL_o rfl ?_
    refine e_alloc rfl Try.zeroValue25 hS70 (fun g71 H72 hS73 hxx => ?_)
    replace hS73 : St H0 NoB NoB [blkE g71 (.cells #[(Value.slice none 0 0), (Value.slice none 0 0)] 25), rdE u68n1 ((nth l.Jumps i).To), rdE u68n0 ((nth l.Jumps i).When), blkE g4 (.cells #[I (0), I (0)] 27), blkE g1 (.cells #[wa, wb, wc, wd, we] 42), rdE wa l.Low, rdE wb l.High, rdE wc l.Start, rdE wd l.Jumps, rdE we l.Bad] H72 := hS73
    refine wpL_q (U := NoB) rfl (q_assign (v := I ((i : Int))) rfl rfl) ?_
    refine wpL_o rfl ?_
    refine e_storeBlkA (cs' := #[u68n0, u68n1]) rfl rfl rfl Try.sizeOf25 rfl rfl (List.forall_mem_cons.2 ⟨(oneCell_rdL (hS73.rdl 2 rfl)), List.forall_mem_cons.2 ⟨(oneCell_rdL (hS73.rdl 1 rfl)), List.forall_mem_nil _⟩⟩) hS73 (fun H74 hS75 hxx => ?_)
    replace hS75 : St H0 NoB NoB [blkE g71 (.cells #[u68n0, u68n1] 25), rdE u68n1 ((nth l.Jumps i).To), rdE u68n0 ((nth l.Jumps i).When), blkE g4 (.cells #[I (0), I (0)] 27), blkE g1 (.cells #[wa, wb, wc, wd, we] 42), rdE wa l.Low, rdE wb l.High, rdE wc l.Start, rdE wd l.Jumps, rdE we l.Bad] H74 := hS75
    exact ⟨u68n0, u68n1, g71, a66_1, a66_2, a66_3, rfl, rfl, a66_93, a66_94, a66_95, hS75⟩
  rintro f76 H76 ⟨u68n0, u68n1, g71, a76_1, a76_2, a76_3, a76_7, a76_8, a76_93, a76_94, a76_95, hS76⟩
  clear a66_1 a66_2 a66_3 a66_93 a66_94 a66_95 a66_96
  refine wpF_seq ?_
  refine wpF_cut (fun f H => f 1 = PT g1 0 ∧ f 2 = PT g4 0 ∧ f 3 = I ((l.Low.length : Int)) ∧ f 7 = I ((i : Int)) ∧ f 9 = I (jumpFault (nth l.Jumps i) (l.Low.length : Int)) ∧ f 93 = wd ∧ f 94 = I ((l.Jumps.length : Int)) ∧ f 95 = I ((i : Int)) ∧ St H0 NoB NoB [blkE g71 (.cells #[u68n0, u68n1] 25), rdE u68n1 ((nth l.Jumps i).To), rdE u68n0 ((nth l.Jumps i).When), blkE g4 (.cells #[I (0), I (0)] 27), blkE g1 (.cells #[wa, wb, wc, wd, we] 42), rdE wa l.Low, rdE wb l.High, rdE wc l.Start, rdE wd l.Jumps, rdE we l.Bad] H) ?_ ?_
  · refine wpF_region ?_
    refine wpL_q (U := NoB) rfl (q_loadBlkA rfl a76_8 Try.isAgg25 Try.sizeOf25 rfl (hS76.blk 0 rfl) (fun h => h)) ?_
    refine wpL_q (U := NoB) rfl (q_move (v := I ((l.Low.length : Int))) rfl a76_3) ?_
    refine wpL_o rfl ?_
    refine e_call rfl Try.call45 (arr2 (v0 := Value.agg #[u68n0, u68n1]) (v1 := I ((l.Low.length : Int))) rfl rfl) (jump_L u68n0 u68n1 (nth l.Jumps i) (l.Low.length : Int) (hS76.rdN 2 rfl) (hS76.rdN 1 rfl)) ?_
    rintro _ H77 ⟨hxx, rfl⟩
    have hS78 : St H0 NoB NoB [blkE g71 (.cells #[u68n0, u68n1] 25), rdE u68n1 ((nth l.Jumps i).To), rdE u68n0 ((nth l.Jumps i).When), blkE g4 (.cells #[I (0), I (0)] 27), blkE g1 (.cells #[wa, wb, wc, wd, we] 42), rdE wa l.Low, rdE wb l.High, rdE wc l.Start, rdE wd l.Jumps, rdE we l.Bad] H77 := hS76.ext hxx
    refine wpL_q (U := NoB) rfl (q_assign (v := I (jumpFault (nth l.Jumps i) (l.Low.length : Int))) rfl rfl) ?_
    exact ⟨a76_1, a76_2, a76_3, a76_7, rfl, a76_93, a76_94, a76_95, hS78⟩
  rintro f80 H80 ⟨a80_1, a80_2, a80_3, a80_7, a80_9, a80_93, a80_94, a80_95, hS80⟩
  clear a76_1 a76_2 a76_3 a76_7 a76_8 a76_93 a76_94 a76_95
  refine wpF_seq ?_
  refine wpF_cut (fun f H => f 1 = PT g1 0 ∧ f 2 = PT g4 0 ∧ f 3 = I ((l.Low.length : Int)) ∧ f 7 = I ((i : Int)) ∧ f 9 = I (jumpFault (nth l.Jumps i) (l.Low.length : Int)) ∧ f 93 = wd ∧ f 94 = I ((l.Jumps.length : Int)) ∧ f 95 = I ((i : Int)) ∧ f 104 = B (decide ((jumpFault (nth l.Jumps i) (l.Low.length : Int)) ≠ 0)) ∧ H80 = H) ?_ ?_
  · refine wpF_region ?_
    refine wpL_q (U := NoB) rfl (q_move (v := I (jumpFault (nth l.Jumps i) (l.Low.length : Int))) rfl a80_9) ?_
    refine wpL_q (U := NoB) rfl (q_neq rfl rfl rfl) ?_
    exact ⟨a80_1, a80_2, a80_3, a80_7, a80_9, a80_93, a80_94, a80_95, rfl, rfl⟩
  rintro f81 _ ⟨a81_1, a81_2, a81_3, a81_7, a81_9, a81_93, a81_94, a81_95, a81_104, rfl⟩
  clear a80_1 a80_2 a80_3 a80_7 a80_9 a80_93 a80_94 a80_95
  refine wpF_condP a81_104 (fun h7 => ?t87) (fun h7 => ?e87)
  case e87 =>
    refine wpF_skip ?_
    refine wpF_cut (fun f H => f 1 = PT g1 0 ∧ f 2 = PT g4 0 ∧ f 3 = I ((l.Low.length : Int)) ∧ f 93 = wd ∧ f 94 = I ((l.Jumps.length : Int)) ∧ f 95 = I ((i : Int) + 1) ∧ H80 = H) ?_ ?_
    · refine wpF_region ?_
      refine wpL_q (U := NoB) rfl (q_add rfl a81_95 rfl (by constructor <;> omega)) ?_
      refine wpL_q (U := NoB) rfl (q_move (v := I ((i : Int) + 1)) rfl rfl) ?_
      exact ⟨a81_1, a81_2, a81_3, a81_93, a81_94, rfl, rfl⟩
    rintro f86 _ ⟨a86_1, a86_2, a86_3, a86_93, a86_94, a86_95, rfl⟩
    clear a81_1 a81_104 a81_2 a81_3 a81_7 a81_9 a81_93 a81_94 a81_95
    refine ⟨_, ?_, i + 1, rfl, (by omega), (all_succ hj (by simpa using h7)), a86_1, a86_2, a86_3, a86_93, a86_94, (Eq.trans a86_95 (congrArg I (by omega))), (hS80.drop (sn (sn (sn (sk (sk (sk (sk (sk (sk (sk (List.Sublist.slnil))))))))))))⟩
    omega
  refine wpF_seq ?_
  refine wpF_cut (fun f H => f 2 = PT g4 0 ∧ St H0 NoB NoB [blkE g4 (.cells #[I (jumpFault (nth l.Jumps i) (l.Low.length : Int)), I ((i : Int))] 27), blkE g71 (.cells #[u68n0, u68n1] 25), rdE u68n1 ((nth l.Jumps i).To), rdE u68n0 ((nth l.Jumps i).When), blkE g1 (.cells #[wa, wb, wc, wd, we] 42), rdE wa l.Low, rdE wb l.High, rdE wc l.Start, rdE wd l.Jumps, rdE we l.Bad] H) ?_ ?_
  · refine wpF_region ?_
    refine wpL_q (U := NoB) rfl (q_move (v := I (jumpFault (nth l.Jumps i) (l.Low.length : Int))) rfl a81_9) ?_
    refine wpL_q (U := NoB) rfl (q_move (v := I ((i : Int))) rfl a81_7) ?_
    refine wpL_q (U := NoB) rfl (q_build (v := Value.agg #[I (jumpFault (nth l.Jumps i) (l.Low.length : Int)), I ((i : Int))]) rfl (par2 (v0 := I (jumpFault (nth l.Jumps i) (l.Low.length : Int))) (v1 := I ((i : Int))) rfl rfl) (fun w => by kernel_rfl)) ?_
    refine wpL_o rfl ?_
    refine e_storeBlkA (cs' := #[I (jumpFault (nth l.Jumps i) (l.Low.length : Int)), I ((i : Int))]) rfl a81_2 rfl Try.sizeOf27 rfl rfl (List.forall_mem_cons.2 ⟨rfl, List.forall_mem_cons.2 ⟨rfl, List.forall_mem_nil _⟩⟩) (hS80.front 3 rfl) (fun H83 hS84 hxx => ?_)
    replace hS84 : St H0 NoB NoB [blkE g4 (.cells #[I (jumpFault (nth l.Jumps i) (l.Low.length : Int)), I ((i : Int))] 27), blkE g71 (.cells #[u68n0, u68n1] 25), rdE u68n1 ((nth l.Jumps i).To), rdE u68n0 ((nth l.Jumps i).When), blkE g1 (.cells #[wa, wb, wc, wd, we] 42), rdE wa l.Low, rdE wb l.High, rdE wc l.Start, rdE wd l.Jumps, rdE we l.Bad] H83 := hS84
    exact ⟨a81_2, hS84⟩
  rintro f85 H85 ⟨a85_2, hS85⟩
  clear a81_1 a81_104 a81_2 a81_3 a81_7 a81_9 a81_93 a81_94 a81_95
  refine wpF_ret ?_
  refine ⟨_, resC a85_2 (loadV_blkA Try.isAgg27 Try.sizeOf27 rfl (hS85.blk 0 rfl)) (resN), hS85.frame, ?_⟩
  show (Value.agg #[I (jumpFault (nth l.Jumps i) (l.Low.length : Int)), I ((i : Int))]) = Value.agg #[I (loopFault l).1, I (loopFault l).2]
  have hq := loopFault_6 (k := i) (by unfold LH1; omega) h2 (fun j hj => hp j (by omega)) h5 h6 (by omega) hj h7
  rw [hq]

set_option maxRecDepth 100000 in
theorem Hold_L {H0 : Heap} (vl vs : Value) (l : List LRow) (s : List Int) (rl : Rd NoB H0 vl l) (rs : Rd NoB H0 vs s) (hh : HoldOk l s) : CallsH Try.prog 52 #[vl, vs] H0 (fun rv_ H' => Ext NoB H0 H' ∧ rv_ = B (holdB l s)) := by
  have hsl := (Rd.list.1 rl).small
  have hS0 : St H0 NoB NoB [rdE vl l, rdE vs s] H0 := St.arg (St.arg (St.start (fun _ h => h.elim)) (Bl0.nil) rs (fun _ h => h)) (Bl0.cons (Bl0.nil)) rl (fun _ h => h)
  refine callsH_of_wpF (args := [vl, vs]) (rs := [.tmp 4]) Try.func52 rfl Try.ntmps52 Try.results52 (by kernel_rfl) (Nat.le_of_ble_eq_true rfl) ?_
  have a0_0 : argF [vl, vs] 0 = vl := rfl
  have a0_1 : argF [vl, vs] 1 = vs := rfl
  generalize argF [vl, vs] = f0 at *
  refine wpF_seq ?_
  refine wpF_cut (fun f H => f 0 = vl ∧ f 1 = vs ∧ H0 = H) ?_ ?_
  · refine wpF_region ?_
    refine wpL_q (U := NoB) rfl (q_assign (v := B (false)) rfl rfl) ?_
    exact ⟨a0_0, a0_1, rfl⟩
  rintro f1 _ ⟨a1_0, a1_1, rfl⟩
  clear a0_0 a0_1
  refine wpF_seq ?_
  refine wpF_seq ?_
  refine wpF_cut (fun f H => f 1 = vs ∧ f 10 = vl ∧ f 11 = I ((l.length : Int)) ∧ f 12 = I (0) ∧ H0 = H) ?_ ?_
  · refine wpF_region ?_
    refine wpL_q (U := NoB) rfl (q_move (v := vl) rfl a1_0) ?_
    refine wpL_q (U := NoB) rfl (q_lenRd rfl Try.underlying22 rfl (hS0.rdl 0 rfl)) ?_
    refine wpL_q (U := NoB) rfl (q_move (v := I (0)) rfl rfl) ?_
    exact ⟨a1_1, rfl, rfl, rfl, rfl⟩
  rintro f2 _ ⟨a2_1, a2_10, a2_11, a2_12, rfl⟩
  clear a1_0 a1_1
  refine wpF_block ?_
  refine wpF_loop (fun mz f H => ∃ (k : Nat), mz = l.length - k ∧ (k ≤ l.length) ∧ (∀ j, j < k → ¬ rowOut (nth l j) (dotL (nth l j).Of s)) ∧ f 1 = vs ∧ f 10 = vl ∧ f 11 = I ((l.length : Int)) ∧ f 12 = I ((k : Int)) ∧ St H0 NoB NoB [rdE vl l, rdE vs s] H) (l.length - 0) ?_ ?_
  · exact ⟨0, rfl, Nat.zero_le _, (fun j hj => absurd hj (Nat.not_lt_zero j)), a2_1, a2_10, a2_11, (Eq.trans a2_12 (congrArg I (by omega))), hS0⟩
  intro m3 f3 H3 hI3
  obtain ⟨k, hm3, hk, hp, a3_1, a3_10, a3_11, a3_12, hS3⟩ := hI3
  clear a2_1 a2_10 a2_11 a2_12
  refine wpF_seq ?_
  refine wpF_cut (fun f H => f 1 = vs ∧ f 10 = vl ∧ f 11 = I ((l.length : Int)) ∧ f 12 = I ((k : Int)) ∧ f 13 = B (decide ((k : Int) < (l.length : Int))) ∧ H3 = H) ?_ ?_
  · refine wpF_region ?_
    refine wpL_q (U := NoB) rfl (q_lss rfl a3_12 a3_11) ?_
    exact ⟨a3_1, a3_10, a3_11, a3_12, rfl, rfl⟩
  rintro f4 _ ⟨a4_1, a4_10, a4_11, a4_12, a4_13, rfl⟩
  clear a3_1 a3_10 a3_11 a3_12
  refine wpF_seq ?_
  refine wpF_condP a4_13 (fun hlt => ?t44) (fun hlt => ?e44)
  case e44 =>
    refine wpF_exit ?_
    refine atX_here ?_
    refine wpF_seq ?_
    refine wpF_cut (fun f H => f 4 = B (true) ∧ H3 = H) ?_ ?_
    · refine wpF_region ?_
      refine wpL_q (U := NoB) rfl (q_assign (v := B (true)) rfl rfl) ?_
      exact ⟨rfl, rfl⟩
    rintro f43 _ ⟨a43_4, rfl⟩
    clear a4_1 a4_10 a4_11 a4_12 a4_13
    refine wpF_ret ?_
    refine ⟨_, resT a43_4 resN, hS3.frame, ?_⟩
    show (B (true)) = B (holdB l s)
    exact congrArg B (decide_eq_true (fun j hj => hp j (by omega))).symm
  have hso := LRow.small rl (k := k) (by omega)
  have hol := hh.len k (by omega)
  have hki := hh.kind k (by omega)
  refine wpF_skip ?_
  refine wpF_seq ?_
  refine wpF_block ?_
  refine wpF_seq ?_
  refine wpF_cut (fun f H => ∃ (u6n0 : Value), ∃ (g8 : Nat), (In64 (nth l k).Kind) ∧ (In64 (nth l k).To) ∧ f 1 = vs ∧ f 6 = PT g8 0 ∧ f 10 = vl ∧ f 11 = I ((l.length : Int)) ∧ f 12 = I ((k : Int)) ∧ St H0 NoB NoB [blkE g8 (.cells #[u6n0, I ((nth l k).Kind), I ((nth l k).To)] 34), rdE u6n0 ((nth l k).Of), rdE vl l, rdE vs s] H) ?_ ?_
  · refine wpF_region ?_
    refine wpL_q (U := NoB) rfl (q_indexRd (k := k) rfl Try.underlying22 el_LRow_34_LoopS1 a4_10 a4_12 (hS3.rdl 0 rfl) (by omega) (by omega)) ?_
    obtain ⟨u6, huu6, hlu6⟩ := (Rd.list.1 (hS3.rdS 0 rfl)).elem k (by omega)
    obtain ⟨u6n0, rfl, hu60, hu61, hu62⟩ := Rd.lRow.1 huu6
    have hS7 : St H0 NoB NoB [rdE u6n0 ((nth l k).Of), rdE vl l, rdE vs s] H3 := hS3.rd hu60
    refine wpL_q (U := NoB) rfl (q_loadE rfl rfl (hlu6 Try.prog 34 _ el_LRow_34_LoopS1 (fun _ h => False.elim h))) ?_
    refine wpL_o rfl ?_
    refine e_alloc rfl Try.zeroValue34 hS7 (fun g8 H9 hS10 hxx => ?_)
    replace hS10 : St H0 NoB NoB [blkE g8 (.cells #[(Value.slice none 0 0), I (0), I (0)] 34), rdE u6n0 ((nth l k).Of), rdE vl l, rdE vs s] H9 := hS10
    refine wpL_o rfl ?_
    refine e_storeBlkA (cs' := #[u6n0, I ((nth l k).Kind), I ((nth l k).To)]) rfl rfl rfl Try.sizeOf34 rfl rfl (List.forall_mem_cons.2 ⟨(oneCell_rdL (hS10.rdl 1 rfl)), List.forall_mem_cons.2 ⟨rfl, List.forall_mem_cons.2 ⟨rfl, List.forall_mem_nil _⟩⟩⟩) hS10 (fun H11 hS12 hxx => ?_)
    replace hS12 : St H0 NoB NoB [blkE g8 (.cells #[u6n0, I ((nth l k).Kind), I ((nth l k).To)] 34), rdE u6n0 ((nth l k).Of), rdE vl l, rdE vs s] H11 := hS12
    exact ⟨u6n0, g8, hu61, hu62, a4_1, rfl, a4_10, a4_11, a4_12, hS12⟩
  rintro f13 H13 ⟨u6n0, g8, hu61, hu62, a13_1, a13_6, a13_10, a13_11, a13_12, hS13⟩
  clear a4_1 a4_10 a4_11 a4_12 a4_13
  refine wpF_seq ?_
  refine wpF_cut (fun f H => f 1 = vs ∧ f 6 = PT g8 0 ∧ f 7 = I (0) ∧ f 10 = vl ∧ f 11 = I ((l.length : Int)) ∧ f 12 = I ((k : Int)) ∧ H13 = H) ?_ ?_
  · refine wpF_region ?_
    refine wpL_q (U := NoB) rfl (q_assign (v := I (0)) rfl rfl) ?_
    exact ⟨a13_1, a13_6, rfl, a13_10, a13_11, a13_12, rfl⟩
  rintro f14 _ ⟨a14_1, a14_6, a14_7, a14_10, a14_11, a14_12, rfl⟩
  clear a13_1 a13_10 a13_11 a13_12 a13_6
  refine wpF_seq ?_
  refine wpF_seq ?_
  refine wpF_cut (fun f H => f 1 = vs ∧ f 6 = PT g8 0 ∧ f 7 = I (0) ∧ f 10 = vl ∧ f 11 = I ((l.length : Int)) ∧ f 12 = I ((k : Int)) ∧ f 17 = u6n0 ∧ f 18 = I ((((nth l k).Of).length : Int)) ∧ f 19 = I (0) ∧ H13 = H) ?_ ?_
  · refine wpF_region ?_
    refine wpL_q (U := NoB) rfl (q_fieldAddr rfl Try.underlying34 rfl Try.sizeOf32 a14_6) ?_
    refine wpL_q (U := NoB) rfl (q_loadBlk rfl rfl Try.isAgg32 (hS13.blk 0 rfl) rfl (fun h => h)) ?_
    refine wpL_q (U := NoB) rfl (q_lenRd rfl Try.underlying32 rfl (hS13.rdl 1 rfl)) ?_
    refine wpL_q (U := NoB) rfl (q_move (v := I (0)) rfl rfl) ?_
    exact ⟨a14_1, a14_6, a14_7, a14_10, a14_11, a14_12, rfl, rfl, rfl, rfl⟩
  rintro f15 _ ⟨a15_1, a15_6, a15_7, a15_10, a15_11, a15_12, a15_17, a15_18, a15_19, rfl⟩
  clear a14_1 a14_10 a14_11 a14_12 a14_6 a14_7
  refine wpF_block ?_
  refine wpF_loop (fun mz f H => ∃ (i : Nat), mz = (nth l k).Of.length - i ∧ (i ≤ (nth l k).Of.length) ∧ f 1 = vs ∧ f 6 = PT g8 0 ∧ f 7 = I (wrapI (dotTo (nth l k).Of s i)) ∧ f 10 = vl ∧ f 11 = I ((l.length : Int)) ∧ f 12 = I ((k : Int)) ∧ f 17 = u6n0 ∧ f 18 = I ((((nth l k).Of).length : Int)) ∧ f 19 = I ((i : Int)) ∧ St H0 NoB NoB [blkE g8 (.cells #[u6n0, I ((nth l k).Kind), I ((nth l k).To)] 34), rdE u6n0 ((nth l k).Of), rdE vl l, rdE vs s] H) ((nth l k).Of.length - 0) ?_ ?_
  · exact ⟨0, rfl, Nat.zero_le _, a15_1, a15_6, (Eq.trans a15_7 (congrArg I wrapI_zero)), a15_10, a15_11, a15_12, a15_17, a15_18, (Eq.trans a15_19 (congrArg I (by omega))), hS13⟩
  intro m16 f16 H16 hI16
  obtain ⟨i, hm16, hi, a16_1, a16_6, a16_7, a16_10, a16_11, a16_12, a16_17, a16_18, a16_19, hS16⟩ := hI16
  clear a15_1 a15_10 a15_11 a15_12 a15_17 a15_18 a15_19 a15_6 a15_7
  refine wpF_seq ?_
  refine wpF_cut (fun f H => f 1 = vs ∧ f 6 = PT g8 0 ∧ f 7 = I (wrapI (dotTo (nth l k).Of s i)) ∧ f 10 = vl ∧ f 11 = I ((l.length : Int)) ∧ f 12 = I ((k : Int)) ∧ f 17 = u6n0 ∧ f 18 = I ((((nth l k).Of).length : Int)) ∧ f 19 = I ((i : Int)) ∧ f 20 = B (decide ((i : Int) < (((nth l k).Of).length : Int))) ∧ H16 = H) ?_ ?_
  · refine wpF_region ?_
    refine wpL_q (U := NoB) rfl (q_lss rfl a16_19 a16_18) ?_
    exact ⟨a16_1, a16_6, a16_7, a16_10, a16_11, a16_12, a16_17, a16_18, a16_19, rfl, rfl⟩
  rintro f17 _ ⟨a17_1, a17_6, a17_7, a17_10, a17_11, a17_12, a17_17, a17_18, a17_19, a17_20, rfl⟩
  clear a16_1 a16_10 a16_11 a16_12 a16_17 a16_18 a16_19 a16_6 a16_7
  refine wpF_seq ?_
  refine wpF_condP a17_20 (fun hlt2 => ?t42) (fun hlt2 => ?e42)
  case t42 =>
    have hm := hh.mul k (by omega) i (by omega)
    refine wpF_skip ?_
    refine wpF_seq ?_
    refine wpF_block ?_
    refine wpF_seq ?_
    refine wpF_cut (fun f H => f 1 = vs ∧ f 6 = PT g8 0 ∧ f 7 = I (wrapI (dotTo (nth l k).Of s i)) ∧ f 8 = I ((i : Int)) ∧ f 9 = I (nth ((nth l k).Of) i) ∧ f 10 = vl ∧ f 11 = I ((l.length : Int)) ∧ f 12 = I ((k : Int)) ∧ f 17 = u6n0 ∧ f 18 = I ((((nth l k).Of).length : Int)) ∧ f 19 = I ((i : Int)) ∧ H16 = H) ?_ ?_
    · refine wpF_region ?_
      refine wpL_q (U := NoB) rfl (q_move (v := I ((i : Int))) rfl a17_19) ?_
      refine wpL_q (U := NoB) rfl (q_indexRd (k := i) rfl Try.underlying32 el_Int_3_LoopS1 a17_17 a17_19 (hS16.rdl 1 rfl) (by omega) (by omega)) ?_
      refine wpL_q (U := NoB) rfl (q_loadInt (k := i) rfl rfl el_Int_3_LoopS1 (hS16.rdl 1 rfl) (by omega) (fun _ h => h)) ?_
      refine wpL_q (U := NoB) rfl (q_assign (v := I ((i : Int))) rfl rfl) ?_
      refine wpL_q (U := NoB) rfl (q_assign (v := I (nth ((nth l k).Of) i)) rfl rfl) ?_
      exact ⟨a17_1, a17_6, a17_7, rfl, rfl, a17_10, a17_11, a17_12, a17_17, a17_18, a17_19, rfl⟩
    rintro f19 _ ⟨a19_1, a19_6, a19_7, a19_8, a19_9, a19_10, a19_11, a19_12, a19_17, a19_18, a19_19, rfl⟩
    clear a17_1 a17_10 a17_11 a17_12 a17_17 a17_18 a17_19 a17_20 a17_6 a17_7
    refine wpF_cut (fun f H => f 1 = vs ∧ f 6 = PT g8 0 ∧ f 7 = I (wrapI ((wrapI (dotTo (nth l k).Of s i)) + ((nth ((nth l k).Of) i) * (nth s i)))) ∧ f 10 = vl ∧ f 11 = I ((l.length : Int)) ∧ f 12 = I ((k : Int)) ∧ f 17 = u6n0 ∧ f 18 = I ((((nth l k).Of).length : Int)) ∧ f 19 = I ((i : Int)) ∧ H16 = H) ?_ ?_
    · refine wpF_region ?_
      refine wpL_q (U := NoB) rfl (q_move (v := I (wrapI (dotTo (nth l k).Of s i))) rfl a19_7) ?_
      refine wpL_q (U := NoB) rfl (q_move (v := I (nth ((nth l k).Of) i)) rfl a19_9) ?_
      refine wpL_q (U := NoB) rfl (q_move (v := vs) rfl a19_1) ?_
      refine wpL_q (U := NoB) rfl (q_move (v := I ((i : Int))) rfl a19_8) ?_
      refine wpL_q (U := NoB) rfl (q_indexRd (k := i) rfl Try.underlying32 el_Int_3_LoopS1 rfl rfl (hS16.rdl 3 rfl) (by omega) (by omega)) ?_
      refine wpL_q (U := NoB) rfl (q_loadInt (k := i) rfl rfl el_Int_3_LoopS1 (hS16.rdl 3 rfl) (by omega) (fun _ h => h)) ?_
      refine wpL_q (U := NoB) rfl (q_mul rfl rfl rfl (by constructor <;> omega)) ?_
      refine wpL_q (U := NoB) rfl (q_addW rfl rfl rfl) ?_
      refine wpL_q (U := NoB) rfl (q_assign (v := I (wrapI ((wrapI (dotTo (nth l k).Of s i)) + ((nth ((nth l k).Of) i) * (nth s i))))) rfl rfl) ?_
      exact ⟨a19_1, a19_6, rfl, a19_10, a19_11, a19_12, a19_17, a19_18, a19_19, rfl⟩
    rintro f20 _ ⟨a20_1, a20_6, a20_7, a20_10, a20_11, a20_12, a20_17, a20_18, a20_19, rfl⟩
    clear a19_1 a19_10 a19_11 a19_12 a19_17 a19_18 a19_19 a19_6 a19_7 a19_8 a19_9
    refine wpF_cut (fun f H => f 1 = vs ∧ f 6 = PT g8 0 ∧ f 7 = I (wrapI ((wrapI (dotTo (nth l k).Of s i)) + ((nth ((nth l k).Of) i) * (nth s i)))) ∧ f 10 = vl ∧ f 11 = I ((l.length : Int)) ∧ f 12 = I ((k : Int)) ∧ f 17 = u6n0 ∧ f 18 = I ((((nth l k).Of).length : Int)) ∧ f 19 = I ((i : Int) + 1) ∧ H16 = H) ?_ ?_
    · refine wpF_region ?_
      refine wpL_q (U := NoB) rfl (q_add rfl a20_19 rfl (by constructor <;> omega)) ?_
      refine wpL_q (U := NoB) rfl (q_move (v := I ((i : Int) + 1)) rfl rfl) ?_
      exact ⟨a20_1, a20_6, a20_7, a20_10, a20_11, a20_12, a20_17, a20_18, rfl, rfl⟩
    rintro f21 _ ⟨a21_1, a21_6, a21_7, a21_10, a21_11, a21_12, a21_17, a21_18, a21_19, rfl⟩
    clear a20_1 a20_10 a20_11 a20_12 a20_17 a20_18 a20_19 a20_6 a20_7
    refine ⟨_, ?_, i + 1, rfl, (by omega), a21_1, a21_6, (Eq.trans a21_7 (congrArg I wrapI_add)), a21_10, a21_11, a21_12, a21_17, a21_18, (Eq.trans a21_19 (congrArg I (by omega))), hS16⟩
    omega
  have hie : i = (nth l k).Of.length := by omega
  have hw : wrapI (dotTo (nth l k).Of s i) = dotL (nth l k).Of s := by rw [hie]; exact wrapI_in (hh.sum k (by omega))
  refine wpF_exit ?_
  refine atX_here ?_
  refine wpF_seq ?_
  refine wpF_cut (fun f H => f 1 = vs ∧ f 10 = vl ∧ f 11 = I ((l.length : Int)) ∧ f 12 = I ((k : Int)) ∧ f 58 = B (decide (((((nth l k).To) < (wrapI (dotTo (nth l k).Of s i))) ∨ (((wrapI (dotTo (nth l k).Of s i)) = ((nth l k).To)) ∧ (((nth l k).Kind) = 2))) ∨ (((wrapI (dotTo (nth l k).Of s i)) < ((nth l k).To)) ∧ (((nth l k).Kind) = 3)))) ∧ H16 = H) ?_ ?_
  · refine wpF_region ?_
    refine wpL_q (U := NoB) rfl (q_move (v := I (wrapI (dotTo (nth l k).Of s i))) rfl a17_7) ?_
    refine wpL_q (U := NoB) rfl (q_fieldAddr rfl Try.underlying34 rfl Try.sizeOf3 a17_6) ?_
    refine wpL_q (U := NoB) rfl (q_loadBlk rfl rfl Try.isAgg3 (hS16.blk 0 rfl) rfl (fun h => h)) ?_
    refine wpL_q (U := NoB) rfl (q_gtr rfl rfl rfl) ?_
    refine wpL_q (U := NoB) rfl (q_move (v := B (decide (((nth l k).To) < (wrapI (dotTo (nth l k).Of s i))))) rfl rfl) ?_
    by_cases hg22 : ((nth l k).To) < (wrapI (dotTo (nth l k).Of s i))
    · have hb23 := Eq.trans rfl (congrArg B (decide_eq_true hg22))
      refine wpL_gs rfl rfl rfl hb23 rfl ?_
      refine wpL_gs rfl rfl rfl hb23 rfl ?_
      refine wpL_gs rfl rfl rfl hb23 rfl ?_
      refine wpL_gs rfl rfl rfl hb23 rfl ?_
      refine wpL_gs rfl rfl rfl hb23 rfl ?_
      refine wpL_gs' rfl rfl rfl rfl ?_
      refine wpL_gs' rfl rfl rfl rfl ?_
      refine wpL_gs' rfl rfl rfl rfl ?_
      refine wpL_gs rfl rfl rfl hb23 rfl ?_
      refine wpL_q (U := NoB) rfl (q_pickT (v := B (true)) rfl hb23 rfl) ?_
      refine wpL_q (U := NoB) rfl (q_move (v := B (true)) rfl rfl) ?_
      refine wpL_gs rfl rfl rfl rfl rfl ?_
      refine wpL_gs rfl rfl rfl rfl rfl ?_
      refine wpL_gs rfl rfl rfl rfl rfl ?_
      refine wpL_gs rfl rfl rfl rfl rfl ?_
      refine wpL_gs rfl rfl rfl rfl rfl ?_
      refine wpL_gs' rfl rfl rfl rfl ?_
      refine wpL_gs' rfl rfl rfl rfl ?_
      refine wpL_gs' rfl rfl rfl rfl ?_
      refine wpL_gs rfl rfl rfl rfl rfl ?_
      refine wpL_q (U := NoB) rfl (q_pickT (v := B (true)) rfl rfl rfl) ?_
      exact ⟨a17_1, a17_10, a17_11, a17_12, (Eq.trans rfl (congrArg B ((decide_eq_true (Or.inl (Or.inl hg22))).symm))), rfl⟩
    · have hb24 := Eq.trans rfl (congrArg B (decide_eq_false hg22))
      refine wpL_gq (U := NoB) rfl rfl rfl hb24 (q_move (v := I (wrapI (dotTo (nth l k).Of s i))) rfl a17_7) ?_
      refine wpL_gq (U := NoB) rfl rfl rfl hb24 (q_fieldAddr rfl Try.underlying34 rfl Try.sizeOf3 a17_6) ?_
      refine wpL_gq (U := NoB) rfl rfl rfl hb24 (q_loadBlk rfl rfl Try.isAgg3 (hS16.blk 0 rfl) rfl (fun h => h)) ?_
      refine wpL_gq (U := NoB) rfl rfl rfl hb24 (q_eql rfl rfl rfl) ?_
      refine wpL_gq (U := NoB) rfl rfl rfl hb24 (q_move (v := B (decide ((wrapI (dotTo (nth l k).Of s i)) = ((nth l k).To)))) rfl rfl) ?_
      by_cases hg25 : (wrapI (dotTo (nth l k).Of s i)) = ((nth l k).To)
      · have hb26 := Eq.trans rfl (congrArg B (decide_eq_true hg25))
        refine wpL_gq (U := NoB) rfl rfl rfl hb26 (q_fieldAddr rfl Try.underlying34 rfl Try.sizeOf3 a17_6) ?_
        refine wpL_gq (U := NoB) rfl rfl rfl hb26 (q_loadBlk rfl rfl Try.isAgg3 (hS16.blk 0 rfl) rfl (fun h => h)) ?_
        refine wpL_gq (U := NoB) rfl rfl rfl hb26 (q_eql rfl rfl rfl) ?_
        refine wpL_gq (U := NoB) rfl rfl rfl hb24 (q_pickT (v := B (decide (((nth l k).Kind) = 2))) rfl hb26 rfl) ?_
        refine wpL_q (U := NoB) rfl (q_pickF (v := B (decide (((nth l k).Kind) = 2))) rfl hb24 rfl) ?_
        refine wpL_q (U := NoB) rfl (q_move (v := B (decide (((nth l k).Kind) = 2))) rfl rfl) ?_
        by_cases hg28 : ((nth l k).Kind) = 2
        · have hb29 := Eq.trans rfl (congrArg B (decide_eq_true hg28))
          refine wpL_gs rfl rfl rfl hb29 rfl ?_
          refine wpL_gs rfl rfl rfl hb29 rfl ?_
          refine wpL_gs rfl rfl rfl hb29 rfl ?_
          refine wpL_gs rfl rfl rfl hb29 rfl ?_
          refine wpL_gs rfl rfl rfl hb29 rfl ?_
          refine wpL_gs' rfl rfl rfl rfl ?_
          refine wpL_gs' rfl rfl rfl rfl ?_
          refine wpL_gs' rfl rfl rfl rfl ?_
          refine wpL_gs rfl rfl rfl hb29 rfl ?_
          refine wpL_q (U := NoB) rfl (q_pickT (v := B (true)) rfl hb29 rfl) ?_
          exact ⟨a17_1, a17_10, a17_11, a17_12, (Eq.trans rfl (congrArg B ((decide_eq_true (Or.inl (Or.inr ⟨hg25, hg28⟩))).symm))), rfl⟩
        · have hb30 := Eq.trans rfl (congrArg B (decide_eq_false hg28))
          refine wpL_gq (U := NoB) rfl rfl rfl hb30 (q_move (v := I (wrapI (dotTo (nth l k).Of s i))) rfl a17_7) ?_
          refine wpL_gq (U := NoB) rfl rfl rfl hb30 (q_fieldAddr rfl Try.underlying34 rfl Try.sizeOf3 a17_6) ?_
          refine wpL_gq (U := NoB) rfl rfl rfl hb30 (q_loadBlk rfl rfl Try.isAgg3 (hS16.blk 0 rfl) rfl (fun h => h)) ?_
          refine wpL_gq (U := NoB) rfl rfl rfl hb30 (q_lss rfl rfl rfl) ?_
          refine wpL_gq (U := NoB) rfl rfl rfl hb30 (q_move (v := B (decide ((wrapI (dotTo (nth l k).Of s i)) < ((nth l k).To)))) rfl rfl) ?_
          by_cases hg31 : (wrapI (dotTo (nth l k).Of s i)) < ((nth l k).To)
          · have hb32 := Eq.trans rfl (congrArg B (decide_eq_true hg31))
            refine wpL_gq (U := NoB) rfl rfl rfl hb32 (q_fieldAddr rfl Try.underlying34 rfl Try.sizeOf3 a17_6) ?_
            refine wpL_gq (U := NoB) rfl rfl rfl hb32 (q_loadBlk rfl rfl Try.isAgg3 (hS16.blk 0 rfl) rfl (fun h => h)) ?_
            refine wpL_gq (U := NoB) rfl rfl rfl hb32 (q_eql rfl rfl rfl) ?_
            refine wpL_gq (U := NoB) rfl rfl rfl hb30 (q_pickT (v := B (decide (((nth l k).Kind) = 3))) rfl hb32 rfl) ?_
            refine wpL_q (U := NoB) rfl (q_pickF (v := B (decide (((nth l k).Kind) = 3))) rfl hb30 rfl) ?_
            exact ⟨a17_1, a17_10, a17_11, a17_12, (Eq.trans rfl (congrArg B (decide_congr_of ((Iff.rfl).trans (((or_iff_right (not_or.2 ⟨hg22, (fun h => hg28 h.2)⟩)).trans ((and_iff_right hg31).trans Iff.rfl))).symm)))), rfl⟩
          · have hb33 := Eq.trans rfl (congrArg B (decide_eq_false hg31))
            refine wpL_gs rfl rfl rfl hb33 rfl ?_
            refine wpL_gs rfl rfl rfl hb33 rfl ?_
            refine wpL_gs rfl rfl rfl hb33 rfl ?_
            refine wpL_gq (U := NoB) rfl rfl rfl hb30 (q_pickF (v := B (false)) rfl hb33 rfl) ?_
            refine wpL_q (U := NoB) rfl (q_pickF (v := B (false)) rfl hb30 rfl) ?_
            exact ⟨a17_1, a17_10, a17_11, a17_12, (Eq.trans rfl (congrArg B ((decide_eq_false (not_or.2 ⟨(not_or.2 ⟨hg22, (fun h => hg28 h.2)⟩), (fun h => hg31 h.1)⟩)).symm))), rfl⟩
      · have hb27 := Eq.trans rfl (congrArg B (decide_eq_false hg25))
        refine wpL_gs rfl rfl rfl hb27 rfl ?_
        refine wpL_gs rfl rfl rfl hb27 rfl ?_
        refine wpL_gs rfl rfl rfl hb27 rfl ?_
        refine wpL_gq (U := NoB) rfl rfl rfl hb24 (q_pickF (v := B (false)) rfl hb27 rfl) ?_
        refine wpL_q (U := NoB) rfl (q_pickF (v := B (false)) rfl hb24 rfl) ?_
        refine wpL_q (U := NoB) rfl (q_move (v := B (false)) rfl rfl) ?_
        refine wpL_gq (U := NoB) rfl rfl rfl rfl (q_move (v := I (wrapI (dotTo (nth l k).Of s i))) rfl a17_7) ?_
        refine wpL_gq (U := NoB) rfl rfl rfl rfl (q_fieldAddr rfl Try.underlying34 rfl Try.sizeOf3 a17_6) ?_
        refine wpL_gq (U := NoB) rfl rfl rfl rfl (q_loadBlk rfl rfl Try.isAgg3 (hS16.blk 0 rfl) rfl (fun h => h)) ?_
        refine wpL_gq (U := NoB) rfl rfl rfl rfl (q_lss rfl rfl rfl) ?_
        refine wpL_gq (U := NoB) rfl rfl rfl rfl (q_move (v := B (decide ((wrapI (dotTo (nth l k).Of s i)) < ((nth l k).To)))) rfl rfl) ?_
        by_cases hg34 : (wrapI (dotTo (nth l k).Of s i)) < ((nth l k).To)
        · have hb35 := Eq.trans rfl (congrArg B (decide_eq_true hg34))
          refine wpL_gq (U := NoB) rfl rfl rfl hb35 (q_fieldAddr rfl Try.underlying34 rfl Try.sizeOf3 a17_6) ?_
          refine wpL_gq (U := NoB) rfl rfl rfl hb35 (q_loadBlk rfl rfl Try.isAgg3 (hS16.blk 0 rfl) rfl (fun h => h)) ?_
          refine wpL_gq (U := NoB) rfl rfl rfl hb35 (q_eql rfl rfl rfl) ?_
          refine wpL_gq (U := NoB) rfl rfl rfl rfl (q_pickT (v := B (decide (((nth l k).Kind) = 3))) rfl hb35 rfl) ?_
          refine wpL_q (U := NoB) rfl (q_pickF (v := B (decide (((nth l k).Kind) = 3))) rfl rfl rfl) ?_
          exact ⟨a17_1, a17_10, a17_11, a17_12, (Eq.trans rfl (congrArg B (decide_congr_of ((Iff.rfl).trans (((or_iff_right (not_or.2 ⟨hg22, (fun h => hg25 h.1)⟩)).trans ((and_iff_right hg34).trans Iff.rfl))).symm)))), rfl⟩
        · have hb36 := Eq.trans rfl (congrArg B (decide_eq_false hg34))
          refine wpL_gs rfl rfl rfl hb36 rfl ?_
          refine wpL_gs rfl rfl rfl hb36 rfl ?_
          refine wpL_gs rfl rfl rfl hb36 rfl ?_
          refine wpL_gq (U := NoB) rfl rfl rfl rfl (q_pickF (v := B (false)) rfl hb36 rfl) ?_
          refine wpL_q (U := NoB) rfl (q_pickF (v := B (false)) rfl rfl rfl) ?_
          exact ⟨a17_1, a17_10, a17_11, a17_12, (Eq.trans rfl (congrArg B ((decide_eq_false (not_or.2 ⟨(not_or.2 ⟨hg22, (fun h => hg25 h.1)⟩), (fun h => hg34 h.1)⟩)).symm))), rfl⟩
  rintro f37 _ ⟨a37_1, a37_10, a37_11, a37_12, a37_58, rfl⟩
  clear a17_1 a17_10 a17_11 a17_12 a17_17 a17_18 a17_19 a17_20 a17_6 a17_7
  refine wpF_condP a37_58 (fun h58 => ?t41) (fun h58 => ?e41)
  case e41 =>
    refine wpF_skip ?_
    refine wpF_cut (fun f H => f 1 = vs ∧ f 10 = vl ∧ f 11 = I ((l.length : Int)) ∧ f 12 = I ((k : Int) + 1) ∧ H16 = H) ?_ ?_
    · refine wpF_region ?_
      refine wpL_q (U := NoB) rfl (q_add rfl a37_12 rfl (by constructor <;> omega)) ?_
      refine wpL_q (U := NoB) rfl (q_move (v := I ((k : Int) + 1)) rfl rfl) ?_
      exact ⟨a37_1, a37_10, a37_11, rfl, rfl⟩
    rintro f40 _ ⟨a40_1, a40_10, a40_11, a40_12, rfl⟩
    clear a37_1 a37_10 a37_11 a37_12 a37_58
    refine ⟨_, ?_, k + 1, rfl, (by omega), (all_succ hp (by rw [hw] at h58; exact fun h => h58 ((rowOut_iff hki).2 h))), a40_1, a40_10, a40_11, (Eq.trans a40_12 (congrArg I (by omega))), (hS16.drop (sn (sn (sk (sk (List.Sublist.slnil))))))⟩
    omega
  refine wpF_seq ?_
  refine wpF_cut (fun f H => f 4 = B (false) ∧ H16 = H) ?_ ?_
  · refine wpF_region ?_
    refine wpL_q (U := NoB) rfl (q_assign (v := B (false)) rfl rfl) ?_
    exact ⟨rfl, rfl⟩
  rintro f39 _ ⟨a39_4, rfl⟩
  clear a37_1 a37_10 a37_11 a37_12 a37_58
  refine wpF_ret ?_
  refine ⟨_, resT a39_4 resN, hS16.frame, ?_⟩
  show (B (false)) = B (holdB l s)
  exact congrArg B (decide_eq_false (fun h => h k (by omega) (by rw [hw] at h58; exact (rowOut_iff hki).1 h58))).symm

end Go.Um
