import Derived.Test.YtpdcejallbbncaaProg
import Derived.Test.YtpdcejallbbncaaStepB1
import Derived.Test.YtpdcejallbbncaaStepR1
import Derived.Test.YtpdcejallbbncaaStepLaw
import Derived.Test.YtpdcejallbbncaaUmSub
namespace Go.Um
open Go.Proofs
open GoT (sz ag rdc)
open KeyT (kv)

theorem el_Bool_4_StepsSays1 : ElT Try.prog Bool 4 := ⟨Try.isAgg4, Try.sizeOf4⟩
theorem el_LInt_22_StepsSays1 : ElT Try.prog (List Int) 22 := ⟨Try.isAgg22, Try.sizeOf22⟩
theorem em_Int_3_StepsSays1 : ElemOk Try.prog Int 3 := ⟨Try.t3, (.int .i64 0), by kernel_rfl, by kernel_rfl, by kernel_rfl, by kernel_rfl, by kernel_rfl⟩
theorem fl27_StepsSays1 (a b c d : Int) (w : World) : (Op.equalIn 10000 27 (.agg #[I a, I b]) (.agg #[I c, I d])).run Try.prog w = .ok (decide (a = c ∧ b = d)) w := eq2_run Try.underlying27 Try.underlying3 Try.underlying3 (by decide) (by decide) rfl rfl Try.isAgg3 Try.isAgg3 Try.stoodInHeld27 a b c d w

set_option maxRecDepth 100000 in
theorem rows_L {H0 : Heap} (va vb : Value) (a b : List (List Int)) (ra : Rd NoB H0 va a) (rb : Rd NoB H0 vb b) : CallsH Try.prog 35 #[va, vb] H0 (fun rv_ H' => Ext NoB H0 H' ∧ rv_ = B (decide (a = b))) := by
  have hsm := (Rd.list.1 ra).small
  have hS0 : St H0 NoB NoB [rdE va a, rdE vb b] H0 := St.arg (St.arg (St.start (fun _ h => h.elim)) (Bl0.nil) rb (fun _ h => h)) (Bl0.cons (Bl0.nil)) ra (fun _ h => h)
  refine callsH_of_wpF (args := [va, vb]) (rs := [.tmp 4]) Try.func35 rfl Try.ntmps35 Try.results35 (by kernel_rfl) (Nat.le_of_ble_eq_true rfl) ?_
  have a0_0 : argF [va, vb] 0 = va := rfl
  have a0_1 : argF [va, vb] 1 = vb := rfl
  generalize argF [va, vb] = f0 at *
  refine wpF_seq ?_
  refine wpF_cut (fun f H => f 0 = va ∧ f 1 = vb ∧ H0 = H) ?_ ?_
  · refine wpF_region ?_
    refine wpL_q (U := NoB) rfl (q_assign (v := B (false)) rfl rfl) ?_
    exact ⟨a0_0, a0_1, rfl⟩
  rintro f1 _ ⟨a1_0, a1_1, rfl⟩
  clear a0_0 a0_1
  refine wpF_seq ?_
  refine wpF_seq ?_
  refine wpF_cut (fun f H => f 0 = va ∧ f 1 = vb ∧ f 10 = B (decide ((a.length : Int) ≠ (b.length : Int))) ∧ H0 = H) ?_ ?_
  · refine wpF_region ?_
    refine wpL_q (U := NoB) rfl (q_move (v := va) rfl a1_0) ?_
    refine wpL_q (U := NoB) rfl (q_lenRd rfl Try.underlying56 rfl (hS0.rdl 0 rfl)) ?_
    refine wpL_q (U := NoB) rfl (q_move (v := vb) rfl a1_1) ?_
    refine wpL_q (U := NoB) rfl (q_lenRd rfl Try.underlying56 rfl (hS0.rdl 1 rfl)) ?_
    refine wpL_q (U := NoB) rfl (q_neq rfl rfl rfl) ?_
    exact ⟨a1_0, a1_1, rfl, rfl⟩
  rintro f2 _ ⟨a2_0, a2_1, a2_10, rfl⟩
  clear a1_0 a1_1
  refine wpF_condP a2_10 (fun hlen => ?t17) (fun hlen => ?e17)
  case t17 =>
    refine wpF_seq ?_
    refine wpF_cut (fun f H => f 4 = B (false) ∧ H0 = H) ?_ ?_
    · refine wpF_region ?_
      refine wpL_q (U := NoB) rfl (q_assign (v := B (false)) rfl rfl) ?_
      exact ⟨rfl, rfl⟩
    rintro f4 _ ⟨a4_4, rfl⟩
    clear a2_0 a2_1 a2_10
    refine wpF_ret ?_
    refine ⟨_, resT a4_4 resN, hS0.frame, ?_⟩
    show (B (false)) = B (decide (a = b))
    exact congrArg B (by simp; intro h; subst h; simp at hlen)
  refine wpF_skip ?_
  refine wpF_seq ?_
  refine wpF_seq ?_
  refine wpF_cut (fun f H => f 0 = va ∧ f 1 = vb ∧ f 5 = I (0) ∧ H0 = H) ?_ ?_
  · refine wpF_region ?_
    refine wpL_q (U := NoB) rfl (q_assign (v := I (0)) rfl rfl) ?_
    exact ⟨a2_0, a2_1, rfl, rfl⟩
  rintro f5 _ ⟨a5_0, a5_1, a5_5, rfl⟩
  clear a2_0 a2_1 a2_10
  refine wpF_block ?_
  refine wpF_loop (fun mz f H => ∃ (k : Nat), mz = a.length - k ∧ (k ≤ a.length) ∧ (a.take k = b.take k) ∧ f 0 = va ∧ f 1 = vb ∧ f 5 = I ((k : Int)) ∧ St H0 NoB NoB [rdE va a, rdE vb b] H) (a.length - 0) ?_ ?_
  · exact ⟨0, rfl, Nat.zero_le _, rfl, a5_0, a5_1, (Eq.trans a5_5 (congrArg I (by omega))), hS0⟩
  intro m6 f6 H6 hI6
  obtain ⟨k, hm6, hk, hpre, a6_0, a6_1, a6_5, hS6⟩ := hI6
  clear a5_0 a5_1 a5_5
  refine wpF_seq ?_
  refine wpF_seq ?_
  refine wpF_cut (fun f H => f 0 = va ∧ f 1 = vb ∧ f 5 = I ((k : Int)) ∧ f 14 = B (decide ((k : Int) < (a.length : Int))) ∧ H6 = H) ?_ ?_
  · refine wpF_region ?_
    refine wpL_q (U := NoB) rfl (q_move (v := I ((k : Int))) rfl a6_5) ?_
    refine wpL_q (U := NoB) rfl (q_move (v := va) rfl a6_0) ?_
    refine wpL_q (U := NoB) rfl (q_lenRd rfl Try.underlying56 rfl (hS6.rdl 0 rfl)) ?_
    refine wpL_q (U := NoB) rfl (q_lss rfl rfl rfl) ?_
    exact ⟨a6_0, a6_1, a6_5, rfl, rfl⟩
  rintro f7 _ ⟨a7_0, a7_1, a7_5, a7_14, rfl⟩
  clear a6_0 a6_1 a6_5
  refine wpF_condP a7_14 (fun hlt => ?t16) (fun hlt => ?e16)
  case e16 =>
    refine wpF_exit ?_
    refine atX_here ?_
    refine wpF_seq ?_
    refine wpF_cut (fun f H => f 4 = B (true) ∧ H6 = H) ?_ ?_
    · refine wpF_region ?_
      refine wpL_q (U := NoB) rfl (q_assign (v := B (true)) rfl rfl) ?_
      exact ⟨rfl, rfl⟩
    rintro f15 _ ⟨a15_4, rfl⟩
    clear a7_0 a7_1 a7_14 a7_5
    refine wpF_ret ?_
    refine ⟨_, resT a15_4 resN, hS6.frame, ?_⟩
    show (B (true)) = B (decide (a = b))
    exact congrArg B (by simp; exact take_all hpre (by omega) (by omega))
  refine wpF_skip ?_
  refine wpF_seq ?_
  refine wpF_block ?_
  refine wpF_seq ?_
  obtain ⟨u9o3, huu9o3, hlu9o3⟩ := (Rd.list.1 (hS6.rdS 0 rfl)).elem k (by omega)
  have hS9o3 : St H0 NoB NoB [rdE u9o3 (nth a k), rdE va a, rdE vb b] H6 := hS6.rd huu9o3
  obtain ⟨u9o7, huu9o7, hlu9o7⟩ := (Rd.list.1 (hS9o3.rdS 2 rfl)).elem k (by omega)
  have hS9o7 : St H0 NoB NoB [rdE u9o7 (nth b k), rdE u9o3 (nth a k), rdE va a, rdE vb b] H6 := hS9o3.rd huu9o7
  refine wpF_cut (fun f H => f 0 = va ∧ f 1 = vb ∧ f 5 = I ((k : Int)) ∧ f 26 = B (decide (¬ ((nth a k) = (nth b k)))) ∧ St H0 NoB NoB [rdE va a, rdE vb b] H) ?_ ?_
  · refine wpF_drawn [] [] (fun _ _ => False) (by kernel_rfl) (by kernel_rfl) ?_
    refine wpR_q 0 (by kernel_rfl) rfl (quietAt rfl rfl (q_move (v := va) rfl a7_0)) ?_
    refine wpR_q 1 (by kernel_rfl) rfl (quietAt rfl rfl (q_move (v := I ((k : Int))) rfl a7_5)) ?_
    refine wpR_q 2 (by kernel_rfl) rfl (quietAt rfl rfl (q_indexRd (k := k) rfl Try.underlying56 el_LInt_22_StepsSays1 rfl rfl (hS6.rdl 0 rfl) (by omega) (by omega))) ?_
    refine wpR_q 3 (by kernel_rfl) rfl (quietAt rfl rfl (q_loadE rfl rfl (hlu9o3 Try.prog 22 _ el_LInt_22_StepsSays1 (labU_sub [] rfl (List.forall_mem_nil _))))) ?_
    refine wpR_q 4 (by kernel_rfl) rfl (quietAt rfl rfl (q_move (v := vb) rfl a7_1)) ?_
    refine wpR_q 5 (by kernel_rfl) rfl (quietAt rfl rfl (q_move (v := I ((k : Int))) rfl a7_5)) ?_
    refine wpR_q 6 (by kernel_rfl) rfl (quietAt rfl rfl (q_indexRd (k := k) rfl Try.underlying56 el_LInt_22_StepsSays1 rfl rfl (hS9o3.rdl 2 rfl) (by omega) (by omega))) ?_
    refine wpR_q 7 (by kernel_rfl) rfl (quietAt rfl rfl (q_loadE rfl rfl (hlu9o7 Try.prog 22 _ el_LInt_22_StepsSays1 (labU_sub [] rfl (List.forall_mem_nil _))))) ?_
    refine wpR_n [8] (by kernel_rfl) ?_
    refine List.forall_mem_cons.2 ⟨?_, List.forall_mem_nil _⟩
    refine exE rfl rfl ?_
    refine e_call rfl Try.call26 (arr2 (v0 := u9o3) (v1 := u9o7) rfl rfl) (Ints_R u9o3 u9o7 _ _ (hS9o7.rdN 1 rfl) (hS9o7.rdN 0 rfl)) ?_
    rintro _ H9o8 ⟨hxx, rfl⟩
    have hS9o8 : St H0 NoB NoB [rdE u9o7 (nth b k), rdE u9o3 (nth a k), rdE va a, rdE vb b] H9o8 := hS9o7.ext hxx
    refine ⟨Ext.mono hxx (fun _ h => h.elim), ?_⟩
    refine wpR_q 9 (by kernel_rfl) rfl (quietAt rfl rfl (q_notP rfl rfl)) ?_
    refine wpR_end (by kernel_rfl) ?_
    exact ⟨a7_0, a7_1, a7_5, rfl, (hS9o8.drop (sn (sn (sk (sk (List.Sublist.slnil))))))⟩
  rintro f10 H10 ⟨a10_0, a10_1, a10_5, a10_26, hS10⟩
  clear a7_0 a7_1 a7_14 a7_5
  refine wpF_condP a10_26 (fun hne => ?t14) (fun hne => ?e14)
  case t14 =>
    refine wpF_seq ?_
    refine wpF_cut (fun f H => f 4 = B (false) ∧ H10 = H) ?_ ?_
    · refine wpF_region ?_
      refine wpL_q (U := NoB) rfl (q_assign (v := B (false)) rfl rfl) ?_
      exact ⟨rfl, rfl⟩
    rintro f12 _ ⟨a12_4, rfl⟩
    clear a10_0 a10_1 a10_26 a10_5
    refine wpF_ret ?_
    refine ⟨_, resT a12_4 resN, hS10.frame, ?_⟩
    show (B (false)) = B (decide (a = b))
    exact congrArg B (by simp; intro h; subst h; simp at hne)
  refine wpF_skip ?_
  refine wpF_cut (fun f H => f 0 = va ∧ f 1 = vb ∧ f 5 = I ((k : Int) + 1) ∧ H10 = H) ?_ ?_
  · refine wpF_region ?_
    refine wpL_q (U := NoB) rfl (q_move (v := I ((k : Int))) rfl a10_5) ?_
    refine wpL_q (U := NoB) rfl (q_add rfl rfl rfl (by constructor <;> omega)) ?_
    refine wpL_q (U := NoB) rfl (q_assign (v := I ((k : Int) + 1)) rfl rfl) ?_
    exact ⟨a10_0, a10_1, rfl, rfl⟩
  rintro f13 _ ⟨a13_0, a13_1, a13_5, rfl⟩
  clear a10_0 a10_1 a10_26 a10_5
  refine ⟨_, ?_, k + 1, rfl, (by omega), (take_same hpre (by omega) (by omega) (by simpa using hne)), a13_0, a13_1, (Eq.trans a13_5 (congrArg I (by omega))), hS10⟩
  omega

set_option maxHeartbeats 8000000 in
set_option maxRecDepth 100000 in
theorem StepsSays_L {H0 : Heap} (vf vg va vh : Value) (q : Quest) (n : Int) (holds : List Bool) (h6qFacts : In64 q.Facts) (rvf : Rd NoB H0 vf q.First) (rvg : Rd NoB H0 vg q.Goal) (rva : Rd NoB H0 va q.Acts) (hni : In64 n) (rh : Rd NoB H0 vh holds) : CallsH Try.prog 9 #[Value.agg #[I (q.Facts), vf, vg, va], I (n), vh] H0 (fun rv_ H' => Ext NoB H0 H' ∧ rv_ = B true) := by
  have hsa := (Rd.list.1 rva).small
  have hsh := (Rd.list.1 rh).small
  have hS0 : St H0 NoB NoB [rdE vf q.First, rdE vg q.Goal, rdE va q.Acts, rdE vh holds] H0 := St.arg (St.arg (St.arg (St.arg (St.start (fun _ h => h.elim)) (Bl0.nil) rh (fun _ h => h)) (Bl0.cons (Bl0.nil)) rva (fun _ h => h)) (Bl0.cons (Bl0.cons (Bl0.nil))) rvg (fun _ h => h)) (Bl0.cons (Bl0.cons (Bl0.cons (Bl0.nil)))) rvf (fun _ h => h)
  refine callsH_of_wpF (args := [Value.agg #[I (q.Facts), vf, vg, va], I (n), vh]) (rs := [.tmp 6]) Try.func9 rfl Try.ntmps9 Try.results9 (by kernel_rfl) (Nat.le_of_ble_eq_true rfl) ?_
  have a0_0 : argF [Value.agg #[I (q.Facts), vf, vg, va], I (n), vh] 0 = Value.agg #[I (q.Facts), vf, vg, va] := rfl
  have a0_1 : argF [Value.agg #[I (q.Facts), vf, vg, va], I (n), vh] 1 = I (n) := rfl
  have a0_2 : argF [Value.agg #[I (q.Facts), vf, vg, va], I (n), vh] 2 = vh := rfl
  generalize argF [Value.agg #[I (q.Facts), vf, vg, va], I (n), vh] = f0 at *
  refine wpF_seq ?_
  refine wpF_cut (fun f H => ∃ (g1 : Nat), f 1 = I (n) ∧ f 2 = vh ∧ f 3 = PT g1 0 ∧ St H0 NoB NoB [blkE g1 (.cells #[I (q.Facts), vf, vg, va] 25), rdE vf q.First, rdE vg q.Goal, rdE va q.Acts, rdE vh holds] H) ?_ ?_
  · refine wpF_region ?_
    refine wpL_o rfl ?_
    refine e_box (v := Value.agg #[I (q.Facts), vf, vg, va]) rfl a0_0 hS0 (fun g1 H2 hS3 hxx => ?_)
    replace hS3 : St H0 NoB NoB [blkE g1 (.cells #[I (q.Facts), vf, vg, va] 25), rdE vf q.First, rdE vg q.Goal, rdE va q.Acts, rdE vh holds] H2 := hS3
    refine wpL_q (U := NoB) rfl (q_assign (v := B (false)) rfl rfl) ?_
    exact ⟨g1, a0_1, a0_2, rfl, hS3⟩
  rintro f4 H4 ⟨g1, a4_1, a4_2, a4_3, hS4⟩
  clear a0_0 a0_1 a0_2
  refine wpF_seq ?_
  refine wpF_seq ?_
  refine wpF_cut (fun f H => f 1 = I (n) ∧ f 2 = vh ∧ f 3 = PT g1 0 ∧ f 20 = B (decide (20 < (q.Acts.length : Int))) ∧ H4 = H) ?_ ?_
  · refine wpF_region ?_
    refine wpL_q (U := NoB) rfl (q_fieldAddr rfl Try.underlying25 rfl Try.sizeOf23 a4_3) ?_
    refine wpL_q (U := NoB) rfl (q_loadBlk rfl rfl Try.isAgg23 (hS4.blk 0 rfl) rfl (fun h => h)) ?_
    refine wpL_q (U := NoB) rfl (q_lenRd rfl Try.underlying23 rfl (hS4.rdl 3 rfl)) ?_
    refine wpL_q (U := NoB) rfl (q_gtr rfl rfl rfl) ?_
    exact ⟨a4_1, a4_2, a4_3, rfl, rfl⟩
  rintro f5 _ ⟨a5_1, a5_2, a5_3, a5_20, rfl⟩
  clear a4_1 a4_2 a4_3
  refine wpF_condP a5_20 (fun h20 => ?t219) (fun h20 => ?e219)
  case t219 =>
    refine wpF_seq ?_
    refine wpF_cut (fun f H => f 6 = B (true) ∧ H4 = H) ?_ ?_
    · refine wpF_region ?_
      refine wpL_q (U := NoB) rfl (q_assign (v := B (true)) rfl rfl) ?_
      exact ⟨rfl, rfl⟩
    rintro f7 _ ⟨a7_6, rfl⟩
    clear a5_1 a5_2 a5_20 a5_3
    refine wpF_ret ?_
    refine ⟨_, resT a7_6 resN, hS4.frame, ?_⟩
    show (B (true)) = B true
    rfl
  refine wpF_skip ?_
  refine wpF_seq ?_
  refine wpF_cut (fun f H => ∃ (g11 : Nat), f 1 = I (n) ∧ f 2 = vh ∧ f 3 = PT g1 0 ∧ f 7 = PT g11 0 ∧ St H0 NoB NoB [blkE g11 (.cells #[I ((questFault q).1), I ((questFault q).2)] 27), blkE g1 (.cells #[I (q.Facts), vf, vg, va] 25), rdE vf q.First, rdE vg q.Goal, rdE va q.Acts, rdE vh holds] H) ?_ ?_
  · refine wpF_region ?_
    refine wpL_q (U := NoB) rfl (q_loadBlkA rfl a5_3 Try.isAgg25 Try.sizeOf25 rfl (hS4.blk 0 rfl) (fun h => h)) ?_
    refine wpL_o rfl ?_
    refine e_call rfl Try.call12 (arr1 (v0 := Value.agg #[I (q.Facts), vf, vg, va]) rfl) (Quest_R vf vg va q (by first | assumption | (constructor <;> omega)) (hS4.rdN 1 rfl) (hS4.rdN 2 rfl) (hS4.rdN 3 rfl) ) ?_
    rintro _ H8 ⟨hxx, rfl⟩
    have hS9 : St H0 NoB NoB [blkE g1 (.cells #[I (q.Facts), vf, vg, va] 25), rdE vf q.First, rdE vg q.Goal, rdE va q.Acts, rdE vh holds] H8 := hS4.ext hxx
    refine wpL_o rfl ?_
    refine e_alloc rfl Try.zeroValue27 hS9 (fun g11 H12 hS13 hxx => ?_)
    replace hS13 : St H0 NoB NoB [blkE g11 (.cells #[I (0), I (0)] 27), blkE g1 (.cells #[I (q.Facts), vf, vg, va] 25), rdE vf q.First, rdE vg q.Goal, rdE va q.Acts, rdE vh holds] H12 := hS13
    refine wpL_o rfl ?_
    refine e_storeBlkA (cs' := #[I ((questFault q).1), I ((questFault q).2)]) rfl rfl rfl Try.sizeOf27 rfl rfl (List.forall_mem_cons.2 ⟨rfl, List.forall_mem_cons.2 ⟨rfl, List.forall_mem_nil _⟩⟩) hS13 (fun H14 hS15 hxx => ?_)
    replace hS15 : St H0 NoB NoB [blkE g11 (.cells #[I ((questFault q).1), I ((questFault q).2)] 27), blkE g1 (.cells #[I (q.Facts), vf, vg, va] 25), rdE vf q.First, rdE vg q.Goal, rdE va q.Acts, rdE vh holds] H14 := hS15
    exact ⟨g11, a5_1, a5_2, a5_3, rfl, hS15⟩
  rintro f16 H16 ⟨g11, a16_1, a16_2, a16_3, a16_7, hS16⟩
  clear a5_1 a5_2 a5_20 a5_3
  refine wpF_seq ?_
  refine wpF_seq ?_
  refine wpF_cut (fun f H => f 1 = I (n) ∧ f 2 = vh ∧ f 3 = PT g1 0 ∧ f 7 = PT g11 0 ∧ f 30 = B (decide ((((questFault q).1) = 0) ∧ (¬ (0 ≤ n ∧ n ≤ 20)))) ∧ St H0 NoB NoB [blkE g11 (.cells #[I ((questFault q).1), I ((questFault q).2)] 27), blkE g1 (.cells #[I (q.Facts), vf, vg, va] 25), rdE vf q.First, rdE vg q.Goal, rdE va q.Acts, rdE vh holds] H) ?_ ?_
  · refine wpF_region ?_
    refine wpL_q (U := NoB) rfl (q_fieldAddr rfl Try.underlying27 rfl Try.sizeOf3 a16_7) ?_
    refine wpL_q (U := NoB) rfl (q_loadBlk rfl rfl Try.isAgg3 (hS16.blk 0 rfl) rfl (fun h => h)) ?_
    refine wpL_q (U := NoB) rfl (q_eql rfl rfl rfl) ?_
    refine wpL_q (U := NoB) rfl (q_move (v := B (decide (((questFault q).1) = 0))) rfl rfl) ?_
    by_cases hg17 : ((questFault q).1) = 0
    · have hb18 := Eq.trans rfl (congrArg B (decide_eq_true hg17))
      refine wpL_gq (U := NoB) rfl rfl rfl hb18 (q_move (v := I (n)) rfl a16_1) ?_
      refine wpL_go rfl rfl rfl hb18 ?_
      refine e_call rfl Try.call17 (arr3 (v0 := I (n)) (v1 := I (0)) (v2 := I (20)) rfl rfl rfl) (in_L n 0 20) ?_
      rintro _ H20 ⟨hxx, rfl⟩
      have hS21 : St H0 NoB NoB [blkE g11 (.cells #[I ((questFault q).1), I ((questFault q).2)] 27), blkE g1 (.cells #[I (q.Facts), vf, vg, va] 25), rdE vf q.First, rdE vg q.Goal, rdE va q.Acts, rdE vh holds] H20 := hS16.ext hxx
      refine wpL_gq (U := NoB) rfl rfl rfl hb18 (q_notP rfl rfl) ?_
      refine wpL_q (U := NoB) rfl (q_pickT (v := B (decide (¬ (0 ≤ n ∧ n ≤ 20)))) rfl hb18 rfl) ?_
      exact ⟨a16_1, a16_2, a16_3, a16_7, (Eq.trans rfl (congrArg B (decide_congr_of (((not_congr Iff.rfl)).trans (((and_iff_right hg17).trans (not_congr Iff.rfl))).symm)))), hS21⟩
    · have hb19 := Eq.trans rfl (congrArg B (decide_eq_false hg17))
      refine wpL_gs rfl rfl rfl hb19 rfl ?_
      refine wpL_gs rfl rfl rfl hb19 rfl ?_
      refine wpL_gs rfl rfl rfl hb19 rfl ?_
      refine wpL_q (U := NoB) rfl (q_pickF (v := B (false)) rfl hb19 rfl) ?_
      exact ⟨a16_1, a16_2, a16_3, a16_7, (Eq.trans rfl (congrArg B ((decide_eq_false (fun h => hg17 h.1)).symm))), hS16⟩
  rintro f23 H23 ⟨a23_1, a23_2, a23_3, a23_7, a23_30, hS23⟩
  clear a16_1 a16_2 a16_3 a16_7
  refine wpF_cut (fun f H => ∃ (c1 : Int), ∃ (e1 : Int), (W2 q n c1 e1) ∧ f 1 = I (n) ∧ f 2 = vh ∧ f 3 = PT g1 0 ∧ f 7 = PT g11 0 ∧ St H0 NoB NoB [blkE g11 (.cells #[I (c1), I (e1)] 27), blkE g1 (.cells #[I (q.Facts), vf, vg, va] 25), rdE vf q.First, rdE vg q.Goal, rdE va q.Acts, rdE vh holds] H) ?_ ?_
  · refine wpF_condP a23_30 (fun h30 => ?t32) (fun h30 => ?e32)
    case e32 =>
      refine wpF_skip ?_
      exact ⟨(questFault q).1, (questFault q).2, (W2.no h30), a23_1, a23_2, a23_3, a23_7, (show St H0 NoB NoB [blkE g11 (.cells #[I (((questFault q).1)), I (((questFault q).2))] 27), blkE g1 (.cells #[I (q.Facts), vf, vg, va] 25), rdE vf q.First, rdE vg q.Goal, rdE va q.Acts, rdE vh holds] H23 from hS23)⟩
    refine wpF_cut (fun f H => f 1 = I (n) ∧ f 2 = vh ∧ f 3 = PT g1 0 ∧ f 7 = PT g11 0 ∧ St H0 NoB NoB [blkE g11 (.cells #[I (3), I (-2)] 27), blkE g1 (.cells #[I (q.Facts), vf, vg, va] 25), rdE vf q.First, rdE vg q.Goal, rdE va q.Acts, rdE vh holds] H) ?_ ?_
    · refine wpF_region ?_
      refine wpL_o rfl ?_
      refine e_call rfl Try.call15 (arr2 (v0 := I (3)) (v1 := I (-2)) rfl rfl) (fault_L 3 (-2)) ?_
      rintro _ H26 ⟨hxx, rfl⟩
      have hS27 : St H0 NoB NoB [blkE g11 (.cells #[I ((questFault q).1), I ((questFault q).2)] 27), blkE g1 (.cells #[I (q.Facts), vf, vg, va] 25), rdE vf q.First, rdE vg q.Goal, rdE va q.Acts, rdE vh holds] H26 := hS23.ext hxx
      refine wpL_o rfl ?_
      refine e_storeBlkA (cs' := #[I (3), I (-2)]) rfl a23_7 rfl Try.sizeOf27 rfl rfl (List.forall_mem_cons.2 ⟨rfl, List.forall_mem_cons.2 ⟨rfl, List.forall_mem_nil _⟩⟩) hS27 (fun H29 hS30 hxx => ?_)
      replace hS30 : St H0 NoB NoB [blkE g11 (.cells #[I (3), I (-2)] 27), blkE g1 (.cells #[I (q.Facts), vf, vg, va] 25), rdE vf q.First, rdE vg q.Goal, rdE va q.Acts, rdE vh holds] H29 := hS30
      exact ⟨a23_1, a23_2, a23_3, a23_7, hS30⟩
    rintro f31 H31 ⟨a31_1, a31_2, a31_3, a31_7, hS31⟩
    clear a23_1 a23_2 a23_3 a23_30 a23_7
    exact ⟨(3 : Int), (-2 : Int), (W2.yes h30), a31_1, a31_2, a31_3, a31_7, (show St H0 NoB NoB [blkE g11 (.cells #[I ((3 : Int)), I ((-2 : Int))] 27), blkE g1 (.cells #[I (q.Facts), vf, vg, va] 25), rdE vf q.First, rdE vg q.Goal, rdE va q.Acts, rdE vh holds] H31 from hS31)⟩
  rintro f24 H24 ⟨c1, e1, hw, a24_1, a24_2, a24_3, a24_7, hS24⟩
  clear a23_1 a23_2 a23_3 a23_30 a23_7
  refine wpF_seq ?_
  refine wpF_cut (fun f H => f 1 = I (n) ∧ f 2 = vh ∧ f 3 = PT g1 0 ∧ f 7 = PT g11 0 ∧ f 8 = I (0) ∧ H24 = H) ?_ ?_
  · refine wpF_region ?_
    refine wpL_q (U := NoB) rfl (q_assign (v := I (0)) rfl rfl) ?_
    exact ⟨a24_1, a24_2, a24_3, a24_7, rfl, rfl⟩
  rintro f33 _ ⟨a33_1, a33_2, a33_3, a33_7, a33_8, rfl⟩
  clear a24_1 a24_2 a24_3 a24_7
  refine wpF_seq ?_
  refine wpF_seq ?_
  refine wpF_cut (fun f H => f 1 = I (n) ∧ f 2 = vh ∧ f 3 = PT g1 0 ∧ f 7 = PT g11 0 ∧ f 8 = I (0) ∧ f 34 = B (decide (c1 = 0)) ∧ H24 = H) ?_ ?_
  · refine wpF_region ?_
    refine wpL_q (U := NoB) rfl (q_fieldAddr rfl Try.underlying27 rfl Try.sizeOf3 a33_7) ?_
    refine wpL_q (U := NoB) rfl (q_loadBlk rfl rfl Try.isAgg3 (hS24.blk 0 rfl) rfl (fun h => h)) ?_
    refine wpL_q (U := NoB) rfl (q_eql rfl rfl rfl) ?_
    exact ⟨a33_1, a33_2, a33_3, a33_7, a33_8, rfl, rfl⟩
  rintro f34 _ ⟨a34_1, a34_2, a34_3, a34_7, a34_8, a34_34, rfl⟩
  clear a33_1 a33_2 a33_3 a33_7 a33_8
  refine wpF_cut (fun f H => ∃ (c2 : Int), ∃ (e2 : Int), ∃ (vv : Int), (c2 = (chkF q n).1) ∧ (e2 = (chkF q n).2) ∧ ((chkF q n).1 = 0 → vv = varsN q n) ∧ f 1 = I (n) ∧ f 2 = vh ∧ f 3 = PT g1 0 ∧ f 7 = PT g11 0 ∧ f 8 = I (vv) ∧ St H0 NoB NoB [blkE g11 (.cells #[I (c2), I (e2)] 27), blkE g1 (.cells #[I (q.Facts), vf, vg, va] 25), rdE vf q.First, rdE vg q.Goal, rdE va q.Acts, rdE vh holds] H) ?_ ?_
  · refine wpF_condP a34_34 (fun h34 => ?t48) (fun h34 => ?e48)
    case e48 =>
      refine wpF_skip ?_
      exact ⟨c1, e1, 0, (hw.bad h34).1, (hw.bad h34).2, (fun h => absurd ((hw.bad h34).1.trans h) h34), a34_1, a34_2, a34_3, a34_7, a34_8, hS24⟩
    obtain ⟨hQ, hq0, hn, hez⟩ := hw.ok h34
    have hvr := vars_rng hQ hn
    have hfx := hQ.facts
    have hmy := hQ.many
    refine wpF_seq ?_
    refine wpF_cut (fun f H => f 1 = I (n) ∧ f 2 = vh ∧ f 3 = PT g1 0 ∧ f 7 = PT g11 0 ∧ f 8 = I (((n + 1) * q.Facts) + (n * (q.Acts.length : Int))) ∧ H24 = H) ?_ ?_
    · refine wpF_region ?_
      refine wpL_q (U := NoB) rfl (q_move (v := I (n)) rfl a34_1) ?_
      refine wpL_q (U := NoB) rfl (q_add rfl rfl rfl (by constructor <;> omega)) ?_
      refine wpL_q (U := NoB) rfl (q_fieldAddr rfl Try.underlying25 rfl Try.sizeOf3 a34_3) ?_
      refine wpL_q (U := NoB) rfl (q_loadBlk rfl rfl Try.isAgg3 (hS24.blk 1 rfl) rfl (fun h => h)) ?_
      refine wpL_q (U := NoB) rfl (q_mul rfl rfl rfl (by constructor <;> omega)) ?_
      refine wpL_q (U := NoB) rfl (q_move (v := I (n)) rfl a34_1) ?_
      refine wpL_q (U := NoB) rfl (q_fieldAddr rfl Try.underlying25 rfl Try.sizeOf23 a34_3) ?_
      refine wpL_q (U := NoB) rfl (q_loadBlk rfl rfl Try.isAgg23 (hS24.blk 1 rfl) rfl (fun h => h)) ?_
      refine wpL_q (U := NoB) rfl (q_lenRd rfl Try.underlying23 rfl (hS24.rdl 4 rfl)) ?_
      refine wpL_q (U := NoB) rfl (q_mul rfl rfl rfl (by constructor <;> omega)) ?_
      refine wpL_q (U := NoB) rfl (q_add rfl rfl rfl (by constructor <;> omega)) ?_
      refine wpL_q (U := NoB) rfl (q_assign (v := I (((n + 1) * q.Facts) + (n * (q.Acts.length : Int)))) rfl rfl) ?_
      exact ⟨a34_1, a34_2, a34_3, a34_7, rfl, rfl⟩
    rintro f37 _ ⟨a37_1, a37_2, a37_3, a37_7, a37_8, rfl⟩
    clear a34_1 a34_2 a34_3 a34_34 a34_7 a34_8
    refine wpF_seq ?_
    refine wpF_cut (fun f H => f 1 = I (n) ∧ f 2 = vh ∧ f 3 = PT g1 0 ∧ f 7 = PT g11 0 ∧ f 8 = I (((n + 1) * q.Facts) + (n * (q.Acts.length : Int))) ∧ f 47 = B (decide (120 < (((n + 1) * q.Facts) + (n * (q.Acts.length : Int))))) ∧ H24 = H) ?_ ?_
    · refine wpF_region ?_
      refine wpL_q (U := NoB) rfl (q_move (v := I (((n + 1) * q.Facts) + (n * (q.Acts.length : Int)))) rfl a37_8) ?_
      refine wpL_q (U := NoB) rfl (q_gtr rfl rfl rfl) ?_
      exact ⟨a37_1, a37_2, a37_3, a37_7, a37_8, rfl, rfl⟩
    rintro f38 _ ⟨a38_1, a38_2, a38_3, a38_7, a38_8, a38_47, rfl⟩
    clear a37_1 a37_2 a37_3 a37_7 a37_8
    refine wpF_cut (fun f H => ∃ (c3 : Int), ∃ (e3 : Int), (c3 = (chkF q n).1) ∧ (e3 = (chkF q n).2) ∧ f 1 = I (n) ∧ f 2 = vh ∧ f 3 = PT g1 0 ∧ f 7 = PT g11 0 ∧ f 8 = I (((n + 1) * q.Facts) + (n * (q.Acts.length : Int))) ∧ St H0 NoB NoB [blkE g11 (.cells #[I (c3), I (e3)] 27), blkE g1 (.cells #[I (q.Facts), vf, vg, va] 25), rdE vf q.First, rdE vg q.Goal, rdE va q.Acts, rdE vh holds] H) ?_ ?_
    · refine wpF_condP a38_47 (fun h47 => ?t47) (fun h47 => ?e47)
      case e47 =>
        refine wpF_skip ?_
        exact ⟨c1, e1, (h34.trans (chk_fine hq0 hn h47).1), (hez.trans (chk_fine hq0 hn h47).2), a38_1, a38_2, a38_3, a38_7, a38_8, hS24⟩
      refine wpF_cut (fun f H => f 1 = I (n) ∧ f 2 = vh ∧ f 3 = PT g1 0 ∧ f 7 = PT g11 0 ∧ f 8 = I (((n + 1) * q.Facts) + (n * (q.Acts.length : Int))) ∧ St H0 NoB NoB [blkE g11 (.cells #[I (10), I (0)] 27), blkE g1 (.cells #[I (q.Facts), vf, vg, va] 25), rdE vf q.First, rdE vg q.Goal, rdE va q.Acts, rdE vh holds] H) ?_ ?_
      · refine wpF_region ?_
        refine wpL_o rfl ?_
        refine e_call rfl Try.call15 (arr2 (v0 := I (10)) (v1 := I (0)) rfl rfl) (fault_L 10 0) ?_
        rintro _ H41 ⟨hxx, rfl⟩
        have hS42 : St H0 NoB NoB [blkE g11 (.cells #[I (c1), I (e1)] 27), blkE g1 (.cells #[I (q.Facts), vf, vg, va] 25), rdE vf q.First, rdE vg q.Goal, rdE va q.Acts, rdE vh holds] H41 := hS24.ext hxx
        refine wpL_o rfl ?_
        refine e_storeBlkA (cs' := #[I (10), I (0)]) rfl a38_7 rfl Try.sizeOf27 rfl rfl (List.forall_mem_cons.2 ⟨rfl, List.forall_mem_cons.2 ⟨rfl, List.forall_mem_nil _⟩⟩) hS42 (fun H44 hS45 hxx => ?_)
        replace hS45 : St H0 NoB NoB [blkE g11 (.cells #[I (10), I (0)] 27), blkE g1 (.cells #[I (q.Facts), vf, vg, va] 25), rdE vf q.First, rdE vg q.Goal, rdE va q.Acts, rdE vh holds] H44 := hS45
        exact ⟨a38_1, a38_2, a38_3, a38_7, a38_8, hS45⟩
      rintro f46 H46 ⟨a46_1, a46_2, a46_3, a46_7, a46_8, hS46⟩
      clear a38_1 a38_2 a38_3 a38_47 a38_7 a38_8
      exact ⟨(10 : Int), (0 : Int), (chk_much hq0 hn h47).1, (chk_much hq0 hn h47).2, a46_1, a46_2, a46_3, a46_7, a46_8, (show St H0 NoB NoB [blkE g11 (.cells #[I ((10 : Int)), I ((0 : Int))] 27), blkE g1 (.cells #[I (q.Facts), vf, vg, va] 25), rdE vf q.First, rdE vg q.Goal, rdE va q.Acts, rdE vh holds] H46 from hS46)⟩
    rintro f39 H39 ⟨c3, e3, hc3, he3, a39_1, a39_2, a39_3, a39_7, a39_8, hS39⟩
    clear a38_1 a38_2 a38_3 a38_47 a38_7 a38_8
    exact ⟨c3, e3, ((n + 1) * q.Facts) + (n * (q.Acts.length : Int)), hc3, he3, (fun _ => rfl), a39_1, a39_2, a39_3, a39_7, (Eq.trans a39_8 (congrArg I (by omega))), hS39⟩
  rintro f35 H35 ⟨c2, e2, vv, hc2, he2, hv2, a35_1, a35_2, a35_3, a35_7, a35_8, hS35⟩
  clear a34_1 a34_2 a34_3 a34_34 a34_7 a34_8
  refine wpF_seq ?_
  refine wpF_cut (fun f H => ∃ (r49 : Value), ∃ (g53 : Nat), ∃ (g56 : Nat), f 1 = I (n) ∧ f 2 = vh ∧ f 3 = PT g1 0 ∧ f 7 = PT g11 0 ∧ f 8 = I (vv) ∧ f 9 = PT g53 0 ∧ f 10 = PT g56 0 ∧ St H0 NoB NoB [blkE g56 (.cells #[I ((doF q n).1), I ((doF q n).2)] 27), blkE g53 (.cells #[I ((doV q n)), r49] 58), rdE r49 (doC q n), blkE g11 (.cells #[I (c2), I (e2)] 27), blkE g1 (.cells #[I (q.Facts), vf, vg, va] 25), rdE vf q.First, rdE vg q.Goal, rdE va q.Acts, rdE vh holds] H) ?_ ?_
  · refine wpF_region ?_
    refine wpL_q (U := NoB) rfl (q_loadBlkA rfl a35_3 Try.isAgg25 Try.sizeOf25 rfl (hS35.blk 1 rfl) (fun h => h)) ?_
    refine wpL_q (U := NoB) rfl (q_move (v := I (n)) rfl a35_1) ?_
    refine wpL_o rfl ?_
    refine e_call rfl Try.call32 (arr2 (v0 := Value.agg #[I (q.Facts), vf, vg, va]) (v1 := I (n)) rfl rfl) (Do_E vf vg va q n (by first | assumption | (constructor <;> omega)) (hS35.rdS 2 rfl) (hS35.rdS 3 rfl) (hS35.rdS 4 rfl) hni) ?_
    rintro _ H50 ⟨hxx, r49, rfl, hrr49⟩
    have hS51 : St H0 NoB NoB [rdE r49 (doC q n), blkE g11 (.cells #[I (c2), I (e2)] 27), blkE g1 (.cells #[I (q.Facts), vf, vg, va] 25), rdE vf q.First, rdE vg q.Goal, rdE va q.Acts, rdE vh holds] H50 := (hS35.res hxx hrr49)
    refine wpL_q (U := NoB) rfl (q_move (v := Value.tuple #[Value.agg #[I ((doV q n)), r49], Value.agg #[I ((doF q n).1), I ((doF q n).2)]]) rfl rfl) ?_
    refine wpL_q (U := NoB) rfl (q_extract (vs := #[Value.agg #[I ((doV q n)), r49], Value.agg #[I ((doF q n).1), I ((doF q n).2)]]) (v := Value.agg #[I ((doV q n)), r49]) rfl rfl rfl) ?_
    refine wpL_q (U := NoB) rfl (q_extract (vs := #[Value.agg #[I ((doV q n)), r49], Value.agg #[I ((doF q n).1), I ((doF q n).2)]]) (v := Value.agg #[I ((doF q n).1), I ((doF q n).2)]) rfl rfl rfl) ?_
    refine wpL_o rfl ?_
    refine e_alloc rfl Try.zeroValue58 hS51 (fun g53 H54 hS55 hxx => ?_)
    replace hS55 : St H0 NoB NoB [blkE g53 (.cells #[I (0), (Value.slice none 0 0)] 58), rdE r49 (doC q n), blkE g11 (.cells #[I (c2), I (e2)] 27), blkE g1 (.cells #[I (q.Facts), vf, vg, va] 25), rdE vf q.First, rdE vg q.Goal, rdE va q.Acts, rdE vh holds] H54 := hS55
    refine wpL_o rfl ?_
    refine e_alloc rfl Try.zeroValue27 hS55 (fun g56 H57 hS58 hxx => ?_)
    replace hS58 : St H0 NoB NoB [blkE g56 (.cells #[I (0), I (0)] 27), blkE g53 (.cells #[I (0), (Value.slice none 0 0)] 58), rdE r49 (doC q n), blkE g11 (.cells #[I (c2), I (e2)] 27), blkE g1 (.cells #[I (q.Facts), vf, vg, va] 25), rdE vf q.First, rdE vg q.Goal, rdE va q.Acts, rdE vh holds] H57 := hS58
    refine wpL_o rfl ?_
    refine e_storeBlkA (cs' := #[I ((doV q n)), r49]) rfl rfl rfl Try.sizeOf58 rfl rfl (List.forall_mem_cons.2 ⟨rfl, List.forall_mem_cons.2 ⟨(oneCell_rdL (hS58.rdl 2 rfl)), List.forall_mem_nil _⟩⟩) (hS58.front 1 rfl) (fun H59 hS60 hxx => ?_)
    replace hS60 : St H0 NoB NoB [blkE g53 (.cells #[I ((doV q n)), r49] 58), blkE g56 (.cells #[I (0), I (0)] 27), rdE r49 (doC q n), blkE g11 (.cells #[I (c2), I (e2)] 27), blkE g1 (.cells #[I (q.Facts), vf, vg, va] 25), rdE vf q.First, rdE vg q.Goal, rdE va q.Acts, rdE vh holds] H59 := hS60
    refine wpL_o rfl ?_
    refine e_storeBlkA (cs' := #[I ((doF q n).1), I ((doF q n).2)]) rfl rfl rfl Try.sizeOf27 rfl rfl (List.forall_mem_cons.2 ⟨rfl, List.forall_mem_cons.2 ⟨rfl, List.forall_mem_nil _⟩⟩) (hS60.front 1 rfl) (fun H61 hS62 hxx => ?_)
    replace hS62 : St H0 NoB NoB [blkE g56 (.cells #[I ((doF q n).1), I ((doF q n).2)] 27), blkE g53 (.cells #[I ((doV q n)), r49] 58), rdE r49 (doC q n), blkE g11 (.cells #[I (c2), I (e2)] 27), blkE g1 (.cells #[I (q.Facts), vf, vg, va] 25), rdE vf q.First, rdE vg q.Goal, rdE va q.Acts, rdE vh holds] H61 := hS62
    exact ⟨r49, g53, g56, a35_1, a35_2, a35_3, a35_7, a35_8, rfl, rfl, hS62⟩
  rintro f63 H63 ⟨r49, g53, g56, a63_1, a63_2, a63_3, a63_7, a63_8, a63_9, a63_10, hS63⟩
  clear a35_1 a35_2 a35_3 a35_7 a35_8
  refine wpF_seq ?_
  refine wpF_cut (fun f H => ∃ (r64 : Value), ∃ (g68 : Nat), f 1 = I (n) ∧ f 2 = vh ∧ f 3 = PT g1 0 ∧ f 7 = PT g11 0 ∧ f 8 = I (vv) ∧ f 9 = PT g53 0 ∧ f 10 = PT g56 0 ∧ f 11 = r64 ∧ f 12 = PT g68 0 ∧ St H0 NoB NoB [blkE g68 (.cells #[I ((backF q n holds).1), I ((backF q n holds).2)] 27), rdE r64 (backP q n holds), blkE g56 (.cells #[I ((doF q n).1), I ((doF q n).2)] 27), blkE g53 (.cells #[I ((doV q n)), r49] 58), rdE r49 (doC q n), blkE g11 (.cells #[I (c2), I (e2)] 27), blkE g1 (.cells #[I (q.Facts), vf, vg, va] 25), rdE vf q.First, rdE vg q.Goal, rdE va q.Acts, rdE vh holds] H) ?_ ?_
  · refine wpF_region ?_
    refine wpL_q (U := NoB) rfl (q_loadBlkA rfl a63_3 Try.isAgg25 Try.sizeOf25 rfl (hS63.blk 4 rfl) (fun h => h)) ?_
    refine wpL_q (U := NoB) rfl (q_move (v := I (n)) rfl a63_1) ?_
    refine wpL_q (U := NoB) rfl (q_move (v := vh) rfl a63_2) ?_
    refine wpL_o rfl ?_
    refine e_call rfl Try.call33 (arr3 (v0 := Value.agg #[I (q.Facts), vf, vg, va]) (v1 := I (n)) (v2 := vh) rfl rfl rfl) (Back_E vf vg va vh q n holds (by first | assumption | (constructor <;> omega)) (hS63.rdS 5 rfl) (hS63.rdS 6 rfl) (hS63.rdS 7 rfl) (hS63.rdS 8 rfl) hni) ?_
    rintro _ H65 ⟨hxx, r64, rfl, hrr64⟩
    have hS66 : St H0 NoB NoB [rdE r64 (backP q n holds), blkE g56 (.cells #[I ((doF q n).1), I ((doF q n).2)] 27), blkE g53 (.cells #[I ((doV q n)), r49] 58), rdE r49 (doC q n), blkE g11 (.cells #[I (c2), I (e2)] 27), blkE g1 (.cells #[I (q.Facts), vf, vg, va] 25), rdE vf q.First, rdE vg q.Goal, rdE va q.Acts, rdE vh holds] H65 := (hS63.res hxx hrr64)
    refine wpL_q (U := NoB) rfl (q_move (v := Value.tuple #[r64, Value.agg #[I ((backF q n holds).1), I ((backF q n holds).2)]]) rfl rfl) ?_
    refine wpL_q (U := NoB) rfl (q_extract (vs := #[r64, Value.agg #[I ((backF q n holds).1), I ((backF q n holds).2)]]) (v := r64) rfl rfl rfl) ?_
    refine wpL_q (U := NoB) rfl (q_extract (vs := #[r64, Value.agg #[I ((backF q n holds).1), I ((backF q n holds).2)]]) (v := Value.agg #[I ((backF q n holds).1), I ((backF q n holds).2)]) rfl rfl rfl) ?_
    refine wpL_o rfl ?_
    refine e_alloc rfl Try.zeroValue27 hS66 (fun g68 H69 hS70 hxx => ?_)
    replace hS70 : St H0 NoB NoB [blkE g68 (.cells #[I (0), I (0)] 27), rdE r64 (backP q n holds), blkE g56 (.cells #[I ((doF q n).1), I ((doF q n).2)] 27), blkE g53 (.cells #[I ((doV q n)), r49] 58), rdE r49 (doC q n), blkE g11 (.cells #[I (c2), I (e2)] 27), blkE g1 (.cells #[I (q.Facts), vf, vg, va] 25), rdE vf q.First, rdE vg q.Goal, rdE va q.Acts, rdE vh holds] H69 := hS70
    refine wpL_q (U := NoB) rfl (q_assign (v := r64) rfl rfl) ?_
    refine wpL_o rfl ?_
    refine e_storeBlkA (cs' := #[I ((backF q n holds).1), I ((backF q n holds).2)]) rfl rfl rfl Try.sizeOf27 rfl rfl (List.forall_mem_cons.2 ⟨rfl, List.forall_mem_cons.2 ⟨rfl, List.forall_mem_nil _⟩⟩) hS70 (fun H71 hS72 hxx => ?_)
    replace hS72 : St H0 NoB NoB [blkE g68 (.cells #[I ((backF q n holds).1), I ((backF q n holds).2)] 27), rdE r64 (backP q n holds), blkE g56 (.cells #[I ((doF q n).1), I ((doF q n).2)] 27), blkE g53 (.cells #[I ((doV q n)), r49] 58), rdE r49 (doC q n), blkE g11 (.cells #[I (c2), I (e2)] 27), blkE g1 (.cells #[I (q.Facts), vf, vg, va] 25), rdE vf q.First, rdE vg q.Goal, rdE va q.Acts, rdE vh holds] H71 := hS72
    exact ⟨r64, g68, a63_1, a63_2, a63_3, a63_7, a63_8, a63_9, a63_10, rfl, rfl, hS72⟩
  rintro f73 H73 ⟨r64, g68, a73_1, a73_2, a73_3, a73_7, a73_8, a73_9, a73_10, a73_11, a73_12, hS73⟩
  clear a63_1 a63_10 a63_2 a63_3 a63_7 a63_8 a63_9
  refine wpF_seq ?_
  refine wpF_seq ?_
  refine wpF_cut (fun f H => f 1 = I (n) ∧ f 2 = vh ∧ f 3 = PT g1 0 ∧ f 7 = PT g11 0 ∧ f 8 = I (vv) ∧ f 9 = PT g53 0 ∧ f 10 = PT g56 0 ∧ f 11 = r64 ∧ f 12 = PT g68 0 ∧ f 64 = B (decide (c2 ≠ 0)) ∧ H73 = H) ?_ ?_
  · refine wpF_region ?_
    refine wpL_q (U := NoB) rfl (q_fieldAddr rfl Try.underlying27 rfl Try.sizeOf3 a73_7) ?_
    refine wpL_q (U := NoB) rfl (q_loadBlk rfl rfl Try.isAgg3 (hS73.blk 5 rfl) rfl (fun h => h)) ?_
    refine wpL_q (U := NoB) rfl (q_neq rfl rfl rfl) ?_
    exact ⟨a73_1, a73_2, a73_3, a73_7, a73_8, a73_9, a73_10, a73_11, a73_12, rfl, rfl⟩
  rintro f74 _ ⟨a74_1, a74_2, a74_3, a74_7, a74_8, a74_9, a74_10, a74_11, a74_12, a74_64, rfl⟩
  clear a73_1 a73_10 a73_11 a73_12 a73_2 a73_3 a73_7 a73_8 a73_9
  refine wpF_condP a74_64 (fun h64 => ?t218) (fun h64 => ?e218)
  case t218 =>
    have hcf : (chkF q n).1 ≠ 0 := by rw [← hc2]; exact h64
    refine wpF_seq ?_
    refine wpF_cut (fun f H => f 6 = B (decide (((((((doF q n).1) = c2 ∧ ((doF q n).2) = e2) ∧ (((backF q n holds).1) = c2 ∧ ((backF q n holds).2) = e2)) ∧ (((doC q n).length : Int) = 0)) ∧ ((doV q n) = 0)) ∧ (((backP q n holds).length : Int) = 0))) ∧ H73 = H) ?_ ?_
    · refine wpF_region ?_
      refine wpL_q (U := NoB) rfl (q_loadBlkA rfl a74_10 Try.isAgg27 Try.sizeOf27 rfl (hS73.blk 2 rfl) (fun h => h)) ?_
      refine wpL_q (U := NoB) rfl (q_loadBlkA rfl a74_7 Try.isAgg27 Try.sizeOf27 rfl (hS73.blk 5 rfl) (fun h => h)) ?_
      refine wpL_q (U := NoB) rfl (q_eqlF2 rfl Try.eqGuardType27 (fl27_StepsSays1 _ _ _ _) rfl rfl) ?_
      refine wpL_q (U := NoB) rfl (q_move (v := B (decide (((doF q n).1) = c2 ∧ ((doF q n).2) = e2))) rfl rfl) ?_
      by_cases hg76 : ((doF q n).1) = c2 ∧ ((doF q n).2) = e2
      · have hb77 := Eq.trans rfl (congrArg B (decide_eq_true hg76))
        refine wpL_gq (U := NoB) rfl rfl rfl hb77 (q_loadBlkA rfl a74_12 Try.isAgg27 Try.sizeOf27 rfl (hS73.blk 0 rfl) (fun h => h)) ?_
        refine wpL_gq (U := NoB) rfl rfl rfl hb77 (q_loadBlkA rfl a74_7 Try.isAgg27 Try.sizeOf27 rfl (hS73.blk 5 rfl) (fun h => h)) ?_
        refine wpL_gq (U := NoB) rfl rfl rfl hb77 (q_eqlF2 rfl Try.eqGuardType27 (fl27_StepsSays1 _ _ _ _) rfl rfl) ?_
        refine wpL_q (U := NoB) rfl (q_pickT (v := B (decide (((backF q n holds).1) = c2 ∧ ((backF q n holds).2) = e2))) rfl hb77 rfl) ?_
        refine wpL_q (U := NoB) rfl (q_move (v := B (decide (((backF q n holds).1) = c2 ∧ ((backF q n holds).2) = e2))) rfl rfl) ?_
        by_cases hg79 : ((backF q n holds).1) = c2 ∧ ((backF q n holds).2) = e2
        · have hb80 := Eq.trans rfl (congrArg B (decide_eq_true hg79))
          refine wpL_gq (U := NoB) rfl rfl rfl hb80 (q_fieldAddr rfl Try.underlying58 rfl Try.sizeOf56 a74_9) ?_
          refine wpL_gq (U := NoB) rfl rfl rfl hb80 (q_loadBlk rfl rfl Try.isAgg56 (hS73.blk 3 rfl) rfl (fun h => h)) ?_
          refine wpL_gq (U := NoB) rfl rfl rfl hb80 (q_lenRd rfl Try.underlying56 rfl (hS73.rdl 4 rfl)) ?_
          refine wpL_gq (U := NoB) rfl rfl rfl hb80 (q_eql rfl rfl rfl) ?_
          refine wpL_q (U := NoB) rfl (q_pickT (v := B (decide (((doC q n).length : Int) = 0))) rfl hb80 rfl) ?_
          refine wpL_q (U := NoB) rfl (q_move (v := B (decide (((doC q n).length : Int) = 0))) rfl rfl) ?_
          by_cases hg82 : ((doC q n).length : Int) = 0
          · have hb83 := Eq.trans rfl (congrArg B (decide_eq_true hg82))
            refine wpL_gq (U := NoB) rfl rfl rfl hb83 (q_fieldAddr rfl Try.underlying58 rfl Try.sizeOf3 a74_9) ?_
            refine wpL_gq (U := NoB) rfl rfl rfl hb83 (q_loadBlk rfl rfl Try.isAgg3 (hS73.blk 3 rfl) rfl (fun h => h)) ?_
            refine wpL_gq (U := NoB) rfl rfl rfl hb83 (q_eql rfl rfl rfl) ?_
            refine wpL_q (U := NoB) rfl (q_pickT (v := B (decide ((doV q n) = 0))) rfl hb83 rfl) ?_
            refine wpL_q (U := NoB) rfl (q_move (v := B (decide ((doV q n) = 0))) rfl rfl) ?_
            by_cases hg85 : (doV q n) = 0
            · have hb86 := Eq.trans rfl (congrArg B (decide_eq_true hg85))
              refine wpL_gq (U := NoB) rfl rfl rfl hb86 (q_move (v := r64) rfl a74_11) ?_
              refine wpL_gq (U := NoB) rfl rfl rfl hb86 (q_lenRd rfl Try.underlying22 rfl (hS73.rdl 1 rfl)) ?_
              refine wpL_gq (U := NoB) rfl rfl rfl hb86 (q_eql rfl rfl rfl) ?_
              refine wpL_q (U := NoB) rfl (q_pickT (v := B (decide (((backP q n holds).length : Int) = 0))) rfl hb86 rfl) ?_
              refine wpL_q (U := NoB) rfl (q_assign (v := B (decide (((backP q n holds).length : Int) = 0))) rfl rfl) ?_
              exact ⟨(Eq.trans rfl (congrArg B (decide_congr_of ((Iff.rfl).trans (((and_iff_right ⟨⟨⟨hg76, hg79⟩, hg82⟩, hg85⟩).trans Iff.rfl)).symm)))), rfl⟩
            · have hb87 := Eq.trans rfl (congrArg B (decide_eq_false hg85))
              refine wpL_gs rfl rfl rfl hb87 rfl ?_
              refine wpL_gs rfl rfl rfl hb87 rfl ?_
              refine wpL_gs rfl rfl rfl hb87 rfl ?_
              refine wpL_q (U := NoB) rfl (q_pickF (v := B (false)) rfl hb87 rfl) ?_
              refine wpL_q (U := NoB) rfl (q_assign (v := B (false)) rfl rfl) ?_
              exact ⟨(Eq.trans rfl (congrArg B ((decide_eq_false (fun h => (fun h => hg85 h.2) h.1)).symm))), rfl⟩
          · have hb84 := Eq.trans rfl (congrArg B (decide_eq_false hg82))
            refine wpL_gs rfl rfl rfl hb84 rfl ?_
            refine wpL_gs rfl rfl rfl hb84 rfl ?_
            refine wpL_gs rfl rfl rfl hb84 rfl ?_
            refine wpL_q (U := NoB) rfl (q_pickF (v := B (false)) rfl hb84 rfl) ?_
            refine wpL_q (U := NoB) rfl (q_move (v := B (false)) rfl rfl) ?_
            refine wpL_gs rfl rfl rfl rfl rfl ?_
            refine wpL_gs rfl rfl rfl rfl rfl ?_
            refine wpL_gs rfl rfl rfl rfl rfl ?_
            refine wpL_q (U := NoB) rfl (q_pickF (v := B (false)) rfl rfl rfl) ?_
            refine wpL_q (U := NoB) rfl (q_assign (v := B (false)) rfl rfl) ?_
            exact ⟨(Eq.trans rfl (congrArg B ((decide_eq_false (fun h => (fun h => (fun h => hg82 h.2) h.1) h.1)).symm))), rfl⟩
        · have hb81 := Eq.trans rfl (congrArg B (decide_eq_false hg79))
          refine wpL_gs rfl rfl rfl hb81 rfl ?_
          refine wpL_gs rfl rfl rfl hb81 rfl ?_
          refine wpL_gs rfl rfl rfl hb81 rfl ?_
          refine wpL_gs rfl rfl rfl hb81 rfl ?_
          refine wpL_q (U := NoB) rfl (q_pickF (v := B (false)) rfl hb81 rfl) ?_
          refine wpL_q (U := NoB) rfl (q_move (v := B (false)) rfl rfl) ?_
          refine wpL_gs rfl rfl rfl rfl rfl ?_
          refine wpL_gs rfl rfl rfl rfl rfl ?_
          refine wpL_gs rfl rfl rfl rfl rfl ?_
          refine wpL_q (U := NoB) rfl (q_pickF (v := B (false)) rfl rfl rfl) ?_
          refine wpL_q (U := NoB) rfl (q_move (v := B (false)) rfl rfl) ?_
          refine wpL_gs rfl rfl rfl rfl rfl ?_
          refine wpL_gs rfl rfl rfl rfl rfl ?_
          refine wpL_gs rfl rfl rfl rfl rfl ?_
          refine wpL_q (U := NoB) rfl (q_pickF (v := B (false)) rfl rfl rfl) ?_
          refine wpL_q (U := NoB) rfl (q_assign (v := B (false)) rfl rfl) ?_
          exact ⟨(Eq.trans rfl (congrArg B ((decide_eq_false (fun h => (fun h => (fun h => (fun h => hg79 h.2) h.1) h.1) h.1)).symm))), rfl⟩
      · have hb78 := Eq.trans rfl (congrArg B (decide_eq_false hg76))
        refine wpL_gs rfl rfl rfl hb78 rfl ?_
        refine wpL_gs rfl rfl rfl hb78 rfl ?_
        refine wpL_gs rfl rfl rfl hb78 rfl ?_
        refine wpL_q (U := NoB) rfl (q_pickF (v := B (false)) rfl hb78 rfl) ?_
        refine wpL_q (U := NoB) rfl (q_move (v := B (false)) rfl rfl) ?_
        refine wpL_gs rfl rfl rfl rfl rfl ?_
        refine wpL_gs rfl rfl rfl rfl rfl ?_
        refine wpL_gs rfl rfl rfl rfl rfl ?_
        refine wpL_gs rfl rfl rfl rfl rfl ?_
        refine wpL_q (U := NoB) rfl (q_pickF (v := B (false)) rfl rfl rfl) ?_
        refine wpL_q (U := NoB) rfl (q_move (v := B (false)) rfl rfl) ?_
        refine wpL_gs rfl rfl rfl rfl rfl ?_
        refine wpL_gs rfl rfl rfl rfl rfl ?_
        refine wpL_gs rfl rfl rfl rfl rfl ?_
        refine wpL_q (U := NoB) rfl (q_pickF (v := B (false)) rfl rfl rfl) ?_
        refine wpL_q (U := NoB) rfl (q_move (v := B (false)) rfl rfl) ?_
        refine wpL_gs rfl rfl rfl rfl rfl ?_
        refine wpL_gs rfl rfl rfl rfl rfl ?_
        refine wpL_gs rfl rfl rfl rfl rfl ?_
        refine wpL_q (U := NoB) rfl (q_pickF (v := B (false)) rfl rfl rfl) ?_
        refine wpL_q (U := NoB) rfl (q_assign (v := B (false)) rfl rfl) ?_
        exact ⟨(Eq.trans rfl (congrArg B ((decide_eq_false (fun h => (fun h => (fun h => (fun h => hg76 h.1) h.1) h.1) h.1)).symm))), rfl⟩
    rintro f88 _ ⟨a88_6, rfl⟩
    clear a74_1 a74_10 a74_11 a74_12 a74_2 a74_3 a74_64 a74_7 a74_8 a74_9
    refine wpF_ret ?_
    refine ⟨_, resT a88_6 resN, hS73.frame, ?_⟩
    show (B (decide (((((((doF q n).1) = c2 ∧ ((doF q n).2) = e2) ∧ (((backF q n holds).1) = c2 ∧ ((backF q n holds).2) = e2)) ∧ (((doC q n).length : Int) = 0)) ∧ ((doV q n) = 0)) ∧ (((backP q n holds).length : Int) = 0)))) = B true
    obtain ⟨d1, d2, d3⟩ := doF_chk hcf
    obtain ⟨b1, b2⟩ := backF_1 (holds := holds) hcf
    exact congrArg B (decide_eq_true (by rw [d1, d2, d3, b1, b2, hc2, he2]; simp))
  have hcf : ¬ (chkF q n).1 ≠ 0 := by rw [← hc2]; exact h64
  obtain ⟨hcz, hQ, hqz, hn, hv120⟩ := chkF_zero (Decidable.of_not_not hcf)
  have hvv := hv2 (Decidable.of_not_not hcf)
  have hvr := vars_rng hQ hn
  have hfx := hQ.facts
  have hmy := hQ.many
  refine wpF_skip ?_
  refine wpF_seq ?_
  refine wpF_cut (fun f H => ∃ (r89 : Value), f 1 = I (n) ∧ f 2 = vh ∧ f 3 = PT g1 0 ∧ f 8 = I (vv) ∧ f 9 = PT g53 0 ∧ f 10 = PT g56 0 ∧ f 11 = r64 ∧ f 12 = PT g68 0 ∧ f 13 = r89 ∧ St H0 NoB NoB [rdE r89 (clausesQ q n), blkE g68 (.cells #[I ((backF q n holds).1), I ((backF q n holds).2)] 27), rdE r64 (backP q n holds), blkE g56 (.cells #[I ((doF q n).1), I ((doF q n).2)] 27), blkE g53 (.cells #[I ((doV q n)), r49] 58), rdE r49 (doC q n), blkE g11 (.cells #[I (c2), I (e2)] 27), blkE g1 (.cells #[I (q.Facts), vf, vg, va] 25), rdE vf q.First, rdE vg q.Goal, rdE va q.Acts, rdE vh holds] H) ?_ ?_
  · refine wpF_region ?_
    refine wpL_q (U := NoB) rfl (q_loadBlkA rfl a74_3 Try.isAgg25 Try.sizeOf25 rfl (hS73.blk 6 rfl) (fun h => h)) ?_
    refine wpL_q (U := NoB) rfl (q_move (v := I (n)) rfl a74_1) ?_
    refine wpL_o rfl ?_
    refine e_call rfl Try.call34 (arr2 (v0 := Value.agg #[I (q.Facts), vf, vg, va]) (v1 := I (n)) rfl rfl) (Clauses_R vf vg va q n (by first | assumption | (constructor <;> omega)) (hS73.rdS 7 rfl) (hS73.rdS 8 rfl) (hS73.rdS 9 rfl) hQ hn) ?_
    rintro r89 H90 ⟨hxx, hrr89⟩
    have hS91 : St H0 NoB NoB [rdE r89 (clausesQ q n), blkE g68 (.cells #[I ((backF q n holds).1), I ((backF q n holds).2)] 27), rdE r64 (backP q n holds), blkE g56 (.cells #[I ((doF q n).1), I ((doF q n).2)] 27), blkE g53 (.cells #[I ((doV q n)), r49] 58), rdE r49 (doC q n), blkE g11 (.cells #[I (c2), I (e2)] 27), blkE g1 (.cells #[I (q.Facts), vf, vg, va] 25), rdE vf q.First, rdE vg q.Goal, rdE va q.Acts, rdE vh holds] H90 := hS73.res hxx hrr89
    refine wpL_q (U := NoB) rfl (q_assign (v := r89) rfl rfl) ?_
    exact ⟨r89, a74_1, a74_2, a74_3, a74_8, a74_9, a74_10, a74_11, a74_12, rfl, hS91⟩
  rintro f93 H93 ⟨r89, a93_1, a93_2, a93_3, a93_8, a93_9, a93_10, a93_11, a93_12, a93_13, hS93⟩
  clear a74_1 a74_10 a74_11 a74_12 a74_2 a74_3 a74_64 a74_7 a74_8 a74_9
  refine wpF_seq ?_
  refine wpF_seq ?_
  refine wpF_cut (fun f H => f 1 = I (n) ∧ f 2 = vh ∧ f 3 = PT g1 0 ∧ f 8 = I (vv) ∧ f 9 = PT g53 0 ∧ f 10 = PT g56 0 ∧ f 11 = r64 ∧ f 12 = PT g68 0 ∧ f 13 = r89 ∧ f 94 = B (decide (400 < ((clausesQ q n).length : Int))) ∧ H93 = H) ?_ ?_
  · refine wpF_region ?_
    refine wpL_q (U := NoB) rfl (q_move (v := r89) rfl a93_13) ?_
    refine wpL_q (U := NoB) rfl (q_lenRd rfl Try.underlying56 rfl (hS93.rdl 0 rfl)) ?_
    refine wpL_q (U := NoB) rfl (q_gtr rfl rfl rfl) ?_
    exact ⟨a93_1, a93_2, a93_3, a93_8, a93_9, a93_10, a93_11, a93_12, a93_13, rfl, rfl⟩
  rintro f94 _ ⟨a94_1, a94_2, a94_3, a94_8, a94_9, a94_10, a94_11, a94_12, a94_13, a94_94, rfl⟩
  clear a93_1 a93_10 a93_11 a93_12 a93_13 a93_2 a93_3 a93_8 a93_9
  refine wpF_condP a94_94 (fun h94 => ?t217) (fun h94 => ?e217)
  case t217 =>
    refine wpF_seq ?_
    refine wpF_cut (fun f H => f 1 = I (n) ∧ f 2 = vh ∧ f 3 = PT g1 0 ∧ f 8 = I (vv) ∧ f 11 = r64 ∧ f 12 = PT g68 0 ∧ f 103 = B (decide ((¬ (((doF q n).1) = 10 ∧ ((doF q n).2) = 0)) ∨ (0 < ((doC q n).length : Int)))) ∧ St H0 NoB NoB [blkE g68 (.cells #[I ((backF q n holds).1), I ((backF q n holds).2)] 27), rdE r64 (backP q n holds), blkE g56 (.cells #[I ((doF q n).1), I ((doF q n).2)] 27), blkE g53 (.cells #[I ((doV q n)), r49] 58), rdE r49 (doC q n), blkE g11 (.cells #[I (c2), I (e2)] 27), blkE g1 (.cells #[I (q.Facts), vf, vg, va] 25), rdE vf q.First, rdE vg q.Goal, rdE va q.Acts, rdE vh holds] H) ?_ ?_
    · refine wpF_drawn [] [] (fun _ _ => False) (by kernel_rfl) (by kernel_rfl) ?_
      refine wpR_q 0 (by kernel_rfl) rfl (quietAt rfl rfl (q_loadBlkA rfl a94_10 Try.isAgg27 Try.sizeOf27 rfl (hS93.blk 3 rfl) (labU_not [] rfl (List.forall_mem_nil _)))) ?_
      refine wpR_n [1] (by kernel_rfl) ?_
      refine List.forall_mem_cons.2 ⟨?_, List.forall_mem_nil _⟩
      refine exE rfl rfl ?_
      refine e_call rfl Try.call15 (arr2 (v0 := I (10)) (v1 := I (0)) rfl rfl) (fault_L 10 0) ?_
      rintro _ H96o1 ⟨hxx, rfl⟩
      have hS96o1 : St H0 NoB NoB [rdE r89 (clausesQ q n), blkE g68 (.cells #[I ((backF q n holds).1), I ((backF q n holds).2)] 27), rdE r64 (backP q n holds), blkE g56 (.cells #[I ((doF q n).1), I ((doF q n).2)] 27), blkE g53 (.cells #[I ((doV q n)), r49] 58), rdE r49 (doC q n), blkE g11 (.cells #[I (c2), I (e2)] 27), blkE g1 (.cells #[I (q.Facts), vf, vg, va] 25), rdE vf q.First, rdE vg q.Goal, rdE va q.Acts, rdE vh holds] H96o1 := hS93.ext hxx
      refine ⟨Ext.mono hxx (fun _ h => h.elim), ?_⟩
      refine wpR_q 2 (by kernel_rfl) rfl (quietAt rfl rfl (q_neqF2 rfl Try.eqGuardType27 (fl27_StepsSays1 _ _ _ _) rfl rfl)) ?_
      refine wpR_q 3 (by kernel_rfl) rfl (quietAt rfl rfl (q_move (v := B (decide (¬ (((doF q n).1) = 10 ∧ ((doF q n).2) = 0)))) rfl rfl)) ?_
      by_cases hg97 : ¬ (((doF q n).1) = 10 ∧ ((doF q n).2) = 0)
      · have hb98 := Eq.trans rfl (congrArg B (decide_eq_true hg97))
        refine wpR_q 4 (by kernel_rfl) rfl (quietAt_s rfl rfl rfl rfl hb98 rfl) ?_
        refine wpR_q 5 (by kernel_rfl) rfl (quietAt_s rfl rfl rfl rfl hb98 rfl) ?_
        refine wpR_q 6 (by kernel_rfl) rfl (quietAt_s rfl rfl rfl rfl hb98 rfl) ?_
        refine wpR_q 7 (by kernel_rfl) rfl (quietAt_s rfl rfl rfl rfl hb98 rfl) ?_
        refine wpR_q 8 (by kernel_rfl) rfl (quietAt rfl rfl (q_pickT (v := B (true)) rfl hb98 rfl)) ?_
        refine wpR_end (by kernel_rfl) ?_
        exact ⟨a94_1, a94_2, a94_3, a94_8, a94_11, a94_12, (Eq.trans rfl (congrArg B ((decide_eq_true (Or.inl hg97)).symm))), (hS96o1.drop (sn (sk (sk (sk (sk (sk (sk (sk (sk (sk (sk (sk (List.Sublist.slnil))))))))))))))⟩
      · have hb99 := Eq.trans rfl (congrArg B (decide_eq_false hg97))
        refine wpR_q 4 (by kernel_rfl) rfl (quietAt_g rfl rfl rfl rfl hb99 (q_fieldAddr rfl Try.underlying58 rfl Try.sizeOf56 a94_9)) ?_
        refine wpR_q 5 (by kernel_rfl) rfl (quietAt_g rfl rfl rfl rfl hb99 (q_loadBlk rfl rfl Try.isAgg56 (hS96o1.blk 4 rfl) rfl (labU_not [] rfl (List.forall_mem_nil _)))) ?_
        refine wpR_q 6 (by kernel_rfl) rfl (quietAt_g rfl rfl rfl rfl hb99 (q_lenRd rfl Try.underlying56 rfl (hS96o1.rdl 5 rfl))) ?_
        refine wpR_q 7 (by kernel_rfl) rfl (quietAt_g rfl rfl rfl rfl hb99 (q_gtr rfl rfl rfl)) ?_
        refine wpR_q 8 (by kernel_rfl) rfl (quietAt rfl rfl (q_pickF (v := B (decide (0 < ((doC q n).length : Int)))) rfl hb99 rfl)) ?_
        refine wpR_end (by kernel_rfl) ?_
        exact ⟨a94_1, a94_2, a94_3, a94_8, a94_11, a94_12, (Eq.trans rfl (congrArg B (decide_congr_of ((Iff.rfl).trans (((or_iff_right hg97).trans Iff.rfl)).symm)))), (hS96o1.drop (sn (sk (sk (sk (sk (sk (sk (sk (sk (sk (sk (sk (List.Sublist.slnil))))))))))))))⟩
    rintro f100 H100 ⟨a100_1, a100_2, a100_3, a100_8, a100_11, a100_12, a100_103, hS100⟩
    clear a94_1 a94_10 a94_11 a94_12 a94_13 a94_2 a94_3 a94_8 a94_9 a94_94
    refine wpF_condP a100_103 (fun h103 => ?t153) (fun h103 => ?e153)
    case t153 =>
      refine wpF_seq ?_
      refine wpF_cut (fun f H => f 6 = B (false) ∧ H100 = H) ?_ ?_
      · refine wpF_region ?_
        refine wpL_q (U := NoB) rfl (q_assign (v := B (false)) rfl rfl) ?_
        exact ⟨rfl, rfl⟩
      rintro f102 _ ⟨a102_6, rfl⟩
      clear a100_1 a100_103 a100_11 a100_12 a100_2 a100_3 a100_8
      refine wpF_ret ?_
      refine ⟨_, resT a102_6 resN, hS100.frame, ?_⟩
      show (B (false)) = B true
      exfalso
      obtain ⟨d1, d2, d3⟩ := doF_much hcf h94
      rw [d1, d3] at h103
      simp at h103
    refine wpF_skip ?_
    refine wpF_seq ?_
    refine wpF_seq ?_
    refine wpF_cut (fun f H => f 1 = I (n) ∧ f 2 = vh ∧ f 3 = PT g1 0 ∧ f 11 = r64 ∧ f 12 = PT g68 0 ∧ f 123 = B (decide ((holds.length : Int) ≠ vv)) ∧ H100 = H) ?_ ?_
    · refine wpF_region ?_
      refine wpL_q (U := NoB) rfl (q_move (v := vh) rfl a100_2) ?_
      refine wpL_q (U := NoB) rfl (q_lenRd rfl Try.underlying29 rfl (hS100.rdl 10 rfl)) ?_
      refine wpL_q (U := NoB) rfl (q_move (v := I (vv)) rfl a100_8) ?_
      refine wpL_q (U := NoB) rfl (q_neq rfl rfl rfl) ?_
      exact ⟨a100_1, a100_2, a100_3, a100_11, a100_12, rfl, rfl⟩
    rintro f103 _ ⟨a103_1, a103_2, a103_3, a103_11, a103_12, a103_123, rfl⟩
    clear a100_1 a100_103 a100_11 a100_12 a100_2 a100_3 a100_8
    refine wpF_condP a103_123 (fun h123 => ?t152) (fun h123 => ?e152)
    case t152 =>
      refine wpF_seq ?_
      refine wpF_cut (fun f H => f 6 = B (decide ((((backF q n holds).1) = 9 ∧ ((backF q n holds).2) = (-3)) ∧ (((backP q n holds).length : Int) = 0))) ∧ St H0 NoB NoB [blkE g68 (.cells #[I ((backF q n holds).1), I ((backF q n holds).2)] 27), blkE g56 (.cells #[I ((doF q n).1), I ((doF q n).2)] 27), blkE g53 (.cells #[I ((doV q n)), r49] 58), rdE r49 (doC q n), blkE g11 (.cells #[I (c2), I (e2)] 27), blkE g1 (.cells #[I (q.Facts), vf, vg, va] 25), rdE vf q.First, rdE vg q.Goal, rdE va q.Acts, rdE vh holds] H) ?_ ?_
      · refine wpF_drawn [] [] (fun _ _ => False) (by kernel_rfl) (by kernel_rfl) ?_
        refine wpR_q 0 (by kernel_rfl) rfl (quietAt rfl rfl (q_loadBlkA rfl a103_12 Try.isAgg27 Try.sizeOf27 rfl (hS100.blk 0 rfl) (labU_not [] rfl (List.forall_mem_nil _)))) ?_
        refine wpR_n [1] (by kernel_rfl) ?_
        refine List.forall_mem_cons.2 ⟨?_, List.forall_mem_nil _⟩
        refine exE rfl rfl ?_
        refine e_call rfl Try.call15 (arr2 (v0 := I (9)) (v1 := I (-3)) rfl rfl) (fault_L 9 (-3)) ?_
        rintro _ H105o1 ⟨hxx, rfl⟩
        have hS105o1 : St H0 NoB NoB [blkE g68 (.cells #[I ((backF q n holds).1), I ((backF q n holds).2)] 27), rdE r64 (backP q n holds), blkE g56 (.cells #[I ((doF q n).1), I ((doF q n).2)] 27), blkE g53 (.cells #[I ((doV q n)), r49] 58), rdE r49 (doC q n), blkE g11 (.cells #[I (c2), I (e2)] 27), blkE g1 (.cells #[I (q.Facts), vf, vg, va] 25), rdE vf q.First, rdE vg q.Goal, rdE va q.Acts, rdE vh holds] H105o1 := hS100.ext hxx
        refine ⟨Ext.mono hxx (fun _ h => h.elim), ?_⟩
        refine wpR_q 2 (by kernel_rfl) rfl (quietAt rfl rfl (q_eqlF2 rfl Try.eqGuardType27 (fl27_StepsSays1 _ _ _ _) rfl rfl)) ?_
        refine wpR_q 3 (by kernel_rfl) rfl (quietAt rfl rfl (q_move (v := B (decide (((backF q n holds).1) = 9 ∧ ((backF q n holds).2) = (-3)))) rfl rfl)) ?_
        by_cases hg106 : ((backF q n holds).1) = 9 ∧ ((backF q n holds).2) = (-3)
        · have hb107 := Eq.trans rfl (congrArg B (decide_eq_true hg106))
          refine wpR_q 4 (by kernel_rfl) rfl (quietAt_g rfl rfl rfl rfl hb107 (q_move (v := r64) rfl a103_11)) ?_
          refine wpR_q 5 (by kernel_rfl) rfl (quietAt_g rfl rfl rfl rfl hb107 (q_lenRd rfl Try.underlying22 rfl (hS105o1.rdl 1 rfl))) ?_
          refine wpR_q 6 (by kernel_rfl) rfl (quietAt_g rfl rfl rfl rfl hb107 (q_eql rfl rfl rfl)) ?_
          refine wpR_q 7 (by kernel_rfl) rfl (quietAt rfl rfl (q_pickT (v := B (decide (((backP q n holds).length : Int) = 0))) rfl hb107 rfl)) ?_
          refine wpR_q 8 (by kernel_rfl) rfl (quietAt rfl rfl (q_assign (v := B (decide (((backP q n holds).length : Int) = 0))) rfl rfl)) ?_
          refine wpR_end (by kernel_rfl) ?_
          exact ⟨(Eq.trans rfl (congrArg B (decide_congr_of ((Iff.rfl).trans (((and_iff_right hg106).trans Iff.rfl)).symm)))), (hS105o1.drop (sk (sn (sk (sk (sk (sk (sk (sk (sk (sk (sk (List.Sublist.slnil)))))))))))))⟩
        · have hb108 := Eq.trans rfl (congrArg B (decide_eq_false hg106))
          refine wpR_q 4 (by kernel_rfl) rfl (quietAt_s rfl rfl rfl rfl hb108 rfl) ?_
          refine wpR_q 5 (by kernel_rfl) rfl (quietAt_s rfl rfl rfl rfl hb108 rfl) ?_
          refine wpR_q 6 (by kernel_rfl) rfl (quietAt_s rfl rfl rfl rfl hb108 rfl) ?_
          refine wpR_q 7 (by kernel_rfl) rfl (quietAt rfl rfl (q_pickF (v := B (false)) rfl hb108 rfl)) ?_
          refine wpR_q 8 (by kernel_rfl) rfl (quietAt rfl rfl (q_assign (v := B (false)) rfl rfl)) ?_
          refine wpR_end (by kernel_rfl) ?_
          exact ⟨(Eq.trans rfl (congrArg B ((decide_eq_false (fun h => hg106 h.1)).symm))), (hS105o1.drop (sk (sn (sk (sk (sk (sk (sk (sk (sk (sk (sk (List.Sublist.slnil)))))))))))))⟩
      rintro f109 H109 ⟨a109_6, hS109⟩
      clear a103_1 a103_11 a103_12 a103_123 a103_2 a103_3
      refine wpF_ret ?_
      refine ⟨_, resT a109_6 resN, hS109.frame, ?_⟩
      show (B (decide ((((backF q n holds).1) = 9 ∧ ((backF q n holds).2) = (-3)) ∧ (((backP q n holds).length : Int) = 0)))) = B true
      obtain ⟨b1, b2⟩ := backF_2 hcf (by rw [← hvv]; exact h123)
      exact congrArg B (decide_eq_true (by rw [b1, b2]; simp))
    refine wpF_skip ?_
    refine wpF_seq ?_
    refine wpF_cut (fun f H => f 1 = I (n) ∧ f 2 = vh ∧ f 3 = PT g1 0 ∧ f 11 = r64 ∧ f 12 = PT g68 0 ∧ f 14 = (Value.slice none 0 0) ∧ H100 = H) ?_ ?_
    · refine wpF_region ?_
      refine wpL_q (U := NoB) rfl (q_assign (v := (Value.slice none 0 0)) rfl rfl) ?_
      exact ⟨a103_1, a103_2, a103_3, a103_11, a103_12, rfl, rfl⟩
    rintro f110 _ ⟨a110_1, a110_2, a110_3, a110_11, a110_12, a110_14, rfl⟩
    clear a103_1 a103_11 a103_12 a103_123 a103_2 a103_3
    have hS111 : St H0 NoB NoB [rowE 3 (Value.slice none 0 0) ([] : List Int), blkE g68 (.cells #[I ((backF q n holds).1), I ((backF q n holds).2)] 27), rdE r64 (backP q n holds), blkE g56 (.cells #[I ((doF q n).1), I ((doF q n).2)] 27), blkE g53 (.cells #[I ((doV q n)), r49] 58), rdE r49 (doC q n), blkE g11 (.cells #[I (c2), I (e2)] 27), blkE g1 (.cells #[I (q.Facts), vf, vg, va] 25), rdE vf q.First, rdE vg q.Goal, rdE va q.Acts, rdE vh holds] H100 := hS100.row0 3
    refine wpF_seq ?_
    refine wpF_seq ?_
    refine wpF_cut (fun f H => f 1 = I (n) ∧ f 2 = vh ∧ f 3 = PT g1 0 ∧ f 11 = r64 ∧ f 12 = PT g68 0 ∧ f 14 = (Value.slice none 0 0) ∧ f 15 = I (0) ∧ H100 = H) ?_ ?_
    · refine wpF_region ?_
      refine wpL_q (U := NoB) rfl (q_assign (v := I (0)) rfl rfl) ?_
      exact ⟨a110_1, a110_2, a110_3, a110_11, a110_12, a110_14, rfl, rfl⟩
    rintro f112 _ ⟨a112_1, a112_2, a112_3, a112_11, a112_12, a112_14, a112_15, rfl⟩
    clear a110_1 a110_11 a110_12 a110_14 a110_2 a110_3
    refine wpF_block ?_
    refine wpF_loop (fun mz f H => ∃ (u : Nat), ∃ (vo : Value), mz = n.toNat - u ∧ (u ≤ n.toNat) ∧ (∀ j, j < u → ¬ bkAt q n holds j < 0) ∧ f 1 = I (n) ∧ f 2 = vh ∧ f 3 = PT g1 0 ∧ f 11 = r64 ∧ f 12 = PT g68 0 ∧ f 14 = vo ∧ f 15 = I ((u : Int)) ∧ St H0 NoB NoB [rowE 3 vo (backL q n holds u : List Int), blkE g68 (.cells #[I ((backF q n holds).1), I ((backF q n holds).2)] 27), rdE r64 (backP q n holds), blkE g56 (.cells #[I ((doF q n).1), I ((doF q n).2)] 27), blkE g53 (.cells #[I ((doV q n)), r49] 58), rdE r49 (doC q n), blkE g11 (.cells #[I (c2), I (e2)] 27), blkE g1 (.cells #[I (q.Facts), vf, vg, va] 25), rdE vf q.First, rdE vg q.Goal, rdE va q.Acts, rdE vh holds] H) (n.toNat - 0) ?_ ?_
    · exact ⟨0, (Value.slice none 0 0), rfl, Nat.zero_le _, (fun j hj => absurd hj (Nat.not_lt_zero j)), a112_1, a112_2, a112_3, a112_11, a112_12, a112_14, (Eq.trans a112_15 (congrArg I (by omega))), (show St H0 NoB NoB [rowE 3 (Value.slice none 0 0) (backL q n holds 0 : List Int), blkE g68 (.cells #[I ((backF q n holds).1), I ((backF q n holds).2)] 27), rdE r64 (backP q n holds), blkE g56 (.cells #[I ((doF q n).1), I ((doF q n).2)] 27), blkE g53 (.cells #[I ((doV q n)), r49] 58), rdE r49 (doC q n), blkE g11 (.cells #[I (c2), I (e2)] 27), blkE g1 (.cells #[I (q.Facts), vf, vg, va] 25), rdE vf q.First, rdE vg q.Goal, rdE va q.Acts, rdE vh holds] H100 from hS111)⟩
    intro m113 f113 H113 hI113
    obtain ⟨u, vo, hm113, hu, hno, a113_1, a113_2, a113_3, a113_11, a113_12, a113_14, a113_15, hS113⟩ := hI113
    clear a112_1 a112_11 a112_12 a112_14 a112_15 a112_2 a112_3
    refine wpF_seq ?_
    refine wpF_seq ?_
    refine wpF_cut (fun f H => f 1 = I (n) ∧ f 2 = vh ∧ f 3 = PT g1 0 ∧ f 11 = r64 ∧ f 12 = PT g68 0 ∧ f 14 = vo ∧ f 15 = I ((u : Int)) ∧ f 134 = B (decide ((u : Int) < n)) ∧ H113 = H) ?_ ?_
    · refine wpF_region ?_
      refine wpL_q (U := NoB) rfl (q_move (v := I ((u : Int))) rfl a113_15) ?_
      refine wpL_q (U := NoB) rfl (q_move (v := I (n)) rfl a113_1) ?_
      refine wpL_q (U := NoB) rfl (q_lss rfl rfl rfl) ?_
      exact ⟨a113_1, a113_2, a113_3, a113_11, a113_12, a113_14, a113_15, rfl, rfl⟩
    rintro f114 _ ⟨a114_1, a114_2, a114_3, a114_11, a114_12, a114_14, a114_15, a114_134, rfl⟩
    clear a113_1 a113_11 a113_12 a113_14 a113_15 a113_2 a113_3
    refine wpF_condP a114_134 (fun h134 => ?t151) (fun h134 => ?e151)
    case e151 =>
      refine wpF_exit ?_
      refine atX_here ?_
      refine wpF_seq ?_
      refine wpF_cut (fun f H => f 6 = B (decide ((((backF q n holds).1) = 0) ∧ ((backP q n holds) = (backL q n holds u)))) ∧ St H0 NoB NoB [rowE 3 vo (backL q n holds u : List Int), blkE g68 (.cells #[I ((backF q n holds).1), I ((backF q n holds).2)] 27), blkE g56 (.cells #[I ((doF q n).1), I ((doF q n).2)] 27), blkE g53 (.cells #[I ((doV q n)), r49] 58), rdE r49 (doC q n), blkE g11 (.cells #[I (c2), I (e2)] 27), blkE g1 (.cells #[I (q.Facts), vf, vg, va] 25), rdE vf q.First, rdE vg q.Goal, rdE va q.Acts, rdE vh holds] H) ?_ ?_
      · refine wpF_region ?_
        refine wpL_q (U := NoB) rfl (q_fieldAddr rfl Try.underlying27 rfl Try.sizeOf3 a114_12) ?_
        refine wpL_q (U := NoB) rfl (q_loadBlk rfl rfl Try.isAgg3 (hS113.blk 1 rfl) rfl (fun h => h)) ?_
        refine wpL_q (U := NoB) rfl (q_eql rfl rfl rfl) ?_
        refine wpL_q (U := NoB) rfl (q_move (v := B (decide (((backF q n holds).1) = 0))) rfl rfl) ?_
        by_cases hg144 : ((backF q n holds).1) = 0
        · have hb145 := Eq.trans rfl (congrArg B (decide_eq_true hg144))
          refine wpL_gq (U := NoB) rfl rfl rfl hb145 (q_move (v := r64) rfl a114_11) ?_
          refine wpL_gq (U := NoB) rfl rfl rfl hb145 (q_move (v := vo) rfl a114_14) ?_
          refine wpL_go rfl rfl rfl hb145 ?_
          refine e_call rfl Try.call26 (arr2 (v0 := r64) (v1 := vo) rfl rfl) (Ints_R r64 vo _ _ (hS113.rdN 2 rfl) (hS113.rowN 0 rfl)) ?_
          rintro _ H147 ⟨hxx, rfl⟩
          have hS148 : St H0 NoB NoB [rowE 3 vo (backL q n holds u : List Int), blkE g68 (.cells #[I ((backF q n holds).1), I ((backF q n holds).2)] 27), rdE r64 (backP q n holds), blkE g56 (.cells #[I ((doF q n).1), I ((doF q n).2)] 27), blkE g53 (.cells #[I ((doV q n)), r49] 58), rdE r49 (doC q n), blkE g11 (.cells #[I (c2), I (e2)] 27), blkE g1 (.cells #[I (q.Facts), vf, vg, va] 25), rdE vf q.First, rdE vg q.Goal, rdE va q.Acts, rdE vh holds] H147 := hS113.ext hxx
          refine wpL_q (U := NoB) rfl (q_pickT (v := B (decide ((backP q n holds) = (backL q n holds u)))) rfl hb145 rfl) ?_
          refine wpL_q (U := NoB) rfl (q_assign (v := B (decide ((backP q n holds) = (backL q n holds u)))) rfl rfl) ?_
          exact ⟨(Eq.trans rfl (congrArg B (decide_congr_of ((Iff.rfl).trans (((and_iff_right hg144).trans Iff.rfl)).symm)))), (hS148.drop (sk (sk (sn (sk (sk (sk (sk (sk (sk (sk (sk (sk (List.Sublist.slnil))))))))))))))⟩
        · have hb146 := Eq.trans rfl (congrArg B (decide_eq_false hg144))
          refine wpL_gs rfl rfl rfl hb146 rfl ?_
          refine wpL_gs rfl rfl rfl hb146 rfl ?_
          refine wpL_gs rfl rfl rfl hb146 rfl ?_
          refine wpL_q (U := NoB) rfl (q_pickF (v := B (false)) rfl hb146 rfl) ?_
          refine wpL_q (U := NoB) rfl (q_assign (v := B (false)) rfl rfl) ?_
          exact ⟨(Eq.trans rfl (congrArg B ((decide_eq_false (fun h => hg144 h.1)).symm))), (hS113.drop (sk (sk (sn (sk (sk (sk (sk (sk (sk (sk (sk (sk (List.Sublist.slnil))))))))))))))⟩
      rintro f150 H150 ⟨a150_6, hS150⟩
      clear a114_1 a114_11 a114_12 a114_134 a114_14 a114_15 a114_2 a114_3
      refine wpF_ret ?_
      refine ⟨_, resT a150_6 resN, hS150.frame, ?_⟩
      show (B (decide ((((backF q n holds).1) = 0) ∧ ((backP q n holds) = (backL q n holds u))))) = B true
      obtain ⟨b1, b2⟩ := backF_4 hcf (by rw [← hvv]; exact h123) (fun j hj => hno j (by omega))
      have hun : u = n.toNat := by omega
      subst hun
      exact congrArg B (decide_eq_true (by rw [b1, b2]; simp))
    have hol := backL_len (q := q) (n := n) (holds := holds) (u := u)
    have ham := acts_mul (q := q) (u := u) (n := n) (by omega)
    have har := act_rng hQ (a := 0) (t := (u : Int)) hn (by omega) (by omega)
    have hvd : varsN q n = (n + 1) * q.Facts + n * (q.Acts.length : Int) := rfl
    refine wpF_skip ?_
    refine wpF_seq ?_
    refine wpF_block ?_
    refine wpF_seq ?_
    refine wpF_cut (fun f H => f 1 = I (n) ∧ f 2 = vh ∧ f 3 = PT g1 0 ∧ f 11 = r64 ∧ f 12 = PT g68 0 ∧ f 14 = vo ∧ f 15 = I ((u : Int)) ∧ f 16 = I (0) ∧ H113 = H) ?_ ?_
    · refine wpF_region ?_
      refine wpL_q (U := NoB) rfl (q_assign (v := I (0)) rfl rfl) ?_
      exact ⟨a114_1, a114_2, a114_3, a114_11, a114_12, a114_14, a114_15, rfl, rfl⟩
    rintro f116 _ ⟨a116_1, a116_2, a116_3, a116_11, a116_12, a116_14, a116_15, a116_16, rfl⟩
    clear a114_1 a114_11 a114_12 a114_134 a114_14 a114_15 a114_2 a114_3
    refine wpF_seq ?_
    refine wpF_block ?_
    refine wpF_loop (fun mz f H => ∃ (k : Nat), mz = q.Acts.length - k ∧ (k ≤ q.Acts.length) ∧ (∀ j : Nat, j < k → nth holds (actV q n (j : Int) (u : Int) - 1).toNat = false) ∧ f 1 = I (n) ∧ f 2 = vh ∧ f 3 = PT g1 0 ∧ f 11 = r64 ∧ f 12 = PT g68 0 ∧ f 14 = vo ∧ f 15 = I ((u : Int)) ∧ f 16 = I ((k : Int)) ∧ St H0 NoB NoB [rowE 3 vo (backL q n holds u : List Int), blkE g68 (.cells #[I ((backF q n holds).1), I ((backF q n holds).2)] 27), rdE r64 (backP q n holds), blkE g56 (.cells #[I ((doF q n).1), I ((doF q n).2)] 27), blkE g53 (.cells #[I ((doV q n)), r49] 58), rdE r49 (doC q n), blkE g11 (.cells #[I (c2), I (e2)] 27), blkE g1 (.cells #[I (q.Facts), vf, vg, va] 25), rdE vf q.First, rdE vg q.Goal, rdE va q.Acts, rdE vh holds] H) (q.Acts.length - 0) ?_ ?_
    · exact ⟨0, rfl, Nat.zero_le _, (fun j hj => absurd hj (Nat.not_lt_zero j)), a116_1, a116_2, a116_3, a116_11, a116_12, a116_14, a116_15, (Eq.trans a116_16 (congrArg I (by omega))), hS113⟩
    intro m117 f117 H117 hI117
    obtain ⟨k, hm117, hk, hk2, a117_1, a117_2, a117_3, a117_11, a117_12, a117_14, a117_15, a117_16, hS117⟩ := hI117
    clear a116_1 a116_11 a116_12 a116_14 a116_15 a116_16 a116_2 a116_3
    refine wpF_seq ?_
    refine wpF_seq ?_
    refine wpF_cut (fun f H => f 1 = I (n) ∧ f 2 = vh ∧ f 3 = PT g1 0 ∧ f 11 = r64 ∧ f 12 = PT g68 0 ∧ f 14 = vo ∧ f 15 = I ((u : Int)) ∧ f 16 = I ((k : Int)) ∧ f 160 = B (decide (((k : Int) < (q.Acts.length : Int)) ∧ ((!(nth holds (((((n + 1) * q.Facts) + ((u : Int) * (q.Acts.length : Int))) + (k : Int)).toNat))) = true))) ∧ H117 = H) ?_ ?_
    · refine wpF_region ?_
      refine wpL_q (U := NoB) rfl (q_move (v := I ((k : Int))) rfl a117_16) ?_
      refine wpL_q (U := NoB) rfl (q_fieldAddr rfl Try.underlying25 rfl Try.sizeOf23 a117_3) ?_
      refine wpL_q (U := NoB) rfl (q_loadBlk rfl rfl Try.isAgg23 (hS117.blk 7 rfl) rfl (fun h => h)) ?_
      refine wpL_q (U := NoB) rfl (q_lenRd rfl Try.underlying23 rfl (hS117.rdl 10 rfl)) ?_
      refine wpL_q (U := NoB) rfl (q_lss rfl rfl rfl) ?_
      refine wpL_q (U := NoB) rfl (q_move (v := B (decide ((k : Int) < (q.Acts.length : Int)))) rfl rfl) ?_
      by_cases hg118 : (k : Int) < (q.Acts.length : Int)
      · have hb119 := Eq.trans rfl (congrArg B (decide_eq_true hg118))
        refine wpL_gq (U := NoB) rfl rfl rfl hb119 (q_move (v := vh) rfl a117_2) ?_
        refine wpL_gq (U := NoB) rfl rfl rfl hb119 (q_move (v := I (n)) rfl a117_1) ?_
        refine wpL_gq (U := NoB) rfl rfl rfl hb119 (q_add rfl rfl rfl (by constructor <;> omega)) ?_
        refine wpL_gq (U := NoB) rfl rfl rfl hb119 (q_fieldAddr rfl Try.underlying25 rfl Try.sizeOf3 a117_3) ?_
        refine wpL_gq (U := NoB) rfl rfl rfl hb119 (q_loadBlk rfl rfl Try.isAgg3 (hS117.blk 7 rfl) rfl (fun h => h)) ?_
        refine wpL_gq (U := NoB) rfl rfl rfl hb119 (q_mul rfl rfl rfl (by constructor <;> omega)) ?_
        refine wpL_gq (U := NoB) rfl rfl rfl hb119 (q_move (v := I ((u : Int))) rfl a117_15) ?_
        refine wpL_gq (U := NoB) rfl rfl rfl hb119 (q_fieldAddr rfl Try.underlying25 rfl Try.sizeOf23 a117_3) ?_
        refine wpL_gq (U := NoB) rfl rfl rfl hb119 (q_loadBlk rfl rfl Try.isAgg23 (hS117.blk 7 rfl) rfl (fun h => h)) ?_
        refine wpL_gq (U := NoB) rfl rfl rfl hb119 (q_lenRd rfl Try.underlying23 rfl (hS117.rdl 10 rfl)) ?_
        refine wpL_gq (U := NoB) rfl rfl rfl hb119 (q_mul rfl rfl rfl (by constructor <;> omega)) ?_
        refine wpL_gq (U := NoB) rfl rfl rfl hb119 (q_add rfl rfl rfl (by constructor <;> omega)) ?_
        refine wpL_gq (U := NoB) rfl rfl rfl hb119 (q_move (v := I ((k : Int))) rfl a117_16) ?_
        refine wpL_gq (U := NoB) rfl rfl rfl hb119 (q_add rfl rfl rfl (by constructor <;> omega)) ?_
        refine wpL_gq (U := NoB) rfl rfl rfl hb119 (q_indexRd (k := ((((n + 1) * q.Facts) + ((u : Int) * (q.Acts.length : Int))) + (k : Int)).toNat) rfl Try.underlying29 el_Bool_4_StepsSays1 rfl rfl (hS117.rdl 11 rfl) (by omega) (by omega)) ?_
        refine wpL_gq (U := NoB) rfl rfl rfl hb119 (q_loadBool (k := ((((n + 1) * q.Facts) + ((u : Int) * (q.Acts.length : Int))) + (k : Int)).toNat) rfl rfl el_Bool_4_StepsSays1 (hS117.rdl 11 rfl) (by omega) (fun _ h => h)) ?_
        refine wpL_gq (U := NoB) rfl rfl rfl hb119 (q_not rfl rfl) ?_
        refine wpL_q (U := NoB) rfl (q_pickT (v := B (!(nth holds (((((n + 1) * q.Facts) + ((u : Int) * (q.Acts.length : Int))) + (k : Int)).toNat)))) rfl hb119 rfl) ?_
        exact ⟨a117_1, a117_2, a117_3, a117_11, a117_12, a117_14, a117_15, a117_16, (Eq.trans rfl (congrArg B (bool_congr_of ((Iff.rfl).trans (((and_iff_right hg118).trans Iff.rfl)).symm)))), rfl⟩
      · have hb120 := Eq.trans rfl (congrArg B (decide_eq_false hg118))
        refine wpL_gs rfl rfl rfl hb120 rfl ?_
        refine wpL_gs rfl rfl rfl hb120 rfl ?_
        refine wpL_gs rfl rfl rfl hb120 rfl ?_
        refine wpL_gs rfl rfl rfl hb120 rfl ?_
        refine wpL_gs rfl rfl rfl hb120 rfl ?_
        refine wpL_gs rfl rfl rfl hb120 rfl ?_
        refine wpL_gs rfl rfl rfl hb120 rfl ?_
        refine wpL_gs rfl rfl rfl hb120 rfl ?_
        refine wpL_gs rfl rfl rfl hb120 rfl ?_
        refine wpL_gs rfl rfl rfl hb120 rfl ?_
        refine wpL_gs rfl rfl rfl hb120 rfl ?_
        refine wpL_gs rfl rfl rfl hb120 rfl ?_
        refine wpL_gs rfl rfl rfl hb120 rfl ?_
        refine wpL_gs rfl rfl rfl hb120 rfl ?_
        refine wpL_gs rfl rfl rfl hb120 rfl ?_
        refine wpL_gs rfl rfl rfl hb120 rfl ?_
        refine wpL_gs rfl rfl rfl hb120 rfl ?_
        refine wpL_q (U := NoB) rfl (q_pickF (v := B (false)) rfl hb120 rfl) ?_
        exact ⟨a117_1, a117_2, a117_3, a117_11, a117_12, a117_14, a117_15, a117_16, (Eq.trans rfl (congrArg B ((decide_eq_false (fun h => hg118 h.1)).symm))), rfl⟩
    rintro f121 _ ⟨a121_1, a121_2, a121_3, a121_11, a121_12, a121_14, a121_15, a121_16, a121_160, rfl⟩
    clear a117_1 a117_11 a117_12 a117_14 a117_15 a117_16 a117_2 a117_3
    refine wpF_condP a121_160 (fun h160 => ?t143) (fun h160 => ?e143)
    case t143 =>
      refine wpF_skip ?_
      refine wpF_block ?_
      refine wpF_cut (fun f H => f 1 = I (n) ∧ f 2 = vh ∧ f 3 = PT g1 0 ∧ f 11 = r64 ∧ f 12 = PT g68 0 ∧ f 14 = vo ∧ f 15 = I ((u : Int)) ∧ f 16 = I ((k : Int) + 1) ∧ H117 = H) ?_ ?_
      · refine wpF_region ?_
        refine wpL_q (U := NoB) rfl (q_move (v := I ((k : Int))) rfl a121_16) ?_
        refine wpL_q (U := NoB) rfl (q_add rfl rfl rfl (by constructor <;> omega)) ?_
        refine wpL_q (U := NoB) rfl (q_assign (v := I ((k : Int) + 1)) rfl rfl) ?_
        exact ⟨a121_1, a121_2, a121_3, a121_11, a121_12, a121_14, a121_15, rfl, rfl⟩
      rintro f123 _ ⟨a123_1, a123_2, a123_3, a123_11, a123_12, a123_14, a123_15, a123_16, rfl⟩
      clear a121_1 a121_11 a121_12 a121_14 a121_15 a121_16 a121_160 a121_2 a121_3
      refine ⟨_, ?_, k + 1, rfl, (by omega), (all_succ hk2 (by have h9 := h160.2; rw [show (actV q n (k : Int) (u : Int) - 1) = (((n + 1) * q.Facts + (u : Int) * (q.Acts.length : Int)) + (k : Int)) by simp [actV]]; simpa using h9)), a123_1, a123_2, a123_3, a123_11, a123_12, a123_14, a123_15, (Eq.trans a123_16 (congrArg I (by omega))), hS117⟩
      omega
    refine wpF_exit ?_
    refine atX_here ?_
    refine wpF_seq ?_
    refine wpF_seq ?_
    have hk3 : ∀ j, j < k → ¬ nth holds (actV q n (j : Nat) (u : Int) - 1).toNat = true := fun j hj => by simpa using hk2 j hj
    refine wpF_cut (fun f H => f 1 = I (n) ∧ f 2 = vh ∧ f 3 = PT g1 0 ∧ f 11 = r64 ∧ f 12 = PT g68 0 ∧ f 14 = vo ∧ f 15 = I ((u : Int)) ∧ f 16 = I ((k : Int)) ∧ f 167 = B (decide ((k : Int) = (q.Acts.length : Int))) ∧ H117 = H) ?_ ?_
    · refine wpF_region ?_
      refine wpL_q (U := NoB) rfl (q_move (v := I ((k : Int))) rfl a121_16) ?_
      refine wpL_q (U := NoB) rfl (q_fieldAddr rfl Try.underlying25 rfl Try.sizeOf23 a121_3) ?_
      refine wpL_q (U := NoB) rfl (q_loadBlk rfl rfl Try.isAgg23 (hS117.blk 7 rfl) rfl (fun h => h)) ?_
      refine wpL_q (U := NoB) rfl (q_lenRd rfl Try.underlying23 rfl (hS117.rdl 10 rfl)) ?_
      refine wpL_q (U := NoB) rfl (q_eql rfl rfl rfl) ?_
      exact ⟨a121_1, a121_2, a121_3, a121_11, a121_12, a121_14, a121_15, a121_16, rfl, rfl⟩
    rintro f124 _ ⟨a124_1, a124_2, a124_3, a124_11, a124_12, a124_14, a124_15, a124_16, a124_167, rfl⟩
    clear a121_1 a121_11 a121_12 a121_14 a121_15 a121_16 a121_160 a121_2 a121_3
    refine wpF_condP a124_167 (fun h167 => ?t142) (fun h167 => ?e142)
    case e142 =>
      have hbk := bkAt_is hk3 (by omega) (by have h9 := h160; rw [not_and] at h9; have h8 := h9 (by omega); rw [show (actV q n (k : Int) (u : Int) - 1) = (((n + 1) * q.Facts + (u : Int) * (q.Acts.length : Int)) + (k : Int)) by simp [actV]]; simpa using h8)
      refine wpF_skip ?_
      refine wpF_cut (fun f H => ∃ (v136 : Value), f 1 = I (n) ∧ f 2 = vh ∧ f 3 = PT g1 0 ∧ f 11 = r64 ∧ f 12 = PT g68 0 ∧ f 14 = v136 ∧ f 15 = I ((u : Int)) ∧ St H0 NoB NoB [rowE 3 v136 (backL q n holds (u + 1) : List Int), blkE g68 (.cells #[I ((backF q n holds).1), I ((backF q n holds).2)] 27), rdE r64 (backP q n holds), blkE g56 (.cells #[I ((doF q n).1), I ((doF q n).2)] 27), blkE g53 (.cells #[I ((doV q n)), r49] 58), rdE r49 (doC q n), blkE g11 (.cells #[I (c2), I (e2)] 27), blkE g1 (.cells #[I (q.Facts), vf, vg, va] 25), rdE vf q.First, rdE vg q.Goal, rdE va q.Acts, rdE vh holds] H) ?_ ?_
      · refine wpF_region ?_
        refine wpL_q (U := NoB) rfl (q_move (v := vo) rfl a124_14) ?_
        refine wpL_q (U := NoB) rfl (q_move (v := I ((k : Int))) rfl a124_16) ?_
        refine wpL_o rfl ?_
        refine e_buildSlice (vs := [I ((k : Int))]) (xs := ([(k : Int)] : List Int)) rfl Try.underlying22 Try.zeroValue3 rfl Try.sizeOf3 (par1 (v0 := I ((k : Int))) rfl) rfl hS117 (RdVs.cons (Rd.int.2 ⟨rfl, by first | assumption | (constructor <;> omega)⟩) (RdVs.nil)) (by decide) (by decide) (fun v131 H132 hS133 hxx hvv131 => ?_)
        replace hS133 : St H0 NoB NoB [rowE 3 v131 ([(k : Int)] : List Int), rowE 3 vo (backL q n holds u : List Int), blkE g68 (.cells #[I ((backF q n holds).1), I ((backF q n holds).2)] 27), rdE r64 (backP q n holds), blkE g56 (.cells #[I ((doF q n).1), I ((doF q n).2)] 27), blkE g53 (.cells #[I ((doV q n)), r49] 58), rdE r49 (doC q n), blkE g11 (.cells #[I (c2), I (e2)] 27), blkE g1 (.cells #[I (q.Facts), vf, vg, va] 25), rdE vf q.First, rdE vg q.Goal, rdE va q.Acts, rdE vh holds] H132 := hS133
        have hS134 : St H0 NoB NoB [rdE v131 ([(k : Int)] : List Int), rowE 3 vo (backL q n holds u : List Int), blkE g68 (.cells #[I ((backF q n holds).1), I ((backF q n holds).2)] 27), rdE r64 (backP q n holds), blkE g56 (.cells #[I ((doF q n).1), I ((doF q n).2)] 27), blkE g53 (.cells #[I ((doV q n)), r49] 58), rdE r49 (doC q n), blkE g11 (.cells #[I (c2), I (e2)] 27), blkE g1 (.cells #[I (q.Facts), vf, vg, va] 25), rdE vf q.First, rdE vg q.Goal, rdE va q.Acts, rdE vh holds] H132 := St.fin hS133
        have hS135 : St H0 NoB NoB [rowE 3 vo (backL q n holds u : List Int), rdE v131 ([(k : Int)] : List Int), blkE g68 (.cells #[I ((backF q n holds).1), I ((backF q n holds).2)] 27), rdE r64 (backP q n holds), blkE g56 (.cells #[I ((doF q n).1), I ((doF q n).2)] 27), blkE g53 (.cells #[I ((doV q n)), r49] 58), rdE r49 (doC q n), blkE g11 (.cells #[I (c2), I (e2)] 27), blkE g1 (.cells #[I (q.Facts), vf, vg, va] 25), rdE vf q.First, rdE vg q.Goal, rdE va q.Acts, rdE vh holds] H132 := (hS134.front 1 rfl)
        refine wpL_o rfl ?_
        refine e_append rfl Try.underlying22 em_Int_3_StepsSays1 rfl rfl hS135 (hS135.rdS 1 rfl) (fun _ h => h) (by have hb : GoT.bytes Int = 8 := rfl; simp [hb]; omega) (by decide) (fun v136 H137 hS138 hxx => ?_)
        replace hS138 : St H0 NoB NoB [rowE 3 v136 ((backL q n holds u) ++ ([(k : Int)]) : List Int), rdE v131 ([(k : Int)] : List Int), blkE g68 (.cells #[I ((backF q n holds).1), I ((backF q n holds).2)] 27), rdE r64 (backP q n holds), blkE g56 (.cells #[I ((doF q n).1), I ((doF q n).2)] 27), blkE g53 (.cells #[I ((doV q n)), r49] 58), rdE r49 (doC q n), blkE g11 (.cells #[I (c2), I (e2)] 27), blkE g1 (.cells #[I (q.Facts), vf, vg, va] 25), rdE vf q.First, rdE vg q.Goal, rdE va q.Acts, rdE vh holds] H137 := hS138
        have hS139 : St H0 NoB NoB [rowE 3 v136 (backL q n holds (u + 1) : List Int), rdE v131 ([(k : Int)] : List Int), blkE g68 (.cells #[I ((backF q n holds).1), I ((backF q n holds).2)] 27), rdE r64 (backP q n holds), blkE g56 (.cells #[I ((doF q n).1), I ((doF q n).2)] 27), blkE g53 (.cells #[I ((doV q n)), r49] 58), rdE r49 (doC q n), blkE g11 (.cells #[I (c2), I (e2)] 27), blkE g1 (.cells #[I (q.Facts), vf, vg, va] 25), rdE vf q.First, rdE vg q.Goal, rdE va q.Acts, rdE vh holds] H137 := by rw [show (backL q n holds (u + 1)) = ((backL q n holds u) ++ ([(k : Int)])) from (by rw [backL_next, hbk])]; exact hS138
        refine wpL_q (U := NoB) rfl (q_assign (v := v136) rfl rfl) ?_
        exact ⟨v136, a124_1, a124_2, a124_3, a124_11, a124_12, rfl, a124_15, (hS139.drop (sk (sn (sk (sk (sk (sk (sk (sk (sk (sk (sk (sk (sk (List.Sublist.slnil)))))))))))))))⟩
      rintro f140 H140 ⟨v136, a140_1, a140_2, a140_3, a140_11, a140_12, a140_14, a140_15, hS140⟩
      clear a124_1 a124_11 a124_12 a124_14 a124_15 a124_16 a124_167 a124_2 a124_3
      refine wpF_cut (fun f H => f 1 = I (n) ∧ f 2 = vh ∧ f 3 = PT g1 0 ∧ f 11 = r64 ∧ f 12 = PT g68 0 ∧ f 14 = v136 ∧ f 15 = I ((u : Int) + 1) ∧ H140 = H) ?_ ?_
      · refine wpF_region ?_
        refine wpL_q (U := NoB) rfl (q_move (v := I ((u : Int))) rfl a140_15) ?_
        refine wpL_q (U := NoB) rfl (q_add rfl rfl rfl (by constructor <;> omega)) ?_
        refine wpL_q (U := NoB) rfl (q_assign (v := I ((u : Int) + 1)) rfl rfl) ?_
        exact ⟨a140_1, a140_2, a140_3, a140_11, a140_12, a140_14, rfl, rfl⟩
      rintro f141 _ ⟨a141_1, a141_2, a141_3, a141_11, a141_12, a141_14, a141_15, rfl⟩
      clear a140_1 a140_11 a140_12 a140_14 a140_15 a140_2 a140_3
      refine ⟨_, ?_, u + 1, v136, rfl, (by omega), (all_succ hno (by rw [hbk]; omega)), a141_1, a141_2, a141_3, a141_11, a141_12, a141_14, (Eq.trans a141_15 (congrArg I (by omega))), hS140⟩
      omega
    refine wpF_seq ?_
    refine wpF_cut (fun f H => f 6 = B (decide ((((backF q n holds).1) = 6 ∧ ((backF q n holds).2) = (u : Int)) ∧ (((backP q n holds).length : Int) = 0))) ∧ St H0 NoB NoB [rowE 3 vo (backL q n holds u : List Int), blkE g68 (.cells #[I ((backF q n holds).1), I ((backF q n holds).2)] 27), blkE g56 (.cells #[I ((doF q n).1), I ((doF q n).2)] 27), blkE g53 (.cells #[I ((doV q n)), r49] 58), rdE r49 (doC q n), blkE g11 (.cells #[I (c2), I (e2)] 27), blkE g1 (.cells #[I (q.Facts), vf, vg, va] 25), rdE vf q.First, rdE vg q.Goal, rdE va q.Acts, rdE vh holds] H) ?_ ?_
    · refine wpF_drawn [] [] (fun _ _ => False) (by kernel_rfl) (by kernel_rfl) ?_
      refine wpR_q 0 (by kernel_rfl) rfl (quietAt rfl rfl (q_loadBlkA rfl a124_12 Try.isAgg27 Try.sizeOf27 rfl (hS117.blk 1 rfl) (labU_not [] rfl (List.forall_mem_nil _)))) ?_
      refine wpR_q 1 (by kernel_rfl) rfl (quietAt rfl rfl (q_move (v := I ((u : Int))) rfl a124_15)) ?_
      refine wpR_n [2] (by kernel_rfl) ?_
      refine List.forall_mem_cons.2 ⟨?_, List.forall_mem_nil _⟩
      refine exE rfl rfl ?_
      refine e_call rfl Try.call15 (arr2 (v0 := I (6)) (v1 := I ((u : Int))) rfl rfl) (fault_L 6 (u : Int)) ?_
      rintro _ H126o2 ⟨hxx, rfl⟩
      have hS126o2 : St H0 NoB NoB [rowE 3 vo (backL q n holds u : List Int), blkE g68 (.cells #[I ((backF q n holds).1), I ((backF q n holds).2)] 27), rdE r64 (backP q n holds), blkE g56 (.cells #[I ((doF q n).1), I ((doF q n).2)] 27), blkE g53 (.cells #[I ((doV q n)), r49] 58), rdE r49 (doC q n), blkE g11 (.cells #[I (c2), I (e2)] 27), blkE g1 (.cells #[I (q.Facts), vf, vg, va] 25), rdE vf q.First, rdE vg q.Goal, rdE va q.Acts, rdE vh holds] H126o2 := hS117.ext hxx
      refine ⟨Ext.mono hxx (fun _ h => h.elim), ?_⟩
      refine wpR_q 3 (by kernel_rfl) rfl (quietAt rfl rfl (q_eqlF2 rfl Try.eqGuardType27 (fl27_StepsSays1 _ _ _ _) rfl rfl)) ?_
      refine wpR_q 4 (by kernel_rfl) rfl (quietAt rfl rfl (q_move (v := B (decide (((backF q n holds).1) = 6 ∧ ((backF q n holds).2) = (u : Int)))) rfl rfl)) ?_
      by_cases hg127 : ((backF q n holds).1) = 6 ∧ ((backF q n holds).2) = (u : Int)
      · have hb128 := Eq.trans rfl (congrArg B (decide_eq_true hg127))
        refine wpR_q 5 (by kernel_rfl) rfl (quietAt_g rfl rfl rfl rfl hb128 (q_move (v := r64) rfl a124_11)) ?_
        refine wpR_q 6 (by kernel_rfl) rfl (quietAt_g rfl rfl rfl rfl hb128 (q_lenRd rfl Try.underlying22 rfl (hS126o2.rdl 2 rfl))) ?_
        refine wpR_q 7 (by kernel_rfl) rfl (quietAt_g rfl rfl rfl rfl hb128 (q_eql rfl rfl rfl)) ?_
        refine wpR_q 8 (by kernel_rfl) rfl (quietAt rfl rfl (q_pickT (v := B (decide (((backP q n holds).length : Int) = 0))) rfl hb128 rfl)) ?_
        refine wpR_q 9 (by kernel_rfl) rfl (quietAt rfl rfl (q_assign (v := B (decide (((backP q n holds).length : Int) = 0))) rfl rfl)) ?_
        refine wpR_end (by kernel_rfl) ?_
        exact ⟨(Eq.trans rfl (congrArg B (decide_congr_of ((Iff.rfl).trans (((and_iff_right hg127).trans Iff.rfl)).symm)))), (hS126o2.drop (sk (sk (sn (sk (sk (sk (sk (sk (sk (sk (sk (sk (List.Sublist.slnil))))))))))))))⟩
      · have hb129 := Eq.trans rfl (congrArg B (decide_eq_false hg127))
        refine wpR_q 5 (by kernel_rfl) rfl (quietAt_s rfl rfl rfl rfl hb129 rfl) ?_
        refine wpR_q 6 (by kernel_rfl) rfl (quietAt_s rfl rfl rfl rfl hb129 rfl) ?_
        refine wpR_q 7 (by kernel_rfl) rfl (quietAt_s rfl rfl rfl rfl hb129 rfl) ?_
        refine wpR_q 8 (by kernel_rfl) rfl (quietAt rfl rfl (q_pickF (v := B (false)) rfl hb129 rfl)) ?_
        refine wpR_q 9 (by kernel_rfl) rfl (quietAt rfl rfl (q_assign (v := B (false)) rfl rfl)) ?_
        refine wpR_end (by kernel_rfl) ?_
        exact ⟨(Eq.trans rfl (congrArg B ((decide_eq_false (fun h => hg127 h.1)).symm))), (hS126o2.drop (sk (sk (sn (sk (sk (sk (sk (sk (sk (sk (sk (sk (List.Sublist.slnil))))))))))))))⟩
    rintro f130 H130 ⟨a130_6, hS130⟩
    clear a124_1 a124_11 a124_12 a124_14 a124_15 a124_16 a124_167 a124_2 a124_3
    refine wpF_ret ?_
    refine ⟨_, resT a130_6 resN, hS130.frame, ?_⟩
    show (B (decide ((((backF q n holds).1) = 6 ∧ ((backF q n holds).2) = (u : Int)) ∧ (((backP q n holds).length : Int) = 0)))) = B true
    obtain ⟨b1, b2⟩ := backF_3 hcf (by rw [← hvv]; exact h123) (u := u) (by omega) hno (bkAt_none (fun j hj => by simpa using hk2 j (by omega)))
    exact congrArg B (decide_eq_true (by rw [b1, b2]; simp))
  refine wpF_seq ?_
  refine wpF_cut (fun f H => f 1 = I (n) ∧ f 2 = vh ∧ f 3 = PT g1 0 ∧ f 8 = I (vv) ∧ f 11 = r64 ∧ f 12 = PT g68 0 ∧ f 119 = B (decide (((((doF q n).1) ≠ 0) ∨ ((doV q n) ≠ vv)) ∨ (¬ ((doC q n) = (clausesQ q n))))) ∧ St H0 NoB NoB [blkE g68 (.cells #[I ((backF q n holds).1), I ((backF q n holds).2)] 27), rdE r64 (backP q n holds), blkE g56 (.cells #[I ((doF q n).1), I ((doF q n).2)] 27), blkE g53 (.cells #[I ((doV q n)), r49] 58), rdE r49 (doC q n), blkE g11 (.cells #[I (c2), I (e2)] 27), blkE g1 (.cells #[I (q.Facts), vf, vg, va] 25), rdE vf q.First, rdE vg q.Goal, rdE va q.Acts, rdE vh holds] H) ?_ ?_
  · refine wpF_region ?_
    refine wpL_q (U := NoB) rfl (q_fieldAddr rfl Try.underlying27 rfl Try.sizeOf3 a94_10) ?_
    refine wpL_q (U := NoB) rfl (q_loadBlk rfl rfl Try.isAgg3 (hS93.blk 3 rfl) rfl (fun h => h)) ?_
    refine wpL_q (U := NoB) rfl (q_neq rfl rfl rfl) ?_
    refine wpL_q (U := NoB) rfl (q_move (v := B (decide (((doF q n).1) ≠ 0))) rfl rfl) ?_
    by_cases hg154 : ((doF q n).1) ≠ 0
    · have hb155 := Eq.trans rfl (congrArg B (decide_eq_true hg154))
      refine wpL_gs rfl rfl rfl hb155 rfl ?_
      refine wpL_gs rfl rfl rfl hb155 rfl ?_
      refine wpL_gs rfl rfl rfl hb155 rfl ?_
      refine wpL_gs rfl rfl rfl hb155 rfl ?_
      refine wpL_q (U := NoB) rfl (q_pickT (v := B (true)) rfl hb155 rfl) ?_
      refine wpL_q (U := NoB) rfl (q_move (v := B (true)) rfl rfl) ?_
      refine wpL_gs rfl rfl rfl rfl rfl ?_
      refine wpL_gs rfl rfl rfl rfl rfl ?_
      refine wpL_gs rfl rfl rfl rfl rfl ?_
      refine wpL_gs rfl rfl rfl rfl rfl ?_
      refine wpL_gs rfl rfl rfl rfl rfl ?_
      refine wpL_q (U := NoB) rfl (q_pickT (v := B (true)) rfl rfl rfl) ?_
      exact ⟨a94_1, a94_2, a94_3, a94_8, a94_11, a94_12, (Eq.trans rfl (congrArg B ((decide_eq_true (Or.inl (Or.inl hg154))).symm))), (hS93.drop (sn (sk (sk (sk (sk (sk (sk (sk (sk (sk (sk (sk (List.Sublist.slnil))))))))))))))⟩
    · have hb156 := Eq.trans rfl (congrArg B (decide_eq_false hg154))
      refine wpL_gq (U := NoB) rfl rfl rfl hb156 (q_fieldAddr rfl Try.underlying58 rfl Try.sizeOf3 a94_9) ?_
      refine wpL_gq (U := NoB) rfl rfl rfl hb156 (q_loadBlk rfl rfl Try.isAgg3 (hS93.blk 4 rfl) rfl (fun h => h)) ?_
      refine wpL_gq (U := NoB) rfl rfl rfl hb156 (q_move (v := I (vv)) rfl a94_8) ?_
      refine wpL_gq (U := NoB) rfl rfl rfl hb156 (q_neq rfl rfl rfl) ?_
      refine wpL_q (U := NoB) rfl (q_pickF (v := B (decide ((doV q n) ≠ vv))) rfl hb156 rfl) ?_
      refine wpL_q (U := NoB) rfl (q_move (v := B (decide ((doV q n) ≠ vv))) rfl rfl) ?_
      by_cases hg157 : (doV q n) ≠ vv
      · have hb158 := Eq.trans rfl (congrArg B (decide_eq_true hg157))
        refine wpL_gs rfl rfl rfl hb158 rfl ?_
        refine wpL_gs rfl rfl rfl hb158 rfl ?_
        refine wpL_gs rfl rfl rfl hb158 rfl ?_
        refine wpL_gs rfl rfl rfl hb158 rfl ?_
        refine wpL_gs rfl rfl rfl hb158 rfl ?_
        refine wpL_q (U := NoB) rfl (q_pickT (v := B (true)) rfl hb158 rfl) ?_
        exact ⟨a94_1, a94_2, a94_3, a94_8, a94_11, a94_12, (Eq.trans rfl (congrArg B ((decide_eq_true (Or.inl (Or.inr hg157))).symm))), (hS93.drop (sn (sk (sk (sk (sk (sk (sk (sk (sk (sk (sk (sk (List.Sublist.slnil))))))))))))))⟩
      · have hb159 := Eq.trans rfl (congrArg B (decide_eq_false hg157))
        refine wpL_gq (U := NoB) rfl rfl rfl hb159 (q_fieldAddr rfl Try.underlying58 rfl Try.sizeOf56 a94_9) ?_
        refine wpL_gq (U := NoB) rfl rfl rfl hb159 (q_loadBlk rfl rfl Try.isAgg56 (hS93.blk 4 rfl) rfl (fun h => h)) ?_
        refine wpL_gq (U := NoB) rfl rfl rfl hb159 (q_move (v := r89) rfl a94_13) ?_
        refine wpL_go rfl rfl rfl hb159 ?_
        refine e_call rfl Try.call35 (arr2 (v0 := r49) (v1 := r89) rfl rfl) (rows_L r49 r89 _ _ (hS93.rdN 5 rfl) (hS93.rdN 0 rfl)) ?_
        rintro _ H160 ⟨hxx, rfl⟩
        have hS161 : St H0 NoB NoB [rdE r89 (clausesQ q n), blkE g68 (.cells #[I ((backF q n holds).1), I ((backF q n holds).2)] 27), rdE r64 (backP q n holds), blkE g56 (.cells #[I ((doF q n).1), I ((doF q n).2)] 27), blkE g53 (.cells #[I ((doV q n)), r49] 58), rdE r49 (doC q n), blkE g11 (.cells #[I (c2), I (e2)] 27), blkE g1 (.cells #[I (q.Facts), vf, vg, va] 25), rdE vf q.First, rdE vg q.Goal, rdE va q.Acts, rdE vh holds] H160 := hS93.ext hxx
        refine wpL_gq (U := NoB) rfl rfl rfl hb159 (q_notP rfl rfl) ?_
        refine wpL_q (U := NoB) rfl (q_pickF (v := B (decide (¬ ((doC q n) = (clausesQ q n))))) rfl hb159 rfl) ?_
        exact ⟨a94_1, a94_2, a94_3, a94_8, a94_11, a94_12, (Eq.trans rfl (congrArg B (decide_congr_of (((not_congr Iff.rfl)).trans (((or_iff_right (not_or.2 ⟨hg154, hg157⟩)).trans (not_congr Iff.rfl))).symm)))), (hS161.drop (sn (sk (sk (sk (sk (sk (sk (sk (sk (sk (sk (sk (List.Sublist.slnil))))))))))))))⟩
  rintro f163 H163 ⟨a163_1, a163_2, a163_3, a163_8, a163_11, a163_12, a163_119, hS163⟩
  clear a94_1 a94_10 a94_11 a94_12 a94_13 a94_2 a94_3 a94_8 a94_9 a94_94
  refine wpF_condP a163_119 (fun h119 => ?t216) (fun h119 => ?e216)
  case t216 =>
    refine wpF_seq ?_
    refine wpF_cut (fun f H => f 6 = B (false) ∧ H163 = H) ?_ ?_
    · refine wpF_region ?_
      refine wpL_q (U := NoB) rfl (q_assign (v := B (false)) rfl rfl) ?_
      exact ⟨rfl, rfl⟩
    rintro f165 _ ⟨a165_6, rfl⟩
    clear a163_1 a163_11 a163_119 a163_12 a163_2 a163_3 a163_8
    refine wpF_ret ?_
    refine ⟨_, resT a165_6 resN, hS163.frame, ?_⟩
    show (B (false)) = B true
    exfalso
    obtain ⟨d1, d2, d3⟩ := doF_ok hcf h94
    rw [d1, d2, d3, hvv] at h119
    simp at h119
  refine wpF_skip ?_
  refine wpF_seq ?_
  refine wpF_seq ?_
  refine wpF_cut (fun f H => f 1 = I (n) ∧ f 2 = vh ∧ f 3 = PT g1 0 ∧ f 11 = r64 ∧ f 12 = PT g68 0 ∧ f 123 = B (decide ((holds.length : Int) ≠ vv)) ∧ H163 = H) ?_ ?_
  · refine wpF_region ?_
    refine wpL_q (U := NoB) rfl (q_move (v := vh) rfl a163_2) ?_
    refine wpL_q (U := NoB) rfl (q_lenRd rfl Try.underlying29 rfl (hS163.rdl 10 rfl)) ?_
    refine wpL_q (U := NoB) rfl (q_move (v := I (vv)) rfl a163_8) ?_
    refine wpL_q (U := NoB) rfl (q_neq rfl rfl rfl) ?_
    exact ⟨a163_1, a163_2, a163_3, a163_11, a163_12, rfl, rfl⟩
  rintro f166 _ ⟨a166_1, a166_2, a166_3, a166_11, a166_12, a166_123, rfl⟩
  clear a163_1 a163_11 a163_119 a163_12 a163_2 a163_3 a163_8
  refine wpF_condP a166_123 (fun h123 => ?t215) (fun h123 => ?e215)
  case t215 =>
    refine wpF_seq ?_
    refine wpF_cut (fun f H => f 6 = B (decide ((((backF q n holds).1) = 9 ∧ ((backF q n holds).2) = (-3)) ∧ (((backP q n holds).length : Int) = 0))) ∧ St H0 NoB NoB [blkE g68 (.cells #[I ((backF q n holds).1), I ((backF q n holds).2)] 27), blkE g56 (.cells #[I ((doF q n).1), I ((doF q n).2)] 27), blkE g53 (.cells #[I ((doV q n)), r49] 58), rdE r49 (doC q n), blkE g11 (.cells #[I (c2), I (e2)] 27), blkE g1 (.cells #[I (q.Facts), vf, vg, va] 25), rdE vf q.First, rdE vg q.Goal, rdE va q.Acts, rdE vh holds] H) ?_ ?_
    · refine wpF_drawn [] [] (fun _ _ => False) (by kernel_rfl) (by kernel_rfl) ?_
      refine wpR_q 0 (by kernel_rfl) rfl (quietAt rfl rfl (q_loadBlkA rfl a166_12 Try.isAgg27 Try.sizeOf27 rfl (hS163.blk 0 rfl) (labU_not [] rfl (List.forall_mem_nil _)))) ?_
      refine wpR_n [1] (by kernel_rfl) ?_
      refine List.forall_mem_cons.2 ⟨?_, List.forall_mem_nil _⟩
      refine exE rfl rfl ?_
      refine e_call rfl Try.call15 (arr2 (v0 := I (9)) (v1 := I (-3)) rfl rfl) (fault_L 9 (-3)) ?_
      rintro _ H168o1 ⟨hxx, rfl⟩
      have hS168o1 : St H0 NoB NoB [blkE g68 (.cells #[I ((backF q n holds).1), I ((backF q n holds).2)] 27), rdE r64 (backP q n holds), blkE g56 (.cells #[I ((doF q n).1), I ((doF q n).2)] 27), blkE g53 (.cells #[I ((doV q n)), r49] 58), rdE r49 (doC q n), blkE g11 (.cells #[I (c2), I (e2)] 27), blkE g1 (.cells #[I (q.Facts), vf, vg, va] 25), rdE vf q.First, rdE vg q.Goal, rdE va q.Acts, rdE vh holds] H168o1 := hS163.ext hxx
      refine ⟨Ext.mono hxx (fun _ h => h.elim), ?_⟩
      refine wpR_q 2 (by kernel_rfl) rfl (quietAt rfl rfl (q_eqlF2 rfl Try.eqGuardType27 (fl27_StepsSays1 _ _ _ _) rfl rfl)) ?_
      refine wpR_q 3 (by kernel_rfl) rfl (quietAt rfl rfl (q_move (v := B (decide (((backF q n holds).1) = 9 ∧ ((backF q n holds).2) = (-3)))) rfl rfl)) ?_
      by_cases hg169 : ((backF q n holds).1) = 9 ∧ ((backF q n holds).2) = (-3)
      · have hb170 := Eq.trans rfl (congrArg B (decide_eq_true hg169))
        refine wpR_q 4 (by kernel_rfl) rfl (quietAt_g rfl rfl rfl rfl hb170 (q_move (v := r64) rfl a166_11)) ?_
        refine wpR_q 5 (by kernel_rfl) rfl (quietAt_g rfl rfl rfl rfl hb170 (q_lenRd rfl Try.underlying22 rfl (hS168o1.rdl 1 rfl))) ?_
        refine wpR_q 6 (by kernel_rfl) rfl (quietAt_g rfl rfl rfl rfl hb170 (q_eql rfl rfl rfl)) ?_
        refine wpR_q 7 (by kernel_rfl) rfl (quietAt rfl rfl (q_pickT (v := B (decide (((backP q n holds).length : Int) = 0))) rfl hb170 rfl)) ?_
        refine wpR_q 8 (by kernel_rfl) rfl (quietAt rfl rfl (q_assign (v := B (decide (((backP q n holds).length : Int) = 0))) rfl rfl)) ?_
        refine wpR_end (by kernel_rfl) ?_
        exact ⟨(Eq.trans rfl (congrArg B (decide_congr_of ((Iff.rfl).trans (((and_iff_right hg169).trans Iff.rfl)).symm)))), (hS168o1.drop (sk (sn (sk (sk (sk (sk (sk (sk (sk (sk (sk (List.Sublist.slnil)))))))))))))⟩
      · have hb171 := Eq.trans rfl (congrArg B (decide_eq_false hg169))
        refine wpR_q 4 (by kernel_rfl) rfl (quietAt_s rfl rfl rfl rfl hb171 rfl) ?_
        refine wpR_q 5 (by kernel_rfl) rfl (quietAt_s rfl rfl rfl rfl hb171 rfl) ?_
        refine wpR_q 6 (by kernel_rfl) rfl (quietAt_s rfl rfl rfl rfl hb171 rfl) ?_
        refine wpR_q 7 (by kernel_rfl) rfl (quietAt rfl rfl (q_pickF (v := B (false)) rfl hb171 rfl)) ?_
        refine wpR_q 8 (by kernel_rfl) rfl (quietAt rfl rfl (q_assign (v := B (false)) rfl rfl)) ?_
        refine wpR_end (by kernel_rfl) ?_
        exact ⟨(Eq.trans rfl (congrArg B ((decide_eq_false (fun h => hg169 h.1)).symm))), (hS168o1.drop (sk (sn (sk (sk (sk (sk (sk (sk (sk (sk (sk (List.Sublist.slnil)))))))))))))⟩
    rintro f172 H172 ⟨a172_6, hS172⟩
    clear a166_1 a166_11 a166_12 a166_123 a166_2 a166_3
    refine wpF_ret ?_
    refine ⟨_, resT a172_6 resN, hS172.frame, ?_⟩
    show (B (decide ((((backF q n holds).1) = 9 ∧ ((backF q n holds).2) = (-3)) ∧ (((backP q n holds).length : Int) = 0)))) = B true
    obtain ⟨b1, b2⟩ := backF_2 hcf (by rw [← hvv]; exact h123)
    exact congrArg B (decide_eq_true (by rw [b1, b2]; simp))
  refine wpF_skip ?_
  refine wpF_seq ?_
  refine wpF_cut (fun f H => f 1 = I (n) ∧ f 2 = vh ∧ f 3 = PT g1 0 ∧ f 11 = r64 ∧ f 12 = PT g68 0 ∧ f 14 = (Value.slice none 0 0) ∧ H163 = H) ?_ ?_
  · refine wpF_region ?_
    refine wpL_q (U := NoB) rfl (q_assign (v := (Value.slice none 0 0)) rfl rfl) ?_
    exact ⟨a166_1, a166_2, a166_3, a166_11, a166_12, rfl, rfl⟩
  rintro f173 _ ⟨a173_1, a173_2, a173_3, a173_11, a173_12, a173_14, rfl⟩
  clear a166_1 a166_11 a166_12 a166_123 a166_2 a166_3
  have hS174 : St H0 NoB NoB [rowE 3 (Value.slice none 0 0) ([] : List Int), blkE g68 (.cells #[I ((backF q n holds).1), I ((backF q n holds).2)] 27), rdE r64 (backP q n holds), blkE g56 (.cells #[I ((doF q n).1), I ((doF q n).2)] 27), blkE g53 (.cells #[I ((doV q n)), r49] 58), rdE r49 (doC q n), blkE g11 (.cells #[I (c2), I (e2)] 27), blkE g1 (.cells #[I (q.Facts), vf, vg, va] 25), rdE vf q.First, rdE vg q.Goal, rdE va q.Acts, rdE vh holds] H163 := hS163.row0 3
  refine wpF_seq ?_
  refine wpF_seq ?_
  refine wpF_cut (fun f H => f 1 = I (n) ∧ f 2 = vh ∧ f 3 = PT g1 0 ∧ f 11 = r64 ∧ f 12 = PT g68 0 ∧ f 14 = (Value.slice none 0 0) ∧ f 15 = I (0) ∧ H163 = H) ?_ ?_
  · refine wpF_region ?_
    refine wpL_q (U := NoB) rfl (q_assign (v := I (0)) rfl rfl) ?_
    exact ⟨a173_1, a173_2, a173_3, a173_11, a173_12, a173_14, rfl, rfl⟩
  rintro f175 _ ⟨a175_1, a175_2, a175_3, a175_11, a175_12, a175_14, a175_15, rfl⟩
  clear a173_1 a173_11 a173_12 a173_14 a173_2 a173_3
  refine wpF_block ?_
  refine wpF_loop (fun mz f H => ∃ (u : Nat), ∃ (vo : Value), mz = n.toNat - u ∧ (u ≤ n.toNat) ∧ (∀ j, j < u → ¬ bkAt q n holds j < 0) ∧ f 1 = I (n) ∧ f 2 = vh ∧ f 3 = PT g1 0 ∧ f 11 = r64 ∧ f 12 = PT g68 0 ∧ f 14 = vo ∧ f 15 = I ((u : Int)) ∧ St H0 NoB NoB [rowE 3 vo (backL q n holds u : List Int), blkE g68 (.cells #[I ((backF q n holds).1), I ((backF q n holds).2)] 27), rdE r64 (backP q n holds), blkE g56 (.cells #[I ((doF q n).1), I ((doF q n).2)] 27), blkE g53 (.cells #[I ((doV q n)), r49] 58), rdE r49 (doC q n), blkE g11 (.cells #[I (c2), I (e2)] 27), blkE g1 (.cells #[I (q.Facts), vf, vg, va] 25), rdE vf q.First, rdE vg q.Goal, rdE va q.Acts, rdE vh holds] H) (n.toNat - 0) ?_ ?_
  · exact ⟨0, (Value.slice none 0 0), rfl, Nat.zero_le _, (fun j hj => absurd hj (Nat.not_lt_zero j)), a175_1, a175_2, a175_3, a175_11, a175_12, a175_14, (Eq.trans a175_15 (congrArg I (by omega))), (show St H0 NoB NoB [rowE 3 (Value.slice none 0 0) (backL q n holds 0 : List Int), blkE g68 (.cells #[I ((backF q n holds).1), I ((backF q n holds).2)] 27), rdE r64 (backP q n holds), blkE g56 (.cells #[I ((doF q n).1), I ((doF q n).2)] 27), blkE g53 (.cells #[I ((doV q n)), r49] 58), rdE r49 (doC q n), blkE g11 (.cells #[I (c2), I (e2)] 27), blkE g1 (.cells #[I (q.Facts), vf, vg, va] 25), rdE vf q.First, rdE vg q.Goal, rdE va q.Acts, rdE vh holds] H163 from hS174)⟩
  intro m176 f176 H176 hI176
  obtain ⟨u, vo, hm176, hu, hno, a176_1, a176_2, a176_3, a176_11, a176_12, a176_14, a176_15, hS176⟩ := hI176
  clear a175_1 a175_11 a175_12 a175_14 a175_15 a175_2 a175_3
  refine wpF_seq ?_
  refine wpF_seq ?_
  refine wpF_cut (fun f H => f 1 = I (n) ∧ f 2 = vh ∧ f 3 = PT g1 0 ∧ f 11 = r64 ∧ f 12 = PT g68 0 ∧ f 14 = vo ∧ f 15 = I ((u : Int)) ∧ f 134 = B (decide ((u : Int) < n)) ∧ H176 = H) ?_ ?_
  · refine wpF_region ?_
    refine wpL_q (U := NoB) rfl (q_move (v := I ((u : Int))) rfl a176_15) ?_
    refine wpL_q (U := NoB) rfl (q_move (v := I (n)) rfl a176_1) ?_
    refine wpL_q (U := NoB) rfl (q_lss rfl rfl rfl) ?_
    exact ⟨a176_1, a176_2, a176_3, a176_11, a176_12, a176_14, a176_15, rfl, rfl⟩
  rintro f177 _ ⟨a177_1, a177_2, a177_3, a177_11, a177_12, a177_14, a177_15, a177_134, rfl⟩
  clear a176_1 a176_11 a176_12 a176_14 a176_15 a176_2 a176_3
  refine wpF_condP a177_134 (fun h134 => ?t214) (fun h134 => ?e214)
  case e214 =>
    refine wpF_exit ?_
    refine atX_here ?_
    refine wpF_seq ?_
    refine wpF_cut (fun f H => f 6 = B (decide ((((backF q n holds).1) = 0) ∧ ((backP q n holds) = (backL q n holds u)))) ∧ St H0 NoB NoB [rowE 3 vo (backL q n holds u : List Int), blkE g68 (.cells #[I ((backF q n holds).1), I ((backF q n holds).2)] 27), blkE g56 (.cells #[I ((doF q n).1), I ((doF q n).2)] 27), blkE g53 (.cells #[I ((doV q n)), r49] 58), rdE r49 (doC q n), blkE g11 (.cells #[I (c2), I (e2)] 27), blkE g1 (.cells #[I (q.Facts), vf, vg, va] 25), rdE vf q.First, rdE vg q.Goal, rdE va q.Acts, rdE vh holds] H) ?_ ?_
    · refine wpF_region ?_
      refine wpL_q (U := NoB) rfl (q_fieldAddr rfl Try.underlying27 rfl Try.sizeOf3 a177_12) ?_
      refine wpL_q (U := NoB) rfl (q_loadBlk rfl rfl Try.isAgg3 (hS176.blk 1 rfl) rfl (fun h => h)) ?_
      refine wpL_q (U := NoB) rfl (q_eql rfl rfl rfl) ?_
      refine wpL_q (U := NoB) rfl (q_move (v := B (decide (((backF q n holds).1) = 0))) rfl rfl) ?_
      by_cases hg207 : ((backF q n holds).1) = 0
      · have hb208 := Eq.trans rfl (congrArg B (decide_eq_true hg207))
        refine wpL_gq (U := NoB) rfl rfl rfl hb208 (q_move (v := r64) rfl a177_11) ?_
        refine wpL_gq (U := NoB) rfl rfl rfl hb208 (q_move (v := vo) rfl a177_14) ?_
        refine wpL_go rfl rfl rfl hb208 ?_
        refine e_call rfl Try.call26 (arr2 (v0 := r64) (v1 := vo) rfl rfl) (Ints_R r64 vo _ _ (hS176.rdN 2 rfl) (hS176.rowN 0 rfl)) ?_
        rintro _ H210 ⟨hxx, rfl⟩
        have hS211 : St H0 NoB NoB [rowE 3 vo (backL q n holds u : List Int), blkE g68 (.cells #[I ((backF q n holds).1), I ((backF q n holds).2)] 27), rdE r64 (backP q n holds), blkE g56 (.cells #[I ((doF q n).1), I ((doF q n).2)] 27), blkE g53 (.cells #[I ((doV q n)), r49] 58), rdE r49 (doC q n), blkE g11 (.cells #[I (c2), I (e2)] 27), blkE g1 (.cells #[I (q.Facts), vf, vg, va] 25), rdE vf q.First, rdE vg q.Goal, rdE va q.Acts, rdE vh holds] H210 := hS176.ext hxx
        refine wpL_q (U := NoB) rfl (q_pickT (v := B (decide ((backP q n holds) = (backL q n holds u)))) rfl hb208 rfl) ?_
        refine wpL_q (U := NoB) rfl (q_assign (v := B (decide ((backP q n holds) = (backL q n holds u)))) rfl rfl) ?_
        exact ⟨(Eq.trans rfl (congrArg B (decide_congr_of ((Iff.rfl).trans (((and_iff_right hg207).trans Iff.rfl)).symm)))), (hS211.drop (sk (sk (sn (sk (sk (sk (sk (sk (sk (sk (sk (sk (List.Sublist.slnil))))))))))))))⟩
      · have hb209 := Eq.trans rfl (congrArg B (decide_eq_false hg207))
        refine wpL_gs rfl rfl rfl hb209 rfl ?_
        refine wpL_gs rfl rfl rfl hb209 rfl ?_
        refine wpL_gs rfl rfl rfl hb209 rfl ?_
        refine wpL_q (U := NoB) rfl (q_pickF (v := B (false)) rfl hb209 rfl) ?_
        refine wpL_q (U := NoB) rfl (q_assign (v := B (false)) rfl rfl) ?_
        exact ⟨(Eq.trans rfl (congrArg B ((decide_eq_false (fun h => hg207 h.1)).symm))), (hS176.drop (sk (sk (sn (sk (sk (sk (sk (sk (sk (sk (sk (sk (List.Sublist.slnil))))))))))))))⟩
    rintro f213 H213 ⟨a213_6, hS213⟩
    clear a177_1 a177_11 a177_12 a177_134 a177_14 a177_15 a177_2 a177_3
    refine wpF_ret ?_
    refine ⟨_, resT a213_6 resN, hS213.frame, ?_⟩
    show (B (decide ((((backF q n holds).1) = 0) ∧ ((backP q n holds) = (backL q n holds u))))) = B true
    obtain ⟨b1, b2⟩ := backF_4 hcf (by rw [← hvv]; exact h123) (fun j hj => hno j (by omega))
    have hun : u = n.toNat := by omega
    subst hun
    exact congrArg B (decide_eq_true (by rw [b1, b2]; simp))
  have hol := backL_len (q := q) (n := n) (holds := holds) (u := u)
  have ham := acts_mul (q := q) (u := u) (n := n) (by omega)
  have har := act_rng hQ (a := 0) (t := (u : Int)) hn (by omega) (by omega)
  have hvd : varsN q n = (n + 1) * q.Facts + n * (q.Acts.length : Int) := rfl
  refine wpF_skip ?_
  refine wpF_seq ?_
  refine wpF_block ?_
  refine wpF_seq ?_
  refine wpF_cut (fun f H => f 1 = I (n) ∧ f 2 = vh ∧ f 3 = PT g1 0 ∧ f 11 = r64 ∧ f 12 = PT g68 0 ∧ f 14 = vo ∧ f 15 = I ((u : Int)) ∧ f 16 = I (0) ∧ H176 = H) ?_ ?_
  · refine wpF_region ?_
    refine wpL_q (U := NoB) rfl (q_assign (v := I (0)) rfl rfl) ?_
    exact ⟨a177_1, a177_2, a177_3, a177_11, a177_12, a177_14, a177_15, rfl, rfl⟩
  rintro f179 _ ⟨a179_1, a179_2, a179_3, a179_11, a179_12, a179_14, a179_15, a179_16, rfl⟩
  clear a177_1 a177_11 a177_12 a177_134 a177_14 a177_15 a177_2 a177_3
  refine wpF_seq ?_
  refine wpF_block ?_
  refine wpF_loop (fun mz f H => ∃ (k : Nat), mz = q.Acts.length - k ∧ (k ≤ q.Acts.length) ∧ (∀ j : Nat, j < k → nth holds (actV q n (j : Int) (u : Int) - 1).toNat = false) ∧ f 1 = I (n) ∧ f 2 = vh ∧ f 3 = PT g1 0 ∧ f 11 = r64 ∧ f 12 = PT g68 0 ∧ f 14 = vo ∧ f 15 = I ((u : Int)) ∧ f 16 = I ((k : Int)) ∧ St H0 NoB NoB [rowE 3 vo (backL q n holds u : List Int), blkE g68 (.cells #[I ((backF q n holds).1), I ((backF q n holds).2)] 27), rdE r64 (backP q n holds), blkE g56 (.cells #[I ((doF q n).1), I ((doF q n).2)] 27), blkE g53 (.cells #[I ((doV q n)), r49] 58), rdE r49 (doC q n), blkE g11 (.cells #[I (c2), I (e2)] 27), blkE g1 (.cells #[I (q.Facts), vf, vg, va] 25), rdE vf q.First, rdE vg q.Goal, rdE va q.Acts, rdE vh holds] H) (q.Acts.length - 0) ?_ ?_
  · exact ⟨0, rfl, Nat.zero_le _, (fun j hj => absurd hj (Nat.not_lt_zero j)), a179_1, a179_2, a179_3, a179_11, a179_12, a179_14, a179_15, (Eq.trans a179_16 (congrArg I (by omega))), hS176⟩
  intro m180 f180 H180 hI180
  obtain ⟨k, hm180, hk, hk2, a180_1, a180_2, a180_3, a180_11, a180_12, a180_14, a180_15, a180_16, hS180⟩ := hI180
  clear a179_1 a179_11 a179_12 a179_14 a179_15 a179_16 a179_2 a179_3
  refine wpF_seq ?_
  refine wpF_seq ?_
  refine wpF_cut (fun f H => f 1 = I (n) ∧ f 2 = vh ∧ f 3 = PT g1 0 ∧ f 11 = r64 ∧ f 12 = PT g68 0 ∧ f 14 = vo ∧ f 15 = I ((u : Int)) ∧ f 16 = I ((k : Int)) ∧ f 160 = B (decide (((k : Int) < (q.Acts.length : Int)) ∧ ((!(nth holds (((((n + 1) * q.Facts) + ((u : Int) * (q.Acts.length : Int))) + (k : Int)).toNat))) = true))) ∧ H180 = H) ?_ ?_
  · refine wpF_region ?_
    refine wpL_q (U := NoB) rfl (q_move (v := I ((k : Int))) rfl a180_16) ?_
    refine wpL_q (U := NoB) rfl (q_fieldAddr rfl Try.underlying25 rfl Try.sizeOf23 a180_3) ?_
    refine wpL_q (U := NoB) rfl (q_loadBlk rfl rfl Try.isAgg23 (hS180.blk 7 rfl) rfl (fun h => h)) ?_
    refine wpL_q (U := NoB) rfl (q_lenRd rfl Try.underlying23 rfl (hS180.rdl 10 rfl)) ?_
    refine wpL_q (U := NoB) rfl (q_lss rfl rfl rfl) ?_
    refine wpL_q (U := NoB) rfl (q_move (v := B (decide ((k : Int) < (q.Acts.length : Int)))) rfl rfl) ?_
    by_cases hg181 : (k : Int) < (q.Acts.length : Int)
    · have hb182 := Eq.trans rfl (congrArg B (decide_eq_true hg181))
      refine wpL_gq (U := NoB) rfl rfl rfl hb182 (q_move (v := vh) rfl a180_2) ?_
      refine wpL_gq (U := NoB) rfl rfl rfl hb182 (q_move (v := I (n)) rfl a180_1) ?_
      refine wpL_gq (U := NoB) rfl rfl rfl hb182 (q_add rfl rfl rfl (by constructor <;> omega)) ?_
      refine wpL_gq (U := NoB) rfl rfl rfl hb182 (q_fieldAddr rfl Try.underlying25 rfl Try.sizeOf3 a180_3) ?_
      refine wpL_gq (U := NoB) rfl rfl rfl hb182 (q_loadBlk rfl rfl Try.isAgg3 (hS180.blk 7 rfl) rfl (fun h => h)) ?_
      refine wpL_gq (U := NoB) rfl rfl rfl hb182 (q_mul rfl rfl rfl (by constructor <;> omega)) ?_
      refine wpL_gq (U := NoB) rfl rfl rfl hb182 (q_move (v := I ((u : Int))) rfl a180_15) ?_
      refine wpL_gq (U := NoB) rfl rfl rfl hb182 (q_fieldAddr rfl Try.underlying25 rfl Try.sizeOf23 a180_3) ?_
      refine wpL_gq (U := NoB) rfl rfl rfl hb182 (q_loadBlk rfl rfl Try.isAgg23 (hS180.blk 7 rfl) rfl (fun h => h)) ?_
      refine wpL_gq (U := NoB) rfl rfl rfl hb182 (q_lenRd rfl Try.underlying23 rfl (hS180.rdl 10 rfl)) ?_
      refine wpL_gq (U := NoB) rfl rfl rfl hb182 (q_mul rfl rfl rfl (by constructor <;> omega)) ?_
      refine wpL_gq (U := NoB) rfl rfl rfl hb182 (q_add rfl rfl rfl (by constructor <;> omega)) ?_
      refine wpL_gq (U := NoB) rfl rfl rfl hb182 (q_move (v := I ((k : Int))) rfl a180_16) ?_
      refine wpL_gq (U := NoB) rfl rfl rfl hb182 (q_add rfl rfl rfl (by constructor <;> omega)) ?_
      refine wpL_gq (U := NoB) rfl rfl rfl hb182 (q_indexRd (k := ((((n + 1) * q.Facts) + ((u : Int) * (q.Acts.length : Int))) + (k : Int)).toNat) rfl Try.underlying29 el_Bool_4_StepsSays1 rfl rfl (hS180.rdl 11 rfl) (by omega) (by omega)) ?_
      refine wpL_gq (U := NoB) rfl rfl rfl hb182 (q_loadBool (k := ((((n + 1) * q.Facts) + ((u : Int) * (q.Acts.length : Int))) + (k : Int)).toNat) rfl rfl el_Bool_4_StepsSays1 (hS180.rdl 11 rfl) (by omega) (fun _ h => h)) ?_
      refine wpL_gq (U := NoB) rfl rfl rfl hb182 (q_not rfl rfl) ?_
      refine wpL_q (U := NoB) rfl (q_pickT (v := B (!(nth holds (((((n + 1) * q.Facts) + ((u : Int) * (q.Acts.length : Int))) + (k : Int)).toNat)))) rfl hb182 rfl) ?_
      exact ⟨a180_1, a180_2, a180_3, a180_11, a180_12, a180_14, a180_15, a180_16, (Eq.trans rfl (congrArg B (bool_congr_of ((Iff.rfl).trans (((and_iff_right hg181).trans Iff.rfl)).symm)))), rfl⟩
    · have hb183 := Eq.trans rfl (congrArg B (decide_eq_false hg181))
      refine wpL_gs rfl rfl rfl hb183 rfl ?_
      refine wpL_gs rfl rfl rfl hb183 rfl ?_
      refine wpL_gs rfl rfl rfl hb183 rfl ?_
      refine wpL_gs rfl rfl rfl hb183 rfl ?_
      refine wpL_gs rfl rfl rfl hb183 rfl ?_
      refine wpL_gs rfl rfl rfl hb183 rfl ?_
      refine wpL_gs rfl rfl rfl hb183 rfl ?_
      refine wpL_gs rfl rfl rfl hb183 rfl ?_
      refine wpL_gs rfl rfl rfl hb183 rfl ?_
      refine wpL_gs rfl rfl rfl hb183 rfl ?_
      refine wpL_gs rfl rfl rfl hb183 rfl ?_
      refine wpL_gs rfl rfl rfl hb183 rfl ?_
      refine wpL_gs rfl rfl rfl hb183 rfl ?_
      refine wpL_gs rfl rfl rfl hb183 rfl ?_
      refine wpL_gs rfl rfl rfl hb183 rfl ?_
      refine wpL_gs rfl rfl rfl hb183 rfl ?_
      refine wpL_gs rfl rfl rfl hb183 rfl ?_
      refine wpL_q (U := NoB) rfl (q_pickF (v := B (false)) rfl hb183 rfl) ?_
      exact ⟨a180_1, a180_2, a180_3, a180_11, a180_12, a180_14, a180_15, a180_16, (Eq.trans rfl (congrArg B ((decide_eq_false (fun h => hg181 h.1)).symm))), rfl⟩
  rintro f184 _ ⟨a184_1, a184_2, a184_3, a184_11, a184_12, a184_14, a184_15, a184_16, a184_160, rfl⟩
  clear a180_1 a180_11 a180_12 a180_14 a180_15 a180_16 a180_2 a180_3
  refine wpF_condP a184_160 (fun h160 => ?t206) (fun h160 => ?e206)
  case t206 =>
    refine wpF_skip ?_
    refine wpF_block ?_
    refine wpF_cut (fun f H => f 1 = I (n) ∧ f 2 = vh ∧ f 3 = PT g1 0 ∧ f 11 = r64 ∧ f 12 = PT g68 0 ∧ f 14 = vo ∧ f 15 = I ((u : Int)) ∧ f 16 = I ((k : Int) + 1) ∧ H180 = H) ?_ ?_
    · refine wpF_region ?_
      refine wpL_q (U := NoB) rfl (q_move (v := I ((k : Int))) rfl a184_16) ?_
      refine wpL_q (U := NoB) rfl (q_add rfl rfl rfl (by constructor <;> omega)) ?_
      refine wpL_q (U := NoB) rfl (q_assign (v := I ((k : Int) + 1)) rfl rfl) ?_
      exact ⟨a184_1, a184_2, a184_3, a184_11, a184_12, a184_14, a184_15, rfl, rfl⟩
    rintro f186 _ ⟨a186_1, a186_2, a186_3, a186_11, a186_12, a186_14, a186_15, a186_16, rfl⟩
    clear a184_1 a184_11 a184_12 a184_14 a184_15 a184_16 a184_160 a184_2 a184_3
    refine ⟨_, ?_, k + 1, rfl, (by omega), (all_succ hk2 (by have h9 := h160.2; rw [show (actV q n (k : Int) (u : Int) - 1) = (((n + 1) * q.Facts + (u : Int) * (q.Acts.length : Int)) + (k : Int)) by simp [actV]]; simpa using h9)), a186_1, a186_2, a186_3, a186_11, a186_12, a186_14, a186_15, (Eq.trans a186_16 (congrArg I (by omega))), hS180⟩
    omega
  refine wpF_exit ?_
  refine atX_here ?_
  refine wpF_seq ?_
  refine wpF_seq ?_
  have hk3 : ∀ j, j < k → ¬ nth holds (actV q n (j : Nat) (u : Int) - 1).toNat = true := fun j hj => by simpa using hk2 j hj
  refine wpF_cut (fun f H => f 1 = I (n) ∧ f 2 = vh ∧ f 3 = PT g1 0 ∧ f 11 = r64 ∧ f 12 = PT g68 0 ∧ f 14 = vo ∧ f 15 = I ((u : Int)) ∧ f 16 = I ((k : Int)) ∧ f 167 = B (decide ((k : Int) = (q.Acts.length : Int))) ∧ H180 = H) ?_ ?_
  · refine wpF_region ?_
    refine wpL_q (U := NoB) rfl (q_move (v := I ((k : Int))) rfl a184_16) ?_
    refine wpL_q (U := NoB) rfl (q_fieldAddr rfl Try.underlying25 rfl Try.sizeOf23 a184_3) ?_
    refine wpL_q (U := NoB) rfl (q_loadBlk rfl rfl Try.isAgg23 (hS180.blk 7 rfl) rfl (fun h => h)) ?_
    refine wpL_q (U := NoB) rfl (q_lenRd rfl Try.underlying23 rfl (hS180.rdl 10 rfl)) ?_
    refine wpL_q (U := NoB) rfl (q_eql rfl rfl rfl) ?_
    exact ⟨a184_1, a184_2, a184_3, a184_11, a184_12, a184_14, a184_15, a184_16, rfl, rfl⟩
  rintro f187 _ ⟨a187_1, a187_2, a187_3, a187_11, a187_12, a187_14, a187_15, a187_16, a187_167, rfl⟩
  clear a184_1 a184_11 a184_12 a184_14 a184_15 a184_16 a184_160 a184_2 a184_3
  refine wpF_condP a187_167 (fun h167 => ?t205) (fun h167 => ?e205)
  case e205 =>
    have hbk := bkAt_is hk3 (by omega) (by have h9 := h160; rw [not_and] at h9; have h8 := h9 (by omega); rw [show (actV q n (k : Int) (u : Int) - 1) = (((n + 1) * q.Facts + (u : Int) * (q.Acts.length : Int)) + (k : Int)) by simp [actV]]; simpa using h8)
    refine wpF_skip ?_
    refine wpF_cut (fun f H => ∃ (v199 : Value), f 1 = I (n) ∧ f 2 = vh ∧ f 3 = PT g1 0 ∧ f 11 = r64 ∧ f 12 = PT g68 0 ∧ f 14 = v199 ∧ f 15 = I ((u : Int)) ∧ St H0 NoB NoB [rowE 3 v199 (backL q n holds (u + 1) : List Int), blkE g68 (.cells #[I ((backF q n holds).1), I ((backF q n holds).2)] 27), rdE r64 (backP q n holds), blkE g56 (.cells #[I ((doF q n).1), I ((doF q n).2)] 27), blkE g53 (.cells #[I ((doV q n)), r49] 58), rdE r49 (doC q n), blkE g11 (.cells #[I (c2), I (e2)] 27), blkE g1 (.cells #[I (q.Facts), vf, vg, va] 25), rdE vf q.First, rdE vg q.Goal, rdE va q.Acts, rdE vh holds] H) ?_ ?_
    · refine wpF_region ?_
      refine wpL_q (U := NoB) rfl (q_move (v := vo) rfl a187_14) ?_
      refine wpL_q (U := NoB) rfl (q_move (v := I ((k : Int))) rfl a187_16) ?_
      refine wpL_o rfl ?_
      refine e_buildSlice (vs := [I ((k : Int))]) (xs := ([(k : Int)] : List Int)) rfl Try.underlying22 Try.zeroValue3 rfl Try.sizeOf3 (par1 (v0 := I ((k : Int))) rfl) rfl hS180 (RdVs.cons (Rd.int.2 ⟨rfl, by first | assumption | (constructor <;> omega)⟩) (RdVs.nil)) (by decide) (by decide) (fun v194 H195 hS196 hxx hvv194 => ?_)
      replace hS196 : St H0 NoB NoB [rowE 3 v194 ([(k : Int)] : List Int), rowE 3 vo (backL q n holds u : List Int), blkE g68 (.cells #[I ((backF q n holds).1), I ((backF q n holds).2)] 27), rdE r64 (backP q n holds), blkE g56 (.cells #[I ((doF q n).1), I ((doF q n).2)] 27), blkE g53 (.cells #[I ((doV q n)), r49] 58), rdE r49 (doC q n), blkE g11 (.cells #[I (c2), I (e2)] 27), blkE g1 (.cells #[I (q.Facts), vf, vg, va] 25), rdE vf q.First, rdE vg q.Goal, rdE va q.Acts, rdE vh holds] H195 := hS196
      have hS197 : St H0 NoB NoB [rdE v194 ([(k : Int)] : List Int), rowE 3 vo (backL q n holds u : List Int), blkE g68 (.cells #[I ((backF q n holds).1), I ((backF q n holds).2)] 27), rdE r64 (backP q n holds), blkE g56 (.cells #[I ((doF q n).1), I ((doF q n).2)] 27), blkE g53 (.cells #[I ((doV q n)), r49] 58), rdE r49 (doC q n), blkE g11 (.cells #[I (c2), I (e2)] 27), blkE g1 (.cells #[I (q.Facts), vf, vg, va] 25), rdE vf q.First, rdE vg q.Goal, rdE va q.Acts, rdE vh holds] H195 := St.fin hS196
      have hS198 : St H0 NoB NoB [rowE 3 vo (backL q n holds u : List Int), rdE v194 ([(k : Int)] : List Int), blkE g68 (.cells #[I ((backF q n holds).1), I ((backF q n holds).2)] 27), rdE r64 (backP q n holds), blkE g56 (.cells #[I ((doF q n).1), I ((doF q n).2)] 27), blkE g53 (.cells #[I ((doV q n)), r49] 58), rdE r49 (doC q n), blkE g11 (.cells #[I (c2), I (e2)] 27), blkE g1 (.cells #[I (q.Facts), vf, vg, va] 25), rdE vf q.First, rdE vg q.Goal, rdE va q.Acts, rdE vh holds] H195 := (hS197.front 1 rfl)
      refine wpL_o rfl ?_
      refine e_append rfl Try.underlying22 em_Int_3_StepsSays1 rfl rfl hS198 (hS198.rdS 1 rfl) (fun _ h => h) (by have hb : GoT.bytes Int = 8 := rfl; simp [hb]; omega) (by decide) (fun v199 H200 hS201 hxx => ?_)
      replace hS201 : St H0 NoB NoB [rowE 3 v199 ((backL q n holds u) ++ ([(k : Int)]) : List Int), rdE v194 ([(k : Int)] : List Int), blkE g68 (.cells #[I ((backF q n holds).1), I ((backF q n holds).2)] 27), rdE r64 (backP q n holds), blkE g56 (.cells #[I ((doF q n).1), I ((doF q n).2)] 27), blkE g53 (.cells #[I ((doV q n)), r49] 58), rdE r49 (doC q n), blkE g11 (.cells #[I (c2), I (e2)] 27), blkE g1 (.cells #[I (q.Facts), vf, vg, va] 25), rdE vf q.First, rdE vg q.Goal, rdE va q.Acts, rdE vh holds] H200 := hS201
      have hS202 : St H0 NoB NoB [rowE 3 v199 (backL q n holds (u + 1) : List Int), rdE v194 ([(k : Int)] : List Int), blkE g68 (.cells #[I ((backF q n holds).1), I ((backF q n holds).2)] 27), rdE r64 (backP q n holds), blkE g56 (.cells #[I ((doF q n).1), I ((doF q n).2)] 27), blkE g53 (.cells #[I ((doV q n)), r49] 58), rdE r49 (doC q n), blkE g11 (.cells #[I (c2), I (e2)] 27), blkE g1 (.cells #[I (q.Facts), vf, vg, va] 25), rdE vf q.First, rdE vg q.Goal, rdE va q.Acts, rdE vh holds] H200 := by rw [show (backL q n holds (u + 1)) = ((backL q n holds u) ++ ([(k : Int)])) from (by rw [backL_next, hbk])]; exact hS201
      refine wpL_q (U := NoB) rfl (q_assign (v := v199) rfl rfl) ?_
      exact ⟨v199, a187_1, a187_2, a187_3, a187_11, a187_12, rfl, a187_15, (hS202.drop (sk (sn (sk (sk (sk (sk (sk (sk (sk (sk (sk (sk (sk (List.Sublist.slnil)))))))))))))))⟩
    rintro f203 H203 ⟨v199, a203_1, a203_2, a203_3, a203_11, a203_12, a203_14, a203_15, hS203⟩
    clear a187_1 a187_11 a187_12 a187_14 a187_15 a187_16 a187_167 a187_2 a187_3
    refine wpF_cut (fun f H => f 1 = I (n) ∧ f 2 = vh ∧ f 3 = PT g1 0 ∧ f 11 = r64 ∧ f 12 = PT g68 0 ∧ f 14 = v199 ∧ f 15 = I ((u : Int) + 1) ∧ H203 = H) ?_ ?_
    · refine wpF_region ?_
      refine wpL_q (U := NoB) rfl (q_move (v := I ((u : Int))) rfl a203_15) ?_
      refine wpL_q (U := NoB) rfl (q_add rfl rfl rfl (by constructor <;> omega)) ?_
      refine wpL_q (U := NoB) rfl (q_assign (v := I ((u : Int) + 1)) rfl rfl) ?_
      exact ⟨a203_1, a203_2, a203_3, a203_11, a203_12, a203_14, rfl, rfl⟩
    rintro f204 _ ⟨a204_1, a204_2, a204_3, a204_11, a204_12, a204_14, a204_15, rfl⟩
    clear a203_1 a203_11 a203_12 a203_14 a203_15 a203_2 a203_3
    refine ⟨_, ?_, u + 1, v199, rfl, (by omega), (all_succ hno (by rw [hbk]; omega)), a204_1, a204_2, a204_3, a204_11, a204_12, a204_14, (Eq.trans a204_15 (congrArg I (by omega))), hS203⟩
    omega
  refine wpF_seq ?_
  refine wpF_cut (fun f H => f 6 = B (decide ((((backF q n holds).1) = 6 ∧ ((backF q n holds).2) = (u : Int)) ∧ (((backP q n holds).length : Int) = 0))) ∧ St H0 NoB NoB [rowE 3 vo (backL q n holds u : List Int), blkE g68 (.cells #[I ((backF q n holds).1), I ((backF q n holds).2)] 27), blkE g56 (.cells #[I ((doF q n).1), I ((doF q n).2)] 27), blkE g53 (.cells #[I ((doV q n)), r49] 58), rdE r49 (doC q n), blkE g11 (.cells #[I (c2), I (e2)] 27), blkE g1 (.cells #[I (q.Facts), vf, vg, va] 25), rdE vf q.First, rdE vg q.Goal, rdE va q.Acts, rdE vh holds] H) ?_ ?_
  · refine wpF_drawn [] [] (fun _ _ => False) (by kernel_rfl) (by kernel_rfl) ?_
    refine wpR_q 0 (by kernel_rfl) rfl (quietAt rfl rfl (q_loadBlkA rfl a187_12 Try.isAgg27 Try.sizeOf27 rfl (hS180.blk 1 rfl) (labU_not [] rfl (List.forall_mem_nil _)))) ?_
    refine wpR_q 1 (by kernel_rfl) rfl (quietAt rfl rfl (q_move (v := I ((u : Int))) rfl a187_15)) ?_
    refine wpR_n [2] (by kernel_rfl) ?_
    refine List.forall_mem_cons.2 ⟨?_, List.forall_mem_nil _⟩
    refine exE rfl rfl ?_
    refine e_call rfl Try.call15 (arr2 (v0 := I (6)) (v1 := I ((u : Int))) rfl rfl) (fault_L 6 (u : Int)) ?_
    rintro _ H189o2 ⟨hxx, rfl⟩
    have hS189o2 : St H0 NoB NoB [rowE 3 vo (backL q n holds u : List Int), blkE g68 (.cells #[I ((backF q n holds).1), I ((backF q n holds).2)] 27), rdE r64 (backP q n holds), blkE g56 (.cells #[I ((doF q n).1), I ((doF q n).2)] 27), blkE g53 (.cells #[I ((doV q n)), r49] 58), rdE r49 (doC q n), blkE g11 (.cells #[I (c2), I (e2)] 27), blkE g1 (.cells #[I (q.Facts), vf, vg, va] 25), rdE vf q.First, rdE vg q.Goal, rdE va q.Acts, rdE vh holds] H189o2 := hS180.ext hxx
    refine ⟨Ext.mono hxx (fun _ h => h.elim), ?_⟩
    refine wpR_q 3 (by kernel_rfl) rfl (quietAt rfl rfl (q_eqlF2 rfl Try.eqGuardType27 (fl27_StepsSays1 _ _ _ _) rfl rfl)) ?_
    refine wpR_q 4 (by kernel_rfl) rfl (quietAt rfl rfl (q_move (v := B (decide (((backF q n holds).1) = 6 ∧ ((backF q n holds).2) = (u : Int)))) rfl rfl)) ?_
    by_cases hg190 : ((backF q n holds).1) = 6 ∧ ((backF q n holds).2) = (u : Int)
    · have hb191 := Eq.trans rfl (congrArg B (decide_eq_true hg190))
      refine wpR_q 5 (by kernel_rfl) rfl (quietAt_g rfl rfl rfl rfl hb191 (q_move (v := r64) rfl a187_11)) ?_
      refine wpR_q 6 (by kernel_rfl) rfl (quietAt_g rfl rfl rfl rfl hb191 (q_lenRd rfl Try.underlying22 rfl (hS189o2.rdl 2 rfl))) ?_
      refine wpR_q 7 (by kernel_rfl) rfl (quietAt_g rfl rfl rfl rfl hb191 (q_eql rfl rfl rfl)) ?_
      refine wpR_q 8 (by kernel_rfl) rfl (quietAt rfl rfl (q_pickT (v := B (decide (((backP q n holds).length : Int) = 0))) rfl hb191 rfl)) ?_
      refine wpR_q 9 (by kernel_rfl) rfl (quietAt rfl rfl (q_assign (v := B (decide (((backP q n holds).length : Int) = 0))) rfl rfl)) ?_
      refine wpR_end (by kernel_rfl) ?_
      exact ⟨(Eq.trans rfl (congrArg B (decide_congr_of ((Iff.rfl).trans (((and_iff_right hg190).trans Iff.rfl)).symm)))), (hS189o2.drop (sk (sk (sn (sk (sk (sk (sk (sk (sk (sk (sk (sk (List.Sublist.slnil))))))))))))))⟩
    · have hb192 := Eq.trans rfl (congrArg B (decide_eq_false hg190))
      refine wpR_q 5 (by kernel_rfl) rfl (quietAt_s rfl rfl rfl rfl hb192 rfl) ?_
      refine wpR_q 6 (by kernel_rfl) rfl (quietAt_s rfl rfl rfl rfl hb192 rfl) ?_
      refine wpR_q 7 (by kernel_rfl) rfl (quietAt_s rfl rfl rfl rfl hb192 rfl) ?_
      refine wpR_q 8 (by kernel_rfl) rfl (quietAt rfl rfl (q_pickF (v := B (false)) rfl hb192 rfl)) ?_
      refine wpR_q 9 (by kernel_rfl) rfl (quietAt rfl rfl (q_assign (v := B (false)) rfl rfl)) ?_
      refine wpR_end (by kernel_rfl) ?_
      exact ⟨(Eq.trans rfl (congrArg B ((decide_eq_false (fun h => hg190 h.1)).symm))), (hS189o2.drop (sk (sk (sn (sk (sk (sk (sk (sk (sk (sk (sk (sk (List.Sublist.slnil))))))))))))))⟩
  rintro f193 H193 ⟨a193_6, hS193⟩
  clear a187_1 a187_11 a187_12 a187_14 a187_15 a187_16 a187_167 a187_2 a187_3
  refine wpF_ret ?_
  refine ⟨_, resT a193_6 resN, hS193.frame, ?_⟩
  show (B (decide ((((backF q n holds).1) = 6 ∧ ((backF q n holds).2) = (u : Int)) ∧ (((backP q n holds).length : Int) = 0)))) = B true
  obtain ⟨b1, b2⟩ := backF_3 hcf (by rw [← hvv]; exact h123) (u := u) (by omega) hno (bkAt_none (fun j hj => by simpa using hk2 j (by omega)))
  exact congrArg B (decide_eq_true (by rw [b1, b2]; simp))

end Go.Um
