import Derived.Test.YtkhpaklglggagaaProg
import Derived.Test.YtkhpaklglggagaaUmLook
import Derived.Test.YtkhpaklglggagaaRopeMath
import Derived.Test.YtkhpaklglggagaaUmSub
namespace Go.Um
open Go.Proofs
open GoT (sz ag rdc)
open KeyT (kv)

theorem el_Int_3_AutoA1 : ElT Try.prog Int 3 := ⟨Try.isAgg3, Try.sizeOf3⟩
theorem el_LInt_22_AutoA1 : ElT Try.prog (List Int) 22 := ⟨Try.isAgg22, Try.sizeOf22⟩
theorem em_Int_3_AutoA1 : ElemOk Try.prog Int 3 := ⟨Try.t3, (.int .i64 0), by kernel_rfl, by kernel_rfl, by kernel_rfl, by kernel_rfl, by kernel_rfl⟩

set_option maxRecDepth 100000 in
theorem in_R {H0 : Heap} (n lo hi : Int)  : CallsH Try.prog 46 #[I (n), I (lo), I (hi)] H0 (fun rv_ H' => Ext NoB H0 H' ∧ rv_ = B (decide (lo ≤ n ∧ n ≤ hi))) := by
  have hS0 : St H0 NoB NoB [] H0 := St.start (fun _ h => h.elim)
  refine callsH_of_wpF (args := [I (n), I (lo), I (hi)]) (rs := [.tmp 6]) Try.func46 rfl Try.ntmps46 Try.results46 (by kernel_rfl) (Nat.le_of_ble_eq_true rfl) ?_
  have a0_0 : argF [I (n), I (lo), I (hi)] 0 = I (n) := rfl
  have a0_1 : argF [I (n), I (lo), I (hi)] 1 = I (lo) := rfl
  have a0_2 : argF [I (n), I (lo), I (hi)] 2 = I (hi) := rfl
  generalize argF [I (n), I (lo), I (hi)] = f0 at *
  refine wpF_seq ?_
  refine wpF_cut (fun f H => f 0 = I (n) ∧ f 1 = I (lo) ∧ f 2 = I (hi) ∧ H0 = H) ?_ ?_
  · refine wpF_region ?_
    refine wpL_q (U := NoB) rfl (q_assign (v := B (false)) rfl rfl) ?_
    exact ⟨a0_0, a0_1, a0_2, rfl⟩
  rintro f1 _ ⟨a1_0, a1_1, a1_2, rfl⟩
  clear a0_0 a0_1 a0_2
  refine wpF_seq ?_
  refine wpF_cut (fun f H => f 6 = B (decide ((lo ≤ n) ∧ (n ≤ hi))) ∧ H0 = H) ?_ ?_
  · refine wpF_region ?_
    refine wpL_q (U := NoB) rfl (q_move (v := I (n)) rfl a1_0) ?_
    refine wpL_q (U := NoB) rfl (q_move (v := I (lo)) rfl a1_1) ?_
    refine wpL_q (U := NoB) rfl (q_geq rfl rfl rfl) ?_
    refine wpL_q (U := NoB) rfl (q_move (v := B (decide (lo ≤ n))) rfl rfl) ?_
    by_cases hg2 : lo ≤ n
    · have hb3 := Eq.trans rfl (congrArg B (decide_eq_true hg2))
      refine wpL_gq (U := NoB) rfl rfl rfl hb3 (q_move (v := I (n)) rfl a1_0) ?_
      refine wpL_gq (U := NoB) rfl rfl rfl hb3 (q_move (v := I (hi)) rfl a1_2) ?_
      refine wpL_gq (U := NoB) rfl rfl rfl hb3 (q_leq rfl rfl rfl) ?_
      refine wpL_q (U := NoB) rfl (q_pickT (v := B (decide (n ≤ hi))) rfl hb3 rfl) ?_
      refine wpL_q (U := NoB) rfl (q_assign (v := B (decide (n ≤ hi))) rfl rfl) ?_
      exact ⟨(Eq.trans rfl (congrArg B (decide_congr_of ((Iff.rfl).trans (((and_iff_right hg2).trans Iff.rfl)).symm)))), rfl⟩
    · have hb4 := Eq.trans rfl (congrArg B (decide_eq_false hg2))
      refine wpL_gs rfl rfl rfl hb4 rfl ?_
      refine wpL_gs rfl rfl rfl hb4 rfl ?_
      refine wpL_gs rfl rfl rfl hb4 rfl ?_
      refine wpL_q (U := NoB) rfl (q_pickF (v := B (false)) rfl hb4 rfl) ?_
      refine wpL_q (U := NoB) rfl (q_assign (v := B (false)) rfl rfl) ?_
      exact ⟨(Eq.trans rfl (congrArg B ((decide_eq_false (fun h => hg2 h.1)).symm))), rfl⟩
  rintro f5 _ ⟨a5_6, rfl⟩
  clear a1_0 a1_1 a1_2
  refine wpF_ret ?_
  refine ⟨_, resT a5_6 resN, hS0.frame, ?_⟩
  show (B (decide ((lo ≤ n) ∧ (n ≤ hi)))) = B (decide (lo ≤ n ∧ n ≤ hi))
  exact congrArg B (by simp)

set_option maxRecDepth 100000 in
theorem in_L {H0 : Heap} (n lo hi : Int)  : CallsH Try.prog 16 #[I (n), I (lo), I (hi)] H0 (fun rv_ H' => Ext NoB H0 H' ∧ rv_ = B (decide (lo ≤ n ∧ n ≤ hi))) := by
  have hS0 : St H0 NoB NoB [] H0 := St.start (fun _ h => h.elim)
  refine callsH_of_wpF (args := [I (n), I (lo), I (hi)]) (rs := [.tmp 6]) Try.func16 rfl Try.ntmps16 Try.results16 (by kernel_rfl) (Nat.le_of_ble_eq_true rfl) ?_
  have a0_0 : argF [I (n), I (lo), I (hi)] 0 = I (n) := rfl
  have a0_1 : argF [I (n), I (lo), I (hi)] 1 = I (lo) := rfl
  have a0_2 : argF [I (n), I (lo), I (hi)] 2 = I (hi) := rfl
  generalize argF [I (n), I (lo), I (hi)] = f0 at *
  refine wpF_seq ?_
  refine wpF_cut (fun f H => f 0 = I (n) ∧ f 1 = I (lo) ∧ f 2 = I (hi) ∧ H0 = H) ?_ ?_
  · refine wpF_region ?_
    refine wpL_q (U := NoB) rfl (q_assign (v := B (false)) rfl rfl) ?_
    exact ⟨a0_0, a0_1, a0_2, rfl⟩
  rintro f1 _ ⟨a1_0, a1_1, a1_2, rfl⟩
  clear a0_0 a0_1 a0_2
  refine wpF_seq ?_
  refine wpF_cut (fun f H => f 6 = B (decide ((lo ≤ n) ∧ (n ≤ hi))) ∧ H0 = H) ?_ ?_
  · refine wpF_region ?_
    refine wpL_q (U := NoB) rfl (q_move (v := I (n)) rfl a1_0) ?_
    refine wpL_q (U := NoB) rfl (q_move (v := I (lo)) rfl a1_1) ?_
    refine wpL_q (U := NoB) rfl (q_geq rfl rfl rfl) ?_
    refine wpL_q (U := NoB) rfl (q_move (v := B (decide (lo ≤ n))) rfl rfl) ?_
    by_cases hg2 : lo ≤ n
    · have hb3 := Eq.trans rfl (congrArg B (decide_eq_true hg2))
      refine wpL_gq (U := NoB) rfl rfl rfl hb3 (q_move (v := I (n)) rfl a1_0) ?_
      refine wpL_gq (U := NoB) rfl rfl rfl hb3 (q_move (v := I (hi)) rfl a1_2) ?_
      refine wpL_gq (U := NoB) rfl rfl rfl hb3 (q_leq rfl rfl rfl) ?_
      refine wpL_q (U := NoB) rfl (q_pickT (v := B (decide (n ≤ hi))) rfl hb3 rfl) ?_
      refine wpL_q (U := NoB) rfl (q_assign (v := B (decide (n ≤ hi))) rfl rfl) ?_
      exact ⟨(Eq.trans rfl (congrArg B (decide_congr_of ((Iff.rfl).trans (((and_iff_right hg2).trans Iff.rfl)).symm)))), rfl⟩
    · have hb4 := Eq.trans rfl (congrArg B (decide_eq_false hg2))
      refine wpL_gs rfl rfl rfl hb4 rfl ?_
      refine wpL_gs rfl rfl rfl hb4 rfl ?_
      refine wpL_gs rfl rfl rfl hb4 rfl ?_
      refine wpL_q (U := NoB) rfl (q_pickF (v := B (false)) rfl hb4 rfl) ?_
      refine wpL_q (U := NoB) rfl (q_assign (v := B (false)) rfl rfl) ?_
      exact ⟨(Eq.trans rfl (congrArg B ((decide_eq_false (fun h => hg2 h.1)).symm))), rfl⟩
  rintro f5 _ ⟨a5_6, rfl⟩
  clear a1_0 a1_1 a1_2
  refine wpF_ret ?_
  refine ⟨_, resT a5_6 resN, hS0.frame, ?_⟩
  show (B (decide ((lo ≤ n) ∧ (n ≤ hi)))) = B (decide (lo ≤ n ∧ n ≤ hi))
  exact congrArg B (by simp)

set_option maxRecDepth 100000 in
theorem fault_R {H0 : Heap} (c a : Int)  : CallsH Try.prog 47 #[I (c), I (a)] H0 (fun rv_ H' => Ext NoB H0 H' ∧ rv_ = Value.agg #[I c, I a]) := by
  have hS0 : St H0 NoB NoB [] H0 := St.start (fun _ h => h.elim)
  refine callsH_of_wpF (args := [I (c), I (a)]) (rs := [.cell 4 24]) Try.func47 rfl Try.ntmps47 Try.results47 (by kernel_rfl) (Nat.le_of_ble_eq_true rfl) ?_
  have a0_0 : argF [I (c), I (a)] 0 = I (c) := rfl
  have a0_1 : argF [I (c), I (a)] 1 = I (a) := rfl
  generalize argF [I (c), I (a)] = f0 at *
  refine wpF_seq ?_
  refine wpF_cut (fun f H => ∃ (g1 : Nat), f 0 = I (c) ∧ f 1 = I (a) ∧ f 4 = PT g1 0 ∧ St H0 NoB NoB [blkE g1 (.cells #[I (0), I (0)] 24)] H) ?_ ?_
  · refine wpF_region ?_
    refine wpL_o rfl ?_
    refine e_alloc rfl Try.zeroValue24 hS0 (fun g1 H2 hS3 hxx => ?_)
    replace hS3 : St H0 NoB NoB [blkE g1 (.cells #[I (0), I (0)] 24)] H2 := hS3
    exact ⟨g1, a0_0, a0_1, rfl, hS3⟩
  rintro f4 H4 ⟨g1, a4_0, a4_1, a4_4, hS4⟩
  clear a0_0 a0_1
  refine wpF_seq ?_
  refine wpF_cut (fun f H => f 4 = PT g1 0 ∧ St H0 NoB NoB [blkE g1 (.cells #[I (c), I (a)] 24)] H) ?_ ?_
  · refine wpF_region ?_
    refine wpL_q (U := NoB) rfl (q_move (v := I (c)) rfl a4_0) ?_
    refine wpL_q (U := NoB) rfl (q_move (v := I (a)) rfl a4_1) ?_
    refine wpL_q (U := NoB) rfl (q_build (v := Value.agg #[I (c), I (a)]) rfl (par2 (v0 := I (c)) (v1 := I (a)) rfl rfl) (fun w => by kernel_rfl)) ?_
    refine wpL_o rfl ?_
    refine e_storeBlkA (cs' := #[I (c), I (a)]) rfl a4_4 rfl Try.sizeOf24 rfl rfl (List.forall_mem_cons.2 ⟨rfl, List.forall_mem_cons.2 ⟨rfl, List.forall_mem_nil _⟩⟩) hS4 (fun H5 hS6 hxx => ?_)
    replace hS6 : St H0 NoB NoB [blkE g1 (.cells #[I (c), I (a)] 24)] H5 := hS6
    exact ⟨a4_4, hS6⟩
  rintro f7 H7 ⟨a7_4, hS7⟩
  clear a4_0 a4_1 a4_4
  refine wpF_ret ?_
  refine ⟨_, resC a7_4 (loadV_blkA Try.isAgg24 Try.sizeOf24 rfl (hS7.blk 0 rfl)) (resN), hS7.frame, ?_⟩
  show (Value.agg #[I (c), I (a)]) = Value.agg #[I c, I a]
  rfl

set_option maxRecDepth 100000 in
theorem fault_L {H0 : Heap} (c a : Int)  : CallsH Try.prog 15 #[I (c), I (a)] H0 (fun rv_ H' => Ext NoB H0 H' ∧ rv_ = Value.agg #[I c, I a]) := by
  have hS0 : St H0 NoB NoB [] H0 := St.start (fun _ h => h.elim)
  refine callsH_of_wpF (args := [I (c), I (a)]) (rs := [.cell 4 24]) Try.func15 rfl Try.ntmps15 Try.results15 (by kernel_rfl) (Nat.le_of_ble_eq_true rfl) ?_
  have a0_0 : argF [I (c), I (a)] 0 = I (c) := rfl
  have a0_1 : argF [I (c), I (a)] 1 = I (a) := rfl
  generalize argF [I (c), I (a)] = f0 at *
  refine wpF_seq ?_
  refine wpF_cut (fun f H => ∃ (g1 : Nat), f 0 = I (c) ∧ f 1 = I (a) ∧ f 4 = PT g1 0 ∧ St H0 NoB NoB [blkE g1 (.cells #[I (0), I (0)] 24)] H) ?_ ?_
  · refine wpF_region ?_
    refine wpL_o rfl ?_
    refine e_alloc rfl Try.zeroValue24 hS0 (fun g1 H2 hS3 hxx => ?_)
    replace hS3 : St H0 NoB NoB [blkE g1 (.cells #[I (0), I (0)] 24)] H2 := hS3
    exact ⟨g1, a0_0, a0_1, rfl, hS3⟩
  rintro f4 H4 ⟨g1, a4_0, a4_1, a4_4, hS4⟩
  clear a0_0 a0_1
  refine wpF_seq ?_
  refine wpF_cut (fun f H => f 4 = PT g1 0 ∧ St H0 NoB NoB [blkE g1 (.cells #[I (c), I (a)] 24)] H) ?_ ?_
  · refine wpF_region ?_
    refine wpL_q (U := NoB) rfl (q_move (v := I (c)) rfl a4_0) ?_
    refine wpL_q (U := NoB) rfl (q_move (v := I (a)) rfl a4_1) ?_
    refine wpL_q (U := NoB) rfl (q_build (v := Value.agg #[I (c), I (a)]) rfl (par2 (v0 := I (c)) (v1 := I (a)) rfl rfl) (fun w => by kernel_rfl)) ?_
    refine wpL_o rfl ?_
    refine e_storeBlkA (cs' := #[I (c), I (a)]) rfl a4_4 rfl Try.sizeOf24 rfl rfl (List.forall_mem_cons.2 ⟨rfl, List.forall_mem_cons.2 ⟨rfl, List.forall_mem_nil _⟩⟩) hS4 (fun H5 hS6 hxx => ?_)
    replace hS6 : St H0 NoB NoB [blkE g1 (.cells #[I (c), I (a)] 24)] H5 := hS6
    exact ⟨a4_4, hS6⟩
  rintro f7 H7 ⟨a7_4, hS7⟩
  clear a4_0 a4_1 a4_4
  refine wpF_ret ?_
  refine ⟨_, resC a7_4 (loadV_blkA Try.isAgg24 Try.sizeOf24 rfl (hS7.blk 0 rfl)) (resN), hS7.frame, ?_⟩
  show (Value.agg #[I (c), I (a)]) = Value.agg #[I c, I a]
  rfl

set_option maxRecDepth 100000 in
theorem Ints {H0 : Heap} (va vb : Value) (a b : List Int) (ra : Rd NoB H0 va a) (rb : Rd NoB H0 vb b) : CallsH Try.prog 32 #[va, vb] H0 (fun rv_ H' => Ext NoB H0 H' ∧ rv_ = B (decide (a = b))) := by
  have hsm := (Rd.list.1 ra).small
  have hS0 : St H0 NoB NoB [rdE va a, rdE vb b] H0 := St.arg (St.arg (St.start (fun _ h => h.elim)) (Bl0.nil) rb (fun _ h => h)) (Bl0.cons (Bl0.nil)) ra (fun _ h => h)
  refine callsH_of_wpF (args := [va, vb]) (rs := [.tmp 4]) Try.func32 rfl Try.ntmps32 Try.results32 (by kernel_rfl) (Nat.le_of_ble_eq_true rfl) ?_
  have a0_0 : argF [va, vb] 0 = va := rfl
  have a0_1 : argF [va, vb] 1 = vb := rfl
  generalize argF [va, vb] = f0 at *
  refine wpF_seq ?_
  refine wpF_cut (fun f H => f 0 = va ∧ f 1 = vb ∧ H0 = H) ?_ ?_
  · refine wpF_region ?_
    refine wpL_q (U := NoB) rfl (q_assign (v := B (false)) rfl rfl) ?_
    exact ⟨a0_0, a0_1, rfl⟩
  rintro f1 _ ⟨a1_0, a1_1, rfl⟩
  clear a0_0 a0_1
  refine wpF_seq ?_
  refine wpF_seq ?_
  refine wpF_cut (fun f H => f 0 = va ∧ f 1 = vb ∧ f 10 = B (decide ((a.length : Int) ≠ (b.length : Int))) ∧ H0 = H) ?_ ?_
  · refine wpF_region ?_
    refine wpL_q (U := NoB) rfl (q_move (v := va) rfl a1_0) ?_
    refine wpL_q (U := NoB) rfl (q_lenRd rfl Try.underlying22 rfl (hS0.rdl 0 rfl)) ?_
    refine wpL_q (U := NoB) rfl (q_move (v := vb) rfl a1_1) ?_
    refine wpL_q (U := NoB) rfl (q_lenRd rfl Try.underlying22 rfl (hS0.rdl 1 rfl)) ?_
    refine wpL_q (U := NoB) rfl (q_neq rfl rfl rfl) ?_
    exact ⟨a1_0, a1_1, rfl, rfl⟩
  rintro f2 _ ⟨a2_0, a2_1, a2_10, rfl⟩
  clear a1_0 a1_1
  refine wpF_condP a2_10 (fun hlen => ?t17) (fun hlen => ?e17)
  case t17 =>
    refine wpF_seq ?_
    refine wpF_cut (fun f H => f 4 = B (false) ∧ H0 = H) ?_ ?_
    · refine wpF_region ?_
      refine wpL_q (U := NoB) rfl (q_assign (v := B (false)) rfl rfl) ?_
      exact ⟨rfl, rfl⟩
    rintro f4 _ ⟨a4_4, rfl⟩
    clear a2_0 a2_1 a2_10
    refine wpF_ret ?_
    refine ⟨_, resT a4_4 resN, hS0.frame, ?_⟩
    show (B (false)) = B (decide (a = b))
    exact congrArg B (by simp; intro h; subst h; simp at hlen)
  refine wpF_skip ?_
  refine wpF_seq ?_
  refine wpF_seq ?_
  refine wpF_cut (fun f H => f 0 = va ∧ f 1 = vb ∧ f 5 = I (0) ∧ H0 = H) ?_ ?_
  · refine wpF_region ?_
    refine wpL_q (U := NoB) rfl (q_assign (v := I (0)) rfl rfl) ?_
    exact ⟨a2_0, a2_1, rfl, rfl⟩
  rintro f5 _ ⟨a5_0, a5_1, a5_5, rfl⟩
  clear a2_0 a2_1 a2_10
  refine wpF_block ?_
  refine wpF_loop (fun mz f H => ∃ (k : Nat), mz = a.length - k ∧ (k ≤ a.length) ∧ (a.take k = b.take k) ∧ f 0 = va ∧ f 1 = vb ∧ f 5 = I ((k : Int)) ∧ H0 = H) (a.length - 0) ?_ ?_
  · exact ⟨0, rfl, Nat.zero_le _, rfl, a5_0, a5_1, (Eq.trans a5_5 (congrArg I (by omega))), rfl⟩
  intro m6 f6 H6 hI6
  obtain ⟨k, hm6, hk, hpre, a6_0, a6_1, a6_5, rfl⟩ := hI6
  clear a5_0 a5_1 a5_5
  refine wpF_seq ?_
  refine wpF_seq ?_
  refine wpF_cut (fun f H => f 0 = va ∧ f 1 = vb ∧ f 5 = I ((k : Int)) ∧ f 14 = B (decide ((k : Int) < (a.length : Int))) ∧ H0 = H) ?_ ?_
  · refine wpF_region ?_
    refine wpL_q (U := NoB) rfl (q_move (v := I ((k : Int))) rfl a6_5) ?_
    refine wpL_q (U := NoB) rfl (q_move (v := va) rfl a6_0) ?_
    refine wpL_q (U := NoB) rfl (q_lenRd rfl Try.underlying22 rfl (hS0.rdl 0 rfl)) ?_
    refine wpL_q (U := NoB) rfl (q_lss rfl rfl rfl) ?_
    exact ⟨a6_0, a6_1, a6_5, rfl, rfl⟩
  rintro f7 _ ⟨a7_0, a7_1, a7_5, a7_14, rfl⟩
  clear a6_0 a6_1 a6_5
  refine wpF_condP a7_14 (fun hlt => ?t16) (fun hlt => ?e16)
  case e16 =>
    refine wpF_exit ?_
    refine atX_here ?_
    refine wpF_seq ?_
    refine wpF_cut (fun f H => f 4 = B (true) ∧ H0 = H) ?_ ?_
    · refine wpF_region ?_
      refine wpL_q (U := NoB) rfl (q_assign (v := B (true)) rfl rfl) ?_
      exact ⟨rfl, rfl⟩
    rintro f15 _ ⟨a15_4, rfl⟩
    clear a7_0 a7_1 a7_14 a7_5
    refine wpF_ret ?_
    refine ⟨_, resT a15_4 resN, hS0.frame, ?_⟩
    show (B (true)) = B (decide (a = b))
    exact congrArg B (by simp; exact take_all hpre (by omega) (by omega))
  refine wpF_skip ?_
  refine wpF_seq ?_
  refine wpF_block ?_
  refine wpF_seq ?_
  refine wpF_cut (fun f H => f 0 = va ∧ f 1 = vb ∧ f 5 = I ((k : Int)) ∧ f 25 = B (decide ((nth a k) ≠ (nth b k))) ∧ H0 = H) ?_ ?_
  · refine wpF_drawn [] [] (fun _ _ => False) (by kernel_rfl) (by kernel_rfl) ?_
    refine wpR_q 0 (by kernel_rfl) rfl (quietAt rfl rfl (q_move (v := va) rfl a7_0)) ?_
    refine wpR_q 1 (by kernel_rfl) rfl (quietAt rfl rfl (q_move (v := I ((k : Int))) rfl a7_5)) ?_
    refine wpR_q 2 (by kernel_rfl) rfl (quietAt rfl rfl (q_indexRd (k := k) rfl Try.underlying22 el_Int_3_AutoA1 rfl rfl (hS0.rdl 0 rfl) (by omega) (by omega))) ?_
    refine wpR_q 3 (by kernel_rfl) rfl (quietAt rfl rfl (q_loadInt (k := k) rfl rfl el_Int_3_AutoA1 (hS0.rdl 0 rfl) (by omega) (labU_sub [] rfl (List.forall_mem_nil _)))) ?_
    refine wpR_q 4 (by kernel_rfl) rfl (quietAt rfl rfl (q_move (v := vb) rfl a7_1)) ?_
    refine wpR_q 5 (by kernel_rfl) rfl (quietAt rfl rfl (q_move (v := I ((k : Int))) rfl a7_5)) ?_
    refine wpR_q 6 (by kernel_rfl) rfl (quietAt rfl rfl (q_indexRd (k := k) rfl Try.underlying22 el_Int_3_AutoA1 rfl rfl (hS0.rdl 1 rfl) (by omega) (by omega))) ?_
    refine wpR_q 7 (by kernel_rfl) rfl (quietAt rfl rfl (q_loadInt (k := k) rfl rfl el_Int_3_AutoA1 (hS0.rdl 1 rfl) (by omega) (labU_sub [] rfl (List.forall_mem_nil _)))) ?_
    refine wpR_q 8 (by kernel_rfl) rfl (quietAt rfl rfl (q_neq rfl rfl rfl)) ?_
    refine wpR_end (by kernel_rfl) ?_
    exact ⟨a7_0, a7_1, a7_5, rfl, rfl⟩
  rintro f10 _ ⟨a10_0, a10_1, a10_5, a10_25, rfl⟩
  clear a7_0 a7_1 a7_14 a7_5
  refine wpF_condP a10_25 (fun hne => ?t14) (fun hne => ?e14)
  case t14 =>
    refine wpF_seq ?_
    refine wpF_cut (fun f H => f 4 = B (false) ∧ H0 = H) ?_ ?_
    · refine wpF_region ?_
      refine wpL_q (U := NoB) rfl (q_assign (v := B (false)) rfl rfl) ?_
      exact ⟨rfl, rfl⟩
    rintro f12 _ ⟨a12_4, rfl⟩
    clear a10_0 a10_1 a10_25 a10_5
    refine wpF_ret ?_
    refine ⟨_, resT a12_4 resN, hS0.frame, ?_⟩
    show (B (false)) = B (decide (a = b))
    exact congrArg B (by simp; intro h; subst h; simp at hne)
  refine wpF_skip ?_
  refine wpF_cut (fun f H => f 0 = va ∧ f 1 = vb ∧ f 5 = I ((k : Int) + 1) ∧ H0 = H) ?_ ?_
  · refine wpF_region ?_
    refine wpL_q (U := NoB) rfl (q_move (v := I ((k : Int))) rfl a10_5) ?_
    refine wpL_q (U := NoB) rfl (q_add rfl rfl rfl (by constructor <;> omega)) ?_
    refine wpL_q (U := NoB) rfl (q_assign (v := I ((k : Int) + 1)) rfl rfl) ?_
    exact ⟨a10_0, a10_1, rfl, rfl⟩
  rintro f13 _ ⟨a13_0, a13_1, a13_5, rfl⟩
  clear a10_0 a10_1 a10_25 a10_5
  refine ⟨_, ?_, k + 1, rfl, (by omega), (take_same hpre (by omega) (by omega) (by simpa using hne)), a13_0, a13_1, (Eq.trans a13_5 (congrArg I (by omega))), rfl⟩
  omega

set_option maxRecDepth 100000 in
theorem Equal {H0 : Heap} (va vb : Value) (a b : List Int) (ra : Rd NoB H0 va a) (rb : Rd NoB H0 vb b) : CallsH Try.prog 73 #[va, vb] H0 (fun rv_ H' => Ext NoB H0 H' ∧ rv_ = B (decide (a = b))) := by
  have hsm := (Rd.list.1 ra).small
  have hS0 : St H0 NoB NoB [rdE va a, rdE vb b] H0 := St.arg (St.arg (St.start (fun _ h => h.elim)) (Bl0.nil) rb (fun _ h => h)) (Bl0.cons (Bl0.nil)) ra (fun _ h => h)
  refine callsH_of_wpF (args := [va, vb]) (rs := [.tmp 4]) Try.func73 rfl Try.ntmps73 Try.results73 (by kernel_rfl) (Nat.le_of_ble_eq_true rfl) ?_
  have a0_0 : argF [va, vb] 0 = va := rfl
  have a0_1 : argF [va, vb] 1 = vb := rfl
  generalize argF [va, vb] = f0 at *
  refine wpF_seq ?_
  refine wpF_cut (fun f H => f 0 = va ∧ f 1 = vb ∧ H0 = H) ?_ ?_
  · refine wpF_region ?_
    refine wpL_q (U := NoB) rfl (q_assign (v := B (false)) rfl rfl) ?_
    exact ⟨a0_0, a0_1, rfl⟩
  rintro f1 _ ⟨a1_0, a1_1, rfl⟩
  clear a0_0 a0_1
  refine wpF_seq ?_
  refine wpF_seq ?_
  refine wpF_cut (fun f H => f 0 = va ∧ f 1 = vb ∧ f 10 = B (decide ((a.length : Int) ≠ (b.length : Int))) ∧ H0 = H) ?_ ?_
  · refine wpF_region ?_
    refine wpL_q (U := NoB) rfl (q_move (v := va) rfl a1_0) ?_
    refine wpL_q (U := NoB) rfl (q_lenRd rfl Try.underlying22 rfl (hS0.rdl 0 rfl)) ?_
    refine wpL_q (U := NoB) rfl (q_move (v := vb) rfl a1_1) ?_
    refine wpL_q (U := NoB) rfl (q_lenRd rfl Try.underlying22 rfl (hS0.rdl 1 rfl)) ?_
    refine wpL_q (U := NoB) rfl (q_neq rfl rfl rfl) ?_
    exact ⟨a1_0, a1_1, rfl, rfl⟩
  rintro f2 _ ⟨a2_0, a2_1, a2_10, rfl⟩
  clear a1_0 a1_1
  refine wpF_condP a2_10 (fun hlen => ?t18) (fun hlen => ?e18)
  case t18 =>
    refine wpF_seq ?_
    refine wpF_cut (fun f H => f 4 = B (false) ∧ H0 = H) ?_ ?_
    · refine wpF_region ?_
      refine wpL_q (U := NoB) rfl (q_assign (v := B (false)) rfl rfl) ?_
      exact ⟨rfl, rfl⟩
    rintro f4 _ ⟨a4_4, rfl⟩
    clear a2_0 a2_1 a2_10
    refine wpF_ret ?_
    refine ⟨_, resT a4_4 resN, hS0.frame, ?_⟩
    show (B (false)) = B (decide (a = b))
    exact congrArg B (by simp; intro h; subst h; simp at hlen)
  refine wpF_skip ?_
  refine wpF_seq ?_
  refine wpF_seq ?_
  refine wpF_cut (fun f H => f 0 = va ∧ f 1 = vb ∧ f 12 = I ((a.length : Int)) ∧ f 13 = I (0) ∧ H0 = H) ?_ ?_
  · refine wpF_region ?_
    refine wpL_q (U := NoB) rfl (q_move (v := va) rfl a2_0) ?_
    refine wpL_q (U := NoB) rfl (q_lenRd rfl Try.underlying22 rfl (hS0.rdl 0 rfl)) ?_
    refine wpL_q (U := NoB) rfl (q_move (v := I (0)) rfl rfl) ?_
    exact ⟨a2_0, a2_1, rfl, rfl, rfl⟩
  rintro f5 _ ⟨a5_0, a5_1, a5_12, a5_13, rfl⟩
  clear a2_0 a2_1 a2_10
  refine wpF_block ?_
  refine wpF_loop (fun mz f H => ∃ (k : Nat), mz = a.length - k ∧ (k ≤ a.length) ∧ (a.take k = b.take k) ∧ f 0 = va ∧ f 1 = vb ∧ f 12 = I ((a.length : Int)) ∧ f 13 = I ((k : Int)) ∧ H0 = H) (a.length - 0) ?_ ?_
  · exact ⟨0, rfl, Nat.zero_le _, rfl, a5_0, a5_1, a5_12, (Eq.trans a5_13 (congrArg I (by omega))), rfl⟩
  intro m6 f6 H6 hI6
  obtain ⟨k, hm6, hk, hpre, a6_0, a6_1, a6_12, a6_13, rfl⟩ := hI6
  clear a5_0 a5_1 a5_12 a5_13
  refine wpF_seq ?_
  refine wpF_cut (fun f H => f 0 = va ∧ f 1 = vb ∧ f 12 = I ((a.length : Int)) ∧ f 13 = I ((k : Int)) ∧ f 14 = B (decide ((k : Int) < (a.length : Int))) ∧ H0 = H) ?_ ?_
  · refine wpF_region ?_
    refine wpL_q (U := NoB) rfl (q_lss rfl a6_13 a6_12) ?_
    exact ⟨a6_0, a6_1, a6_12, a6_13, rfl, rfl⟩
  rintro f7 _ ⟨a7_0, a7_1, a7_12, a7_13, a7_14, rfl⟩
  clear a6_0 a6_1 a6_12 a6_13
  refine wpF_seq ?_
  refine wpF_condP a7_14 (fun hlt => ?t17) (fun hlt => ?e17)
  case e17 =>
    refine wpF_exit ?_
    refine atX_here ?_
    refine wpF_seq ?_
    refine wpF_cut (fun f H => f 4 = B (true) ∧ H0 = H) ?_ ?_
    · refine wpF_region ?_
      refine wpL_q (U := NoB) rfl (q_assign (v := B (true)) rfl rfl) ?_
      exact ⟨rfl, rfl⟩
    rintro f16 _ ⟨a16_4, rfl⟩
    clear a7_0 a7_1 a7_12 a7_13 a7_14
    refine wpF_ret ?_
    refine ⟨_, resT a16_4 resN, hS0.frame, ?_⟩
    show (B (true)) = B (decide (a = b))
    exact congrArg B (by simp; exact take_all hpre (by omega) (by omega))
  refine wpF_skip ?_
  refine wpF_seq ?_
  refine wpF_block ?_
  refine wpF_seq ?_
  refine wpF_cut (fun f H => f 0 = va ∧ f 1 = vb ∧ f 5 = I ((k : Int)) ∧ f 12 = I ((a.length : Int)) ∧ f 13 = I ((k : Int)) ∧ H0 = H) ?_ ?_
  · refine wpF_region ?_
    refine wpL_q (U := NoB) rfl (q_move (v := I ((k : Int))) rfl a7_13) ?_
    refine wpL_q (U := NoB) rfl (q_assign (v := I ((k : Int))) rfl rfl) ?_
    exact ⟨a7_0, a7_1, rfl, a7_12, a7_13, rfl⟩
  rintro f9 _ ⟨a9_0, a9_1, a9_5, a9_12, a9_13, rfl⟩
  clear a7_0 a7_1 a7_12 a7_13 a7_14
  refine wpF_seq ?_
  refine wpF_cut (fun f H => f 0 = va ∧ f 1 = vb ∧ f 12 = I ((a.length : Int)) ∧ f 13 = I ((k : Int)) ∧ f 24 = B (decide ((nth a k) ≠ (nth b k))) ∧ H0 = H) ?_ ?_
  · refine wpF_drawn [] [] (fun _ _ => False) (by kernel_rfl) (by kernel_rfl) ?_
    refine wpR_q 0 (by kernel_rfl) rfl (quietAt rfl rfl (q_move (v := va) rfl a9_0)) ?_
    refine wpR_q 1 (by kernel_rfl) rfl (quietAt rfl rfl (q_move (v := I ((k : Int))) rfl a9_5)) ?_
    refine wpR_q 2 (by kernel_rfl) rfl (quietAt rfl rfl (q_indexRd (k := k) rfl Try.underlying22 el_Int_3_AutoA1 rfl rfl (hS0.rdl 0 rfl) (by omega) (by omega))) ?_
    refine wpR_q 3 (by kernel_rfl) rfl (quietAt rfl rfl (q_loadInt (k := k) rfl rfl el_Int_3_AutoA1 (hS0.rdl 0 rfl) (by omega) (labU_sub [] rfl (List.forall_mem_nil _)))) ?_
    refine wpR_q 4 (by kernel_rfl) rfl (quietAt rfl rfl (q_move (v := vb) rfl a9_1)) ?_
    refine wpR_q 5 (by kernel_rfl) rfl (quietAt rfl rfl (q_move (v := I ((k : Int))) rfl a9_5)) ?_
    refine wpR_q 6 (by kernel_rfl) rfl (quietAt rfl rfl (q_indexRd (k := k) rfl Try.underlying22 el_Int_3_AutoA1 rfl rfl (hS0.rdl 1 rfl) (by omega) (by omega))) ?_
    refine wpR_q 7 (by kernel_rfl) rfl (quietAt rfl rfl (q_loadInt (k := k) rfl rfl el_Int_3_AutoA1 (hS0.rdl 1 rfl) (by omega) (labU_sub [] rfl (List.forall_mem_nil _)))) ?_
    refine wpR_q 8 (by kernel_rfl) rfl (quietAt rfl rfl (q_neq rfl rfl rfl)) ?_
    refine wpR_end (by kernel_rfl) ?_
    exact ⟨a9_0, a9_1, a9_12, a9_13, rfl, rfl⟩
  rintro f11 _ ⟨a11_0, a11_1, a11_12, a11_13, a11_24, rfl⟩
  clear a9_0 a9_1 a9_12 a9_13 a9_5
  refine wpF_condP a11_24 (fun hne => ?t15) (fun hne => ?e15)
  case e15 =>
    refine wpF_skip ?_
    refine wpF_cut (fun f H => f 0 = va ∧ f 1 = vb ∧ f 12 = I ((a.length : Int)) ∧ f 13 = I ((k : Int) + 1) ∧ H0 = H) ?_ ?_
    · refine wpF_region ?_
      refine wpL_q (U := NoB) rfl (q_add rfl a11_13 rfl (by constructor <;> omega)) ?_
      refine wpL_q (U := NoB) rfl (q_move (v := I ((k : Int) + 1)) rfl rfl) ?_
      exact ⟨a11_0, a11_1, a11_12, rfl, rfl⟩
    rintro f14 _ ⟨a14_0, a14_1, a14_12, a14_13, rfl⟩
    clear a11_0 a11_1 a11_12 a11_13 a11_24
    refine ⟨_, ?_, k + 1, rfl, (by omega), (take_same hpre (by omega) (by omega) (by simpa using hne)), a14_0, a14_1, a14_12, (Eq.trans a14_13 (congrArg I (by omega))), rfl⟩
    omega
  refine wpF_seq ?_
  refine wpF_cut (fun f H => f 4 = B (false) ∧ H0 = H) ?_ ?_
  · refine wpF_region ?_
    refine wpL_q (U := NoB) rfl (q_assign (v := B (false)) rfl rfl) ?_
    exact ⟨rfl, rfl⟩
  rintro f13 _ ⟨a13_4, rfl⟩
  clear a11_0 a11_1 a11_12 a11_13 a11_24
  refine wpF_ret ?_
  refine ⟨_, resT a13_4 resN, hS0.frame, ?_⟩
  show (B (false)) = B (decide (a = b))
  exact congrArg B (by simp; intro h; subst h; simp at hne)

set_option maxRecDepth 100000 in
theorem Clone {H0 : Heap} {S : Nat → Prop} (va : Value) (a : List Int) (ra : Rd S H0 va a) : CallsH Try.prog 45 #[va] H0 (fun rv_ H' => Ext NoB H0 H' ∧ Rd (fun b => S b ∧ b < H0.size) H' rv_ a) := by
  have hby := (Rd.list.1 ra).bound
  have hS0 : St H0 NoB (fun b => S b ∧ b < H0.size) [rdE va a] H0 := St.arg (St.start (fun _ h => h.2)) (Bl0.nil) ra (fun _ h => h.1)
  refine callsH_of_wpF (args := [va]) (rs := [.tmp 2]) Try.func45 rfl Try.ntmps45 Try.results45 (by kernel_rfl) (Nat.le_of_ble_eq_true rfl) ?_
  have a0_0 : argF [va] 0 = va := rfl
  generalize argF [va] = f0 at *
  refine wpF_seq ?_
  refine wpF_cut (fun f H => f 0 = va ∧ H0 = H) ?_ ?_
  · refine wpF_region ?_
    refine wpL_q (U := NoB) rfl (q_assign (v := (Value.slice none 0 0)) rfl rfl) ?_
    exact ⟨a0_0, rfl⟩
  rintro f1 _ ⟨a1_0, rfl⟩
  clear a0_0
  refine wpF_seq ?_
  refine wpF_seq ?_
  refine wpF_cut (fun f H => f 0 = va ∧ f 4 = B (isNil va) ∧ H0 = H) ?_ ?_
  · refine wpF_region ?_
    refine wpL_q (U := NoB) rfl (q_move (v := va) rfl a1_0) ?_
    refine wpL_q (U := NoB) rfl (q_nilS rfl Try.underlying22 rfl ((hS0.rdl 0 rfl))) ?_
    exact ⟨a1_0, rfl, rfl⟩
  rintro f2 _ ⟨a2_0, a2_4, rfl⟩
  clear a1_0
  refine wpF_cond a2_4 (fun hnil => ?t14) (fun hnil => ?e14)
  case t14 =>
    refine wpF_seq ?_
    refine wpF_cut (fun f H => f 2 = (Value.slice none 0 0) ∧ H0 = H) ?_ ?_
    · refine wpF_region ?_
      refine wpL_q (U := NoB) rfl (q_assign (v := (Value.slice none 0 0)) rfl rfl) ?_
      exact ⟨rfl, rfl⟩
    rintro f4 _ ⟨a4_2, rfl⟩
    clear a2_0 a2_4
    refine wpF_ret ?_
    refine ⟨_, resT a4_2 resN, hS0.frame, ?_⟩
    show Rd (fun b => S b ∧ b < H0.size) H0 (Value.slice none 0 0) a
    rw [isNil_len (Rd.list.1 ra) hnil]
    exact rdNil
  refine wpF_skip ?_
  refine wpF_seq ?_
  refine wpF_cut (fun f H => ∃ (v9 : Value), f 2 = v9 ∧ St H0 NoB (fun b => S b ∧ b < H0.size) [rowE 3 v9 (a : List Int)] H) ?_ ?_
  · refine wpF_region ?_
    refine wpL_o rfl ?_
    refine e_buildSlice (vs := []) (xs := ([] : List Int)) rfl Try.underlying22 Try.zeroValue3 rfl Try.sizeOf3 par0 rfl hS0 (RdVs.nil) (by decide) (by decide) (fun v5 H6 hS7 hxx hvv5 => ?_)
    replace hS7 : St H0 NoB (fun b => S b ∧ b < H0.size) [rowE 3 v5 ([] : List Int), rdE va a] H6 := hS7
    refine wpL_q (U := NoB) rfl (q_move (v := va) rfl a2_0) ?_
    have hS8 : St H0 NoB (fun b => S b ∧ b < H0.size) [rowE 3 v5 ([] : List Int), rdE va a] H6 := hS7
    refine wpL_o rfl ?_
    refine e_append rfl Try.underlying22 em_Int_3_AutoA1 rfl rfl hS8 (hS8.rdS 1 rfl) (fun _ h => h) (by have : GoT.bytes Int = 8 := rfl; simp; omega) (by decide) (fun v9 H10 hS11 hxx => ?_)
    replace hS11 : St H0 NoB (fun b => S b ∧ b < H0.size) [rowE 3 v9 (a : List Int), rdE va a] H10 := by simpa using hS11
    refine wpL_q (U := NoB) rfl (q_assign (v := v9) rfl rfl) ?_
    exact ⟨v9, rfl, (hS11.drop (sk (sn (List.Sublist.slnil))))⟩
  rintro f12 H12 ⟨v9, a12_2, hS12⟩
  clear a2_0 a2_4
  refine wpF_ret ?_
  refine ⟨_, resT a12_2 resN, hS12.frame, ?_⟩
  show Rd (fun b => S b ∧ b < H0.size) H12 v9 a
  have hS13 : St H0 NoB (fun b => S b ∧ b < H0.size) [rdE v9 a] H12 := St.fin hS12
  exact (hS13.result (hS13.rdS 0 rfl))

set_option maxRecDepth 100000 in
theorem rows_L {H0 : Heap} (va vb : Value) (a b : List (List Int)) (ra : Rd NoB H0 va a) (rb : Rd NoB H0 vb b) : CallsH Try.prog 19 #[va, vb] H0 (fun rv_ H' => Ext NoB H0 H' ∧ rv_ = B (decide (a = b))) := by
  have hsm := (Rd.list.1 ra).small
  have hS0 : St H0 NoB NoB [rdE va a, rdE vb b] H0 := St.arg (St.arg (St.start (fun _ h => h.elim)) (Bl0.nil) rb (fun _ h => h)) (Bl0.cons (Bl0.nil)) ra (fun _ h => h)
  refine callsH_of_wpF (args := [va, vb]) (rs := [.tmp 4]) Try.func19 rfl Try.ntmps19 Try.results19 (by kernel_rfl) (Nat.le_of_ble_eq_true rfl) ?_
  have a0_0 : argF [va, vb] 0 = va := rfl
  have a0_1 : argF [va, vb] 1 = vb := rfl
  generalize argF [va, vb] = f0 at *
  refine wpF_seq ?_
  refine wpF_cut (fun f H => f 0 = va ∧ f 1 = vb ∧ H0 = H) ?_ ?_
  · refine wpF_region ?_
    refine wpL_q (U := NoB) rfl (q_assign (v := B (false)) rfl rfl) ?_
    exact ⟨a0_0, a0_1, rfl⟩
  rintro f1 _ ⟨a1_0, a1_1, rfl⟩
  clear a0_0 a0_1
  refine wpF_seq ?_
  refine wpF_seq ?_
  refine wpF_cut (fun f H => f 0 = va ∧ f 1 = vb ∧ f 10 = B (decide ((a.length : Int) ≠ (b.length : Int))) ∧ H0 = H) ?_ ?_
  · refine wpF_region ?_
    refine wpL_q (U := NoB) rfl (q_move (v := va) rfl a1_0) ?_
    refine wpL_q (U := NoB) rfl (q_lenRd rfl Try.underlying27 rfl (hS0.rdl 0 rfl)) ?_
    refine wpL_q (U := NoB) rfl (q_move (v := vb) rfl a1_1) ?_
    refine wpL_q (U := NoB) rfl (q_lenRd rfl Try.underlying27 rfl (hS0.rdl 1 rfl)) ?_
    refine wpL_q (U := NoB) rfl (q_neq rfl rfl rfl) ?_
    exact ⟨a1_0, a1_1, rfl, rfl⟩
  rintro f2 _ ⟨a2_0, a2_1, a2_10, rfl⟩
  clear a1_0 a1_1
  refine wpF_condP a2_10 (fun hlen => ?t17) (fun hlen => ?e17)
  case t17 =>
    refine wpF_seq ?_
    refine wpF_cut (fun f H => f 4 = B (false) ∧ H0 = H) ?_ ?_
    · refine wpF_region ?_
      refine wpL_q (U := NoB) rfl (q_assign (v := B (false)) rfl rfl) ?_
      exact ⟨rfl, rfl⟩
    rintro f4 _ ⟨a4_4, rfl⟩
    clear a2_0 a2_1 a2_10
    refine wpF_ret ?_
    refine ⟨_, resT a4_4 resN, hS0.frame, ?_⟩
    show (B (false)) = B (decide (a = b))
    exact congrArg B (by simp; intro h; subst h; simp at hlen)
  refine wpF_skip ?_
  refine wpF_seq ?_
  refine wpF_seq ?_
  refine wpF_cut (fun f H => f 0 = va ∧ f 1 = vb ∧ f 5 = I (0) ∧ H0 = H) ?_ ?_
  · refine wpF_region ?_
    refine wpL_q (U := NoB) rfl (q_assign (v := I (0)) rfl rfl) ?_
    exact ⟨a2_0, a2_1, rfl, rfl⟩
  rintro f5 _ ⟨a5_0, a5_1, a5_5, rfl⟩
  clear a2_0 a2_1 a2_10
  refine wpF_block ?_
  refine wpF_loop (fun mz f H => ∃ (k : Nat), mz = a.length - k ∧ (k ≤ a.length) ∧ (a.take k = b.take k) ∧ f 0 = va ∧ f 1 = vb ∧ f 5 = I ((k : Int)) ∧ St H0 NoB NoB [rdE va a, rdE vb b] H) (a.length - 0) ?_ ?_
  · exact ⟨0, rfl, Nat.zero_le _, rfl, a5_0, a5_1, (Eq.trans a5_5 (congrArg I (by omega))), hS0⟩
  intro m6 f6 H6 hI6
  obtain ⟨k, hm6, hk, hpre, a6_0, a6_1, a6_5, hS6⟩ := hI6
  clear a5_0 a5_1 a5_5
  refine wpF_seq ?_
  refine wpF_seq ?_
  refine wpF_cut (fun f H => f 0 = va ∧ f 1 = vb ∧ f 5 = I ((k : Int)) ∧ f 14 = B (decide ((k : Int) < (a.length : Int))) ∧ H6 = H) ?_ ?_
  · refine wpF_region ?_
    refine wpL_q (U := NoB) rfl (q_move (v := I ((k : Int))) rfl a6_5) ?_
    refine wpL_q (U := NoB) rfl (q_move (v := va) rfl a6_0) ?_
    refine wpL_q (U := NoB) rfl (q_lenRd rfl Try.underlying27 rfl (hS6.rdl 0 rfl)) ?_
    refine wpL_q (U := NoB) rfl (q_lss rfl rfl rfl) ?_
    exact ⟨a6_0, a6_1, a6_5, rfl, rfl⟩
  rintro f7 _ ⟨a7_0, a7_1, a7_5, a7_14, rfl⟩
  clear a6_0 a6_1 a6_5
  refine wpF_condP a7_14 (fun hlt => ?t16) (fun hlt => ?e16)
  case e16 =>
    refine wpF_exit ?_
    refine atX_here ?_
    refine wpF_seq ?_
    refine wpF_cut (fun f H => f 4 = B (true) ∧ H6 = H) ?_ ?_
    · refine wpF_region ?_
      refine wpL_q (U := NoB) rfl (q_assign (v := B (true)) rfl rfl) ?_
      exact ⟨rfl, rfl⟩
    rintro f15 _ ⟨a15_4, rfl⟩
    clear a7_0 a7_1 a7_14 a7_5
    refine wpF_ret ?_
    refine ⟨_, resT a15_4 resN, hS6.frame, ?_⟩
    show (B (true)) = B (decide (a = b))
    exact congrArg B (by simp; exact take_all hpre (by omega) (by omega))
  refine wpF_skip ?_
  refine wpF_seq ?_
  refine wpF_block ?_
  refine wpF_seq ?_
  obtain ⟨u9o3, huu9o3, hlu9o3⟩ := (Rd.list.1 (hS6.rdS 0 rfl)).elem k (by omega)
  have hS9o3 : St H0 NoB NoB [rdE u9o3 (nth a k), rdE va a, rdE vb b] H6 := hS6.rd huu9o3
  obtain ⟨u9o7, huu9o7, hlu9o7⟩ := (Rd.list.1 (hS9o3.rdS 2 rfl)).elem k (by omega)
  have hS9o7 : St H0 NoB NoB [rdE u9o7 (nth b k), rdE u9o3 (nth a k), rdE va a, rdE vb b] H6 := hS9o3.rd huu9o7
  refine wpF_cut (fun f H => f 0 = va ∧ f 1 = vb ∧ f 5 = I ((k : Int)) ∧ f 26 = B (decide (¬ ((nth a k) = (nth b k)))) ∧ St H0 NoB NoB [rdE va a, rdE vb b] H) ?_ ?_
  · refine wpF_drawn [] [] (fun _ _ => False) (by kernel_rfl) (by kernel_rfl) ?_
    refine wpR_q 0 (by kernel_rfl) rfl (quietAt rfl rfl (q_move (v := va) rfl a7_0)) ?_
    refine wpR_q 1 (by kernel_rfl) rfl (quietAt rfl rfl (q_move (v := I ((k : Int))) rfl a7_5)) ?_
    refine wpR_q 2 (by kernel_rfl) rfl (quietAt rfl rfl (q_indexRd (k := k) rfl Try.underlying27 el_LInt_22_AutoA1 rfl rfl (hS6.rdl 0 rfl) (by omega) (by omega))) ?_
    refine wpR_q 3 (by kernel_rfl) rfl (quietAt rfl rfl (q_loadE rfl rfl (hlu9o3 Try.prog 22 _ el_LInt_22_AutoA1 (labU_sub [] rfl (List.forall_mem_nil _))))) ?_
    refine wpR_q 4 (by kernel_rfl) rfl (quietAt rfl rfl (q_move (v := vb) rfl a7_1)) ?_
    refine wpR_q 5 (by kernel_rfl) rfl (quietAt rfl rfl (q_move (v := I ((k : Int))) rfl a7_5)) ?_
    refine wpR_q 6 (by kernel_rfl) rfl (quietAt rfl rfl (q_indexRd (k := k) rfl Try.underlying27 el_LInt_22_AutoA1 rfl rfl (hS9o3.rdl 2 rfl) (by omega) (by omega))) ?_
    refine wpR_q 7 (by kernel_rfl) rfl (quietAt rfl rfl (q_loadE rfl rfl (hlu9o7 Try.prog 22 _ el_LInt_22_AutoA1 (labU_sub [] rfl (List.forall_mem_nil _))))) ?_
    refine wpR_n [8] (by kernel_rfl) ?_
    refine List.forall_mem_cons.2 ⟨?_, List.forall_mem_nil _⟩
    refine exE rfl rfl ?_
    refine e_call rfl Try.call32 (arr2 (v0 := u9o3) (v1 := u9o7) rfl rfl) (Ints u9o3 u9o7 _ _ (hS9o7.rdN 1 rfl) (hS9o7.rdN 0 rfl)) ?_
    rintro _ H9o8 ⟨hxx, rfl⟩
    have hS9o8 : St H0 NoB NoB [rdE u9o7 (nth b k), rdE u9o3 (nth a k), rdE va a, rdE vb b] H9o8 := hS9o7.ext hxx
    refine ⟨Ext.mono hxx (fun _ h => h.elim), ?_⟩
    refine wpR_q 9 (by kernel_rfl) rfl (quietAt rfl rfl (q_notP rfl rfl)) ?_
    refine wpR_end (by kernel_rfl) ?_
    exact ⟨a7_0, a7_1, a7_5, rfl, (hS9o8.drop (sn (sn (sk (sk (List.Sublist.slnil))))))⟩
  rintro f10 H10 ⟨a10_0, a10_1, a10_5, a10_26, hS10⟩
  clear a7_0 a7_1 a7_14 a7_5
  refine wpF_condP a10_26 (fun hne => ?t14) (fun hne => ?e14)
  case t14 =>
    refine wpF_seq ?_
    refine wpF_cut (fun f H => f 4 = B (false) ∧ H10 = H) ?_ ?_
    · refine wpF_region ?_
      refine wpL_q (U := NoB) rfl (q_assign (v := B (false)) rfl rfl) ?_
      exact ⟨rfl, rfl⟩
    rintro f12 _ ⟨a12_4, rfl⟩
    clear a10_0 a10_1 a10_26 a10_5
    refine wpF_ret ?_
    refine ⟨_, resT a12_4 resN, hS10.frame, ?_⟩
    show (B (false)) = B (decide (a = b))
    exact congrArg B (by simp; intro h; subst h; simp at hne)
  refine wpF_skip ?_
  refine wpF_cut (fun f H => f 0 = va ∧ f 1 = vb ∧ f 5 = I ((k : Int) + 1) ∧ H10 = H) ?_ ?_
  · refine wpF_region ?_
    refine wpL_q (U := NoB) rfl (q_move (v := I ((k : Int))) rfl a10_5) ?_
    refine wpL_q (U := NoB) rfl (q_add rfl rfl rfl (by constructor <;> omega)) ?_
    refine wpL_q (U := NoB) rfl (q_assign (v := I ((k : Int) + 1)) rfl rfl) ?_
    exact ⟨a10_0, a10_1, rfl, rfl⟩
  rintro f13 _ ⟨a13_0, a13_1, a13_5, rfl⟩
  clear a10_0 a10_1 a10_26 a10_5
  refine ⟨_, ?_, k + 1, rfl, (by omega), (take_same hpre (by omega) (by omega) (by simpa using hne)), a13_0, a13_1, (Eq.trans a13_5 (congrArg I (by omega))), hS10⟩
  omega

end Go.Um
