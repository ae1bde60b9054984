import Derived.Test.YtkhpaklglggagaaProg
import Derived.Test.YtkhpaklglggagaaUmLook
import Derived.Test.YtkhpaklglggagaaRopeMath
namespace Go.Um
open Go.Proofs
open GoT (sz ag rdc)
open KeyT (kv)

theorem el_Bool_4 : ElT Try.prog Bool 4 := ⟨Try.isAgg4, Try.sizeOf4⟩
theorem el_Int_3 : ElT Try.prog Int 3 := ⟨Try.isAgg3, Try.sizeOf3⟩
theorem el_LInt_22 : ElT Try.prog (List Int) 22 := ⟨Try.isAgg22, Try.sizeOf22⟩
theorem em_Bool_4 : ElemOk Try.prog Bool 4 := ⟨Try.t4, (.bool false), by kernel_rfl, by kernel_rfl, by kernel_rfl, by kernel_rfl, by kernel_rfl⟩
theorem em_Int_3 : ElemOk Try.prog Int 3 := ⟨Try.t3, (.int .i64 0), by kernel_rfl, by kernel_rfl, by kernel_rfl, by kernel_rfl, by kernel_rfl⟩
theorem em_LInt_22 : ElemOk Try.prog (List Int) 22 := ⟨Try.t22, (.slice none 0 0), by kernel_rfl, by kernel_rfl, by kernel_rfl, by kernel_rfl, by kernel_rfl⟩
theorem fl24 (a b c d : Int) (w : World) : (Op.equalIn 10000 24 (.agg #[I a, I b]) (.agg #[I c, I d])).run Try.prog w = .ok (decide (a = c ∧ b = d)) w := eq2_run Try.underlying24 Try.underlying3 Try.underlying3 (by decide) (by decide) rfl rfl Try.isAgg3 Try.isAgg3 Try.stoodInHeld24 a b c d w

set_option maxRecDepth 100000 in
theorem in_R {H0 : Heap} (n lo hi : Int)  : CallsH Try.prog 46 #[I (n), I (lo), I (hi)] H0 (fun rv_ H' => Ext NoB H0 H' ∧ rv_ = B (decide (lo ≤ n ∧ n ≤ hi))) := by
  have hS0 : St H0 NoB NoB [] H0 := St.start (fun _ h => h.elim)
  refine callsH_of_wpF (args := [I (n), I (lo), I (hi)]) (rs := [.tmp 6]) Try.func46 rfl Try.ntmps46 Try.results46 (by kernel_rfl) (Nat.le_of_ble_eq_true rfl) ?_
  have a0_0 : argF [I (n), I (lo), I (hi)] 0 = I (n) := rfl
  have a0_1 : argF [I (n), I (lo), I (hi)] 1 = I (lo) := rfl
  have a0_2 : argF [I (n), I (lo), I (hi)] 2 = I (hi) := rfl
  generalize argF [I (n), I (lo), I (hi)] = f0 at *
  refine wpF_seq ?_
  refine wpF_cut (fun f H => f 0 = I (n) ∧ f 1 = I (lo) ∧ f 2 = I (hi) ∧ H0 = H) ?_ ?_
  · refine wpF_region ?_
    refine wpL_q (U := NoB) rfl (q_assign (v := B (false)) rfl rfl) ?_
    exact ⟨a0_0, a0_1, a0_2, rfl⟩
  rintro f1 _ ⟨a1_0, a1_1, a1_2, rfl⟩
  clear a0_0 a0_1 a0_2
  refine wpF_seq ?_
  refine wpF_cut (fun f H => f 6 = B (decide ((lo ≤ n) ∧ (n ≤ hi))) ∧ H0 = H) ?_ ?_
  · refine wpF_region ?_
    refine wpL_q (U := NoB) rfl (q_move (v := I (n)) rfl a1_0) ?_
    refine wpL_q (U := NoB) rfl (q_move (v := I (lo)) rfl a1_1) ?_
    refine wpL_q (U := NoB) rfl (q_geq rfl rfl rfl) ?_
    refine wpL_q (U := NoB) rfl (q_move (v := B (decide (lo ≤ n))) rfl rfl) ?_
    by_cases hg2 : lo ≤ n
    · have hb3 := Eq.trans rfl (congrArg B (decide_eq_true hg2))
      refine wpL_gq (U := NoB) rfl rfl rfl hb3 (q_move (v := I (n)) rfl a1_0) ?_
      refine wpL_gq (U := NoB) rfl rfl rfl hb3 (q_move (v := I (hi)) rfl a1_2) ?_
      refine wpL_gq (U := NoB) rfl rfl rfl hb3 (q_leq rfl rfl rfl) ?_
      refine wpL_q (U := NoB) rfl (q_pickT (v := B (decide (n ≤ hi))) rfl hb3 rfl) ?_
      refine wpL_q (U := NoB) rfl (q_assign (v := B (decide (n ≤ hi))) rfl rfl) ?_
      exact ⟨(Eq.trans rfl (congrArg B (decide_congr_of ((Iff.rfl).trans (((and_iff_right hg2).trans Iff.rfl)).symm)))), rfl⟩
    · have hb4 := Eq.trans rfl (congrArg B (decide_eq_false hg2))
      refine wpL_gs rfl rfl rfl hb4 rfl ?_
      refine wpL_gs rfl rfl rfl hb4 rfl ?_
      refine wpL_gs rfl rfl rfl hb4 rfl ?_
      refine wpL_q (U := NoB) rfl (q_pickF (v := B (false)) rfl hb4 rfl) ?_
      refine wpL_q (U := NoB) rfl (q_assign (v := B (false)) rfl rfl) ?_
      exact ⟨(Eq.trans rfl (congrArg B ((decide_eq_false (fun h => hg2 h.1)).symm))), rfl⟩
  rintro f5 _ ⟨a5_6, rfl⟩
  clear a1_0 a1_1 a1_2
  refine wpF_ret ?_
  refine ⟨_, resT a5_6 resN, hS0.frame, ?_⟩
  show (B (decide ((lo ≤ n) ∧ (n ≤ hi)))) = B (decide (lo ≤ n ∧ n ≤ hi))
  exact congrArg B (by simp)

set_option maxRecDepth 100000 in
theorem in_L {H0 : Heap} (n lo hi : Int)  : CallsH Try.prog 16 #[I (n), I (lo), I (hi)] H0 (fun rv_ H' => Ext NoB H0 H' ∧ rv_ = B (decide (lo ≤ n ∧ n ≤ hi))) := by
  have hS0 : St H0 NoB NoB [] H0 := St.start (fun _ h => h.elim)
  refine callsH_of_wpF (args := [I (n), I (lo), I (hi)]) (rs := [.tmp 6]) Try.func16 rfl Try.ntmps16 Try.results16 (by kernel_rfl) (Nat.le_of_ble_eq_true rfl) ?_
  have a0_0 : argF [I (n), I (lo), I (hi)] 0 = I (n) := rfl
  have a0_1 : argF [I (n), I (lo), I (hi)] 1 = I (lo) := rfl
  have a0_2 : argF [I (n), I (lo), I (hi)] 2 = I (hi) := rfl
  generalize argF [I (n), I (lo), I (hi)] = f0 at *
  refine wpF_seq ?_
  refine wpF_cut (fun f H => f 0 = I (n) ∧ f 1 = I (lo) ∧ f 2 = I (hi) ∧ H0 = H) ?_ ?_
  · refine wpF_region ?_
    refine wpL_q (U := NoB) rfl (q_assign (v := B (false)) rfl rfl) ?_
    exact ⟨a0_0, a0_1, a0_2, rfl⟩
  rintro f1 _ ⟨a1_0, a1_1, a1_2, rfl⟩
  clear a0_0 a0_1 a0_2
  refine wpF_seq ?_
  refine wpF_cut (fun f H => f 6 = B (decide ((lo ≤ n) ∧ (n ≤ hi))) ∧ H0 = H) ?_ ?_
  · refine wpF_region ?_
    refine wpL_q (U := NoB) rfl (q_move (v := I (n)) rfl a1_0) ?_
    refine wpL_q (U := NoB) rfl (q_move (v := I (lo)) rfl a1_1) ?_
    refine wpL_q (U := NoB) rfl (q_geq rfl rfl rfl) ?_
    refine wpL_q (U := NoB) rfl (q_move (v := B (decide (lo ≤ n))) rfl rfl) ?_
    by_cases hg2 : lo ≤ n
    · have hb3 := Eq.trans rfl (congrArg B (decide_eq_true hg2))
      refine wpL_gq (U := NoB) rfl rfl rfl hb3 (q_move (v := I (n)) rfl a1_0) ?_
      refine wpL_gq (U := NoB) rfl rfl rfl hb3 (q_move (v := I (hi)) rfl a1_2) ?_
      refine wpL_gq (U := NoB) rfl rfl rfl hb3 (q_leq rfl rfl rfl) ?_
      refine wpL_q (U := NoB) rfl (q_pickT (v := B (decide (n ≤ hi))) rfl hb3 rfl) ?_
      refine wpL_q (U := NoB) rfl (q_assign (v := B (decide (n ≤ hi))) rfl rfl) ?_
      exact ⟨(Eq.trans rfl (congrArg B (decide_congr_of ((Iff.rfl).trans (((and_iff_right hg2).trans Iff.rfl)).symm)))), rfl⟩
    · have hb4 := Eq.trans rfl (congrArg B (decide_eq_false hg2))
      refine wpL_gs rfl rfl rfl hb4 rfl ?_
      refine wpL_gs rfl rfl rfl hb4 rfl ?_
      refine wpL_gs rfl rfl rfl hb4 rfl ?_
      refine wpL_q (U := NoB) rfl (q_pickF (v := B (false)) rfl hb4 rfl) ?_
      refine wpL_q (U := NoB) rfl (q_assign (v := B (false)) rfl rfl) ?_
      exact ⟨(Eq.trans rfl (congrArg B ((decide_eq_false (fun h => hg2 h.1)).symm))), rfl⟩
  rintro f5 _ ⟨a5_6, rfl⟩
  clear a1_0 a1_1 a1_2
  refine wpF_ret ?_
  refine ⟨_, resT a5_6 resN, hS0.frame, ?_⟩
  show (B (decide ((lo ≤ n) ∧ (n ≤ hi)))) = B (decide (lo ≤ n ∧ n ≤ hi))
  exact congrArg B (by simp)

set_option maxRecDepth 100000 in
theorem fault_R {H0 : Heap} (c a : Int)  : CallsH Try.prog 47 #[I (c), I (a)] H0 (fun rv_ H' => Ext NoB H0 H' ∧ rv_ = Value.agg #[I c, I a]) := by
  have hS0 : St H0 NoB NoB [] H0 := St.start (fun _ h => h.elim)
  refine callsH_of_wpF (args := [I (c), I (a)]) (rs := [.cell 4 24]) Try.func47 rfl Try.ntmps47 Try.results47 (by kernel_rfl) (Nat.le_of_ble_eq_true rfl) ?_
  have a0_0 : argF [I (c), I (a)] 0 = I (c) := rfl
  have a0_1 : argF [I (c), I (a)] 1 = I (a) := rfl
  generalize argF [I (c), I (a)] = f0 at *
  refine wpF_seq ?_
  refine wpF_cut (fun f H => ∃ (g1 : Nat), f 0 = I (c) ∧ f 1 = I (a) ∧ f 4 = PT g1 0 ∧ St H0 NoB NoB [blkE g1 (.cells #[I (0), I (0)] 24)] H) ?_ ?_
  · refine wpF_region ?_
    refine wpL_o rfl ?_
    refine e_alloc rfl Try.zeroValue24 hS0 (fun g1 H2 hS3 hxx => ?_)
    replace hS3 : St H0 NoB NoB [blkE g1 (.cells #[I (0), I (0)] 24)] H2 := hS3
    exact ⟨g1, a0_0, a0_1, rfl, hS3⟩
  rintro f4 H4 ⟨g1, a4_0, a4_1, a4_4, hS4⟩
  clear a0_0 a0_1
  refine wpF_seq ?_
  refine wpF_cut (fun f H => f 4 = PT g1 0 ∧ St H0 NoB NoB [blkE g1 (.cells #[I (c), I (a)] 24)] H) ?_ ?_
  · refine wpF_region ?_
    refine wpL_q (U := NoB) rfl (q_move (v := I (c)) rfl a4_0) ?_
    refine wpL_q (U := NoB) rfl (q_move (v := I (a)) rfl a4_1) ?_
    refine wpL_q (U := NoB) rfl (q_build (v := Value.agg #[I (c), I (a)]) rfl (par2 (v0 := I (c)) (v1 := I (a)) rfl rfl) (fun w => by kernel_rfl)) ?_
    refine wpL_o rfl ?_
    refine e_storeBlkA (cs' := #[I (c), I (a)]) rfl a4_4 rfl Try.sizeOf24 rfl rfl (List.forall_mem_cons.2 ⟨rfl, List.forall_mem_cons.2 ⟨rfl, List.forall_mem_nil _⟩⟩) hS4 (fun H5 hS6 hxx => ?_)
    replace hS6 : St H0 NoB NoB [blkE g1 (.cells #[I (c), I (a)] 24)] H5 := hS6
    exact ⟨a4_4, hS6⟩
  rintro f7 H7 ⟨a7_4, hS7⟩
  clear a4_0 a4_1 a4_4
  refine wpF_ret ?_
  refine ⟨_, resC a7_4 (loadV_blkA Try.isAgg24 Try.sizeOf24 rfl (hS7.blk 0 rfl)) (resN), hS7.frame, ?_⟩
  show (Value.agg #[I (c), I (a)]) = Value.agg #[I c, I a]
  rfl

set_option maxRecDepth 100000 in
theorem fault_L {H0 : Heap} (c a : Int)  : CallsH Try.prog 15 #[I (c), I (a)] H0 (fun rv_ H' => Ext NoB H0 H' ∧ rv_ = Value.agg #[I c, I a]) := by
  have hS0 : St H0 NoB NoB [] H0 := St.start (fun _ h => h.elim)
  refine callsH_of_wpF (args := [I (c), I (a)]) (rs := [.cell 4 24]) Try.func15 rfl Try.ntmps15 Try.results15 (by kernel_rfl) (Nat.le_of_ble_eq_true rfl) ?_
  have a0_0 : argF [I (c), I (a)] 0 = I (c) := rfl
  have a0_1 : argF [I (c), I (a)] 1 = I (a) := rfl
  generalize argF [I (c), I (a)] = f0 at *
  refine wpF_seq ?_
  refine wpF_cut (fun f H => ∃ (g1 : Nat), f 0 = I (c) ∧ f 1 = I (a) ∧ f 4 = PT g1 0 ∧ St H0 NoB NoB [blkE g1 (.cells #[I (0), I (0)] 24)] H) ?_ ?_
  · refine wpF_region ?_
    refine wpL_o rfl ?_
    refine e_alloc rfl Try.zeroValue24 hS0 (fun g1 H2 hS3 hxx => ?_)
    replace hS3 : St H0 NoB NoB [blkE g1 (.cells #[I (0), I (0)] 24)] H2 := hS3
    exact ⟨g1, a0_0, a0_1, rfl, hS3⟩
  rintro f4 H4 ⟨g1, a4_0, a4_1, a4_4, hS4⟩
  clear a0_0 a0_1
  refine wpF_seq ?_
  refine wpF_cut (fun f H => f 4 = PT g1 0 ∧ St H0 NoB NoB [blkE g1 (.cells #[I (c), I (a)] 24)] H) ?_ ?_
  · refine wpF_region ?_
    refine wpL_q (U := NoB) rfl (q_move (v := I (c)) rfl a4_0) ?_
    refine wpL_q (U := NoB) rfl (q_move (v := I (a)) rfl a4_1) ?_
    refine wpL_q (U := NoB) rfl (q_build (v := Value.agg #[I (c), I (a)]) rfl (par2 (v0 := I (c)) (v1 := I (a)) rfl rfl) (fun w => by kernel_rfl)) ?_
    refine wpL_o rfl ?_
    refine e_storeBlkA (cs' := #[I (c), I (a)]) rfl a4_4 rfl Try.sizeOf24 rfl rfl (List.forall_mem_cons.2 ⟨rfl, List.forall_mem_cons.2 ⟨rfl, List.forall_mem_nil _⟩⟩) hS4 (fun H5 hS6 hxx => ?_)
    replace hS6 : St H0 NoB NoB [blkE g1 (.cells #[I (c), I (a)] 24)] H5 := hS6
    exact ⟨a4_4, hS6⟩
  rintro f7 H7 ⟨a7_4, hS7⟩
  clear a4_0 a4_1 a4_4
  refine wpF_ret ?_
  refine ⟨_, resC a7_4 (loadV_blkA Try.isAgg24 Try.sizeOf24 rfl (hS7.blk 0 rfl)) (resN), hS7.frame, ?_⟩
  show (Value.agg #[I (c), I (a)]) = Value.agg #[I c, I a]
  rfl

set_option maxRecDepth 100000 in
theorem Ints {H0 : Heap} (va vb : Value) (a b : List Int) (ra : Rd NoB H0 va a) (rb : Rd NoB H0 vb b) : CallsH Try.prog 32 #[va, vb] H0 (fun rv_ H' => Ext NoB H0 H' ∧ rv_ = B (decide (a = b))) := by
  have hsm := (Rd.list.1 ra).small
  have hS0 : St H0 NoB NoB [rdE va (a : List Int), rdE vb (b : List Int)] H0 := St.arg (St.arg (St.start (fun _ h => h.elim)) (Bl0.nil) rb (fun _ h => h)) (Bl0.cons (Bl0.nil)) ra (fun _ h => h)
  refine callsH_of_wpF (args := [va, vb]) (rs := [.tmp 4]) Try.func32 rfl Try.ntmps32 Try.results32 (by kernel_rfl) (Nat.le_of_ble_eq_true rfl) ?_
  have a0_0 : argF [va, vb] 0 = va := rfl
  have a0_1 : argF [va, vb] 1 = vb := rfl
  generalize argF [va, vb] = f0 at *
  refine wpF_seq ?_
  refine wpF_cut (fun f H => f 0 = va ∧ f 1 = vb ∧ H0 = H) ?_ ?_
  · refine wpF_region ?_
    refine wpL_q (U := NoB) rfl (q_assign (v := B (false)) rfl rfl) ?_
    exact ⟨a0_0, a0_1, rfl⟩
  rintro f1 _ ⟨a1_0, a1_1, rfl⟩
  clear a0_0 a0_1
  refine wpF_seq ?_
  refine wpF_seq ?_
  refine wpF_cut (fun f H => f 0 = va ∧ f 1 = vb ∧ f 10 = B (decide ((a.length : Int) ≠ (b.length : Int))) ∧ H0 = H) ?_ ?_
  · refine wpF_region ?_
    refine wpL_q (U := NoB) rfl (q_move (v := va) rfl a1_0) ?_
    refine wpL_q (U := NoB) rfl (q_lenRd rfl Try.underlying22 rfl (hS0.rdl 0 rfl)) ?_
    refine wpL_q (U := NoB) rfl (q_move (v := vb) rfl a1_1) ?_
    refine wpL_q (U := NoB) rfl (q_lenRd rfl Try.underlying22 rfl (hS0.rdl 1 rfl)) ?_
    refine wpL_q (U := NoB) rfl (q_neq rfl rfl rfl) ?_
    exact ⟨a1_0, a1_1, rfl, rfl⟩
  rintro f2 _ ⟨a2_0, a2_1, a2_10, rfl⟩
  clear a1_0 a1_1
  refine wpF_condP a2_10 (fun hlen => ?t17) (fun hlen => ?e17)
  case t17 =>
    refine wpF_seq ?_
    refine wpF_cut (fun f H => f 4 = B (false) ∧ H0 = H) ?_ ?_
    · refine wpF_region ?_
      refine wpL_q (U := NoB) rfl (q_assign (v := B (false)) rfl rfl) ?_
      exact ⟨rfl, rfl⟩
    rintro f4 _ ⟨a4_4, rfl⟩
    clear a2_0 a2_1 a2_10
    refine wpF_ret ?_
    refine ⟨_, resT a4_4 resN, hS0.frame, ?_⟩
    show (B (false)) = B (decide (a = b))
    exact congrArg B (by simp; intro h; subst h; simp at hlen)
  refine wpF_skip ?_
  refine wpF_seq ?_
  refine wpF_seq ?_
  refine wpF_cut (fun f H => f 0 = va ∧ f 1 = vb ∧ f 5 = I (0) ∧ H0 = H) ?_ ?_
  · refine wpF_region ?_
    refine wpL_q (U := NoB) rfl (q_assign (v := I (0)) rfl rfl) ?_
    exact ⟨a2_0, a2_1, rfl, rfl⟩
  rintro f5 _ ⟨a5_0, a5_1, a5_5, rfl⟩
  clear a2_0 a2_1 a2_10
  refine wpF_block ?_
  refine wpF_loop (fun mz f H => ∃ (k : Nat), mz = a.length - k ∧ (k ≤ a.length) ∧ (a.take k = b.take k) ∧ f 0 = va ∧ f 1 = vb ∧ f 5 = I ((k : Int)) ∧ H0 = H) (a.length - 0) ?_ ?_
  · exact ⟨0, rfl, Nat.zero_le _, rfl, a5_0, a5_1, (Eq.trans a5_5 (congrArg I (by omega))), rfl⟩
  intro m6 f6 H6 hI6
  obtain ⟨k, hm6, hk, hpre, a6_0, a6_1, a6_5, rfl⟩ := hI6
  clear a5_0 a5_1 a5_5
  refine wpF_seq ?_
  refine wpF_seq ?_
  refine wpF_cut (fun f H => f 0 = va ∧ f 1 = vb ∧ f 5 = I ((k : Int)) ∧ f 14 = B (decide ((k : Int) < (a.length : Int))) ∧ H0 = H) ?_ ?_
  · refine wpF_region ?_
    refine wpL_q (U := NoB) rfl (q_move (v := I ((k : Int))) rfl a6_5) ?_
    refine wpL_q (U := NoB) rfl (q_move (v := va) rfl a6_0) ?_
    refine wpL_q (U := NoB) rfl (q_lenRd rfl Try.underlying22 rfl (hS0.rdl 0 rfl)) ?_
    refine wpL_q (U := NoB) rfl (q_lss rfl rfl rfl) ?_
    exact ⟨a6_0, a6_1, a6_5, rfl, rfl⟩
  rintro f7 _ ⟨a7_0, a7_1, a7_5, a7_14, rfl⟩
  clear a6_0 a6_1 a6_5
  refine wpF_condP a7_14 (fun hlt => ?t16) (fun hlt => ?e16)
  case e16 =>
    refine wpF_exit ?_
    refine atX_here ?_
    refine wpF_seq ?_
    refine wpF_cut (fun f H => f 4 = B (true) ∧ H0 = H) ?_ ?_
    · refine wpF_region ?_
      refine wpL_q (U := NoB) rfl (q_assign (v := B (true)) rfl rfl) ?_
      exact ⟨rfl, rfl⟩
    rintro f15 _ ⟨a15_4, rfl⟩
    clear a7_0 a7_1 a7_14 a7_5
    refine wpF_ret ?_
    refine ⟨_, resT a15_4 resN, hS0.frame, ?_⟩
    show (B (true)) = B (decide (a = b))
    exact congrArg B (by simp; exact take_all hpre (by omega) (by omega))
  refine wpF_skip ?_
  refine wpF_seq ?_
  refine wpF_block ?_
  refine wpF_seq ?_
  refine wpF_cut (fun f H => f 0 = va ∧ f 1 = vb ∧ f 5 = I ((k : Int)) ∧ f 25 = B (decide ((nth a k) ≠ (nth b k))) ∧ H0 = H) ?_ ?_
  · refine wpF_drawn [] [] (fun _ _ => False) (by kernel_rfl) (by kernel_rfl) ?_
    refine wpR_q 0 (by kernel_rfl) rfl (quietAt rfl rfl (q_move (v := va) rfl a7_0)) ?_
    refine wpR_q 1 (by kernel_rfl) rfl (quietAt rfl rfl (q_move (v := I ((k : Int))) rfl a7_5)) ?_
    refine wpR_q 2 (by kernel_rfl) rfl (quietAt rfl rfl (q_indexRd (k := k) rfl Try.underlying22 el_Int_3 rfl rfl (hS0.rdl 0 rfl) (by omega) (by omega))) ?_
    refine wpR_q 3 (by kernel_rfl) rfl (quietAt rfl rfl (q_loadInt (k := k) rfl rfl el_Int_3 (hS0.rdl 0 rfl) (by omega) (labU_sub [] rfl (List.forall_mem_nil _)))) ?_
    refine wpR_q 4 (by kernel_rfl) rfl (quietAt rfl rfl (q_move (v := vb) rfl a7_1)) ?_
    refine wpR_q 5 (by kernel_rfl) rfl (quietAt rfl rfl (q_move (v := I ((k : Int))) rfl a7_5)) ?_
    refine wpR_q 6 (by kernel_rfl) rfl (quietAt rfl rfl (q_indexRd (k := k) rfl Try.underlying22 el_Int_3 rfl rfl (hS0.rdl 1 rfl) (by omega) (by omega))) ?_
    refine wpR_q 7 (by kernel_rfl) rfl (quietAt rfl rfl (q_loadInt (k := k) rfl rfl el_Int_3 (hS0.rdl 1 rfl) (by omega) (labU_sub [] rfl (List.forall_mem_nil _)))) ?_
    refine wpR_q 8 (by kernel_rfl) rfl (quietAt rfl rfl (q_neq rfl rfl rfl)) ?_
    refine wpR_end (by kernel_rfl) ?_
    exact ⟨a7_0, a7_1, a7_5, rfl, rfl⟩
  rintro f10 _ ⟨a10_0, a10_1, a10_5, a10_25, rfl⟩
  clear a7_0 a7_1 a7_14 a7_5
  refine wpF_condP a10_25 (fun hne => ?t14) (fun hne => ?e14)
  case t14 =>
    refine wpF_seq ?_
    refine wpF_cut (fun f H => f 4 = B (false) ∧ H0 = H) ?_ ?_
    · refine wpF_region ?_
      refine wpL_q (U := NoB) rfl (q_assign (v := B (false)) rfl rfl) ?_
      exact ⟨rfl, rfl⟩
    rintro f12 _ ⟨a12_4, rfl⟩
    clear a10_0 a10_1 a10_25 a10_5
    refine wpF_ret ?_
    refine ⟨_, resT a12_4 resN, hS0.frame, ?_⟩
    show (B (false)) = B (decide (a = b))
    exact congrArg B (by simp; intro h; subst h; simp at hne)
  refine wpF_skip ?_
  refine wpF_cut (fun f H => f 0 = va ∧ f 1 = vb ∧ f 5 = I ((k : Int) + 1) ∧ H0 = H) ?_ ?_
  · refine wpF_region ?_
    refine wpL_q (U := NoB) rfl (q_move (v := I ((k : Int))) rfl a10_5) ?_
    refine wpL_q (U := NoB) rfl (q_add rfl rfl rfl (by constructor <;> omega)) ?_
    refine wpL_q (U := NoB) rfl (q_assign (v := I ((k : Int) + 1)) rfl rfl) ?_
    exact ⟨a10_0, a10_1, rfl, rfl⟩
  rintro f13 _ ⟨a13_0, a13_1, a13_5, rfl⟩
  clear a10_0 a10_1 a10_25 a10_5
  refine ⟨_, ?_, k + 1, rfl, (by omega), (take_same hpre (by omega) (by omega) (by simpa using hne)), a13_0, a13_1, (Eq.trans a13_5 (congrArg I (by omega))), rfl⟩
  omega

set_option maxRecDepth 100000 in
theorem Equal {H0 : Heap} (va vb : Value) (a b : List Int) (ra : Rd NoB H0 va a) (rb : Rd NoB H0 vb b) : CallsH Try.prog 73 #[va, vb] H0 (fun rv_ H' => Ext NoB H0 H' ∧ rv_ = B (decide (a = b))) := by
  have hsm := (Rd.list.1 ra).small
  have hS0 : St H0 NoB NoB [rdE va (a : List Int), rdE vb (b : List Int)] H0 := St.arg (St.arg (St.start (fun _ h => h.elim)) (Bl0.nil) rb (fun _ h => h)) (Bl0.cons (Bl0.nil)) ra (fun _ h => h)
  refine callsH_of_wpF (args := [va, vb]) (rs := [.tmp 4]) Try.func73 rfl Try.ntmps73 Try.results73 (by kernel_rfl) (Nat.le_of_ble_eq_true rfl) ?_
  have a0_0 : argF [va, vb] 0 = va := rfl
  have a0_1 : argF [va, vb] 1 = vb := rfl
  generalize argF [va, vb] = f0 at *
  refine wpF_seq ?_
  refine wpF_cut (fun f H => f 0 = va ∧ f 1 = vb ∧ H0 = H) ?_ ?_
  · refine wpF_region ?_
    refine wpL_q (U := NoB) rfl (q_assign (v := B (false)) rfl rfl) ?_
    exact ⟨a0_0, a0_1, rfl⟩
  rintro f1 _ ⟨a1_0, a1_1, rfl⟩
  clear a0_0 a0_1
  refine wpF_seq ?_
  refine wpF_seq ?_
  refine wpF_cut (fun f H => f 0 = va ∧ f 1 = vb ∧ f 10 = B (decide ((a.length : Int) ≠ (b.length : Int))) ∧ H0 = H) ?_ ?_
  · refine wpF_region ?_
    refine wpL_q (U := NoB) rfl (q_move (v := va) rfl a1_0) ?_
    refine wpL_q (U := NoB) rfl (q_lenRd rfl Try.underlying22 rfl (hS0.rdl 0 rfl)) ?_
    refine wpL_q (U := NoB) rfl (q_move (v := vb) rfl a1_1) ?_
    refine wpL_q (U := NoB) rfl (q_lenRd rfl Try.underlying22 rfl (hS0.rdl 1 rfl)) ?_
    refine wpL_q (U := NoB) rfl (q_neq rfl rfl rfl) ?_
    exact ⟨a1_0, a1_1, rfl, rfl⟩
  rintro f2 _ ⟨a2_0, a2_1, a2_10, rfl⟩
  clear a1_0 a1_1
  refine wpF_condP a2_10 (fun hlen => ?t18) (fun hlen => ?e18)
  case t18 =>
    refine wpF_seq ?_
    refine wpF_cut (fun f H => f 4 = B (false) ∧ H0 = H) ?_ ?_
    · refine wpF_region ?_
      refine wpL_q (U := NoB) rfl (q_assign (v := B (false)) rfl rfl) ?_
      exact ⟨rfl, rfl⟩
    rintro f4 _ ⟨a4_4, rfl⟩
    clear a2_0 a2_1 a2_10
    refine wpF_ret ?_
    refine ⟨_, resT a4_4 resN, hS0.frame, ?_⟩
    show (B (false)) = B (decide (a = b))
    exact congrArg B (by simp; intro h; subst h; simp at hlen)
  refine wpF_skip ?_
  refine wpF_seq ?_
  refine wpF_seq ?_
  refine wpF_cut (fun f H => f 0 = va ∧ f 1 = vb ∧ f 12 = I ((a.length : Int)) ∧ f 13 = I (0) ∧ H0 = H) ?_ ?_
  · refine wpF_region ?_
    refine wpL_q (U := NoB) rfl (q_move (v := va) rfl a2_0) ?_
    refine wpL_q (U := NoB) rfl (q_lenRd rfl Try.underlying22 rfl (hS0.rdl 0 rfl)) ?_
    refine wpL_q (U := NoB) rfl (q_move (v := I (0)) rfl rfl) ?_
    exact ⟨a2_0, a2_1, rfl, rfl, rfl⟩
  rintro f5 _ ⟨a5_0, a5_1, a5_12, a5_13, rfl⟩
  clear a2_0 a2_1 a2_10
  refine wpF_block ?_
  refine wpF_loop (fun mz f H => ∃ (k : Nat), mz = a.length - k ∧ (k ≤ a.length) ∧ (a.take k = b.take k) ∧ f 0 = va ∧ f 1 = vb ∧ f 12 = I ((a.length : Int)) ∧ f 13 = I ((k : Int)) ∧ H0 = H) (a.length - 0) ?_ ?_
  · exact ⟨0, rfl, Nat.zero_le _, rfl, a5_0, a5_1, a5_12, (Eq.trans a5_13 (congrArg I (by omega))), rfl⟩
  intro m6 f6 H6 hI6
  obtain ⟨k, hm6, hk, hpre, a6_0, a6_1, a6_12, a6_13, rfl⟩ := hI6
  clear a5_0 a5_1 a5_12 a5_13
  refine wpF_seq ?_
  refine wpF_cut (fun f H => f 0 = va ∧ f 1 = vb ∧ f 12 = I ((a.length : Int)) ∧ f 13 = I ((k : Int)) ∧ f 14 = B (decide ((k : Int) < (a.length : Int))) ∧ H0 = H) ?_ ?_
  · refine wpF_region ?_
    refine wpL_q (U := NoB) rfl (q_lss rfl a6_13 a6_12) ?_
    exact ⟨a6_0, a6_1, a6_12, a6_13, rfl, rfl⟩
  rintro f7 _ ⟨a7_0, a7_1, a7_12, a7_13, a7_14, rfl⟩
  clear a6_0 a6_1 a6_12 a6_13
  refine wpF_seq ?_
  refine wpF_condP a7_14 (fun hlt => ?t17) (fun hlt => ?e17)
  case e17 =>
    refine wpF_exit ?_
    refine atX_here ?_
    refine wpF_seq ?_
    refine wpF_cut (fun f H => f 4 = B (true) ∧ H0 = H) ?_ ?_
    · refine wpF_region ?_
      refine wpL_q (U := NoB) rfl (q_assign (v := B (true)) rfl rfl) ?_
      exact ⟨rfl, rfl⟩
    rintro f16 _ ⟨a16_4, rfl⟩
    clear a7_0 a7_1 a7_12 a7_13 a7_14
    refine wpF_ret ?_
    refine ⟨_, resT a16_4 resN, hS0.frame, ?_⟩
    show (B (true)) = B (decide (a = b))
    exact congrArg B (by simp; exact take_all hpre (by omega) (by omega))
  refine wpF_skip ?_
  refine wpF_seq ?_
  refine wpF_block ?_
  refine wpF_seq ?_
  refine wpF_cut (fun f H => f 0 = va ∧ f 1 = vb ∧ f 5 = I ((k : Int)) ∧ f 12 = I ((a.length : Int)) ∧ f 13 = I ((k : Int)) ∧ H0 = H) ?_ ?_
  · refine wpF_region ?_
    refine wpL_q (U := NoB) rfl (q_move (v := I ((k : Int))) rfl a7_13) ?_
    refine wpL_q (U := NoB) rfl (q_assign (v := I ((k : Int))) rfl rfl) ?_
    exact ⟨a7_0, a7_1, rfl, a7_12, a7_13, rfl⟩
  rintro f9 _ ⟨a9_0, a9_1, a9_5, a9_12, a9_13, rfl⟩
  clear a7_0 a7_1 a7_12 a7_13 a7_14
  refine wpF_seq ?_
  refine wpF_cut (fun f H => f 0 = va ∧ f 1 = vb ∧ f 12 = I ((a.length : Int)) ∧ f 13 = I ((k : Int)) ∧ f 24 = B (decide ((nth a k) ≠ (nth b k))) ∧ H0 = H) ?_ ?_
  · refine wpF_drawn [] [] (fun _ _ => False) (by kernel_rfl) (by kernel_rfl) ?_
    refine wpR_q 0 (by kernel_rfl) rfl (quietAt rfl rfl (q_move (v := va) rfl a9_0)) ?_
    refine wpR_q 1 (by kernel_rfl) rfl (quietAt rfl rfl (q_move (v := I ((k : Int))) rfl a9_5)) ?_
    refine wpR_q 2 (by kernel_rfl) rfl (quietAt rfl rfl (q_indexRd (k := k) rfl Try.underlying22 el_Int_3 rfl rfl (hS0.rdl 0 rfl) (by omega) (by omega))) ?_
    refine wpR_q 3 (by kernel_rfl) rfl (quietAt rfl rfl (q_loadInt (k := k) rfl rfl el_Int_3 (hS0.rdl 0 rfl) (by omega) (labU_sub [] rfl (List.forall_mem_nil _)))) ?_
    refine wpR_q 4 (by kernel_rfl) rfl (quietAt rfl rfl (q_move (v := vb) rfl a9_1)) ?_
    refine wpR_q 5 (by kernel_rfl) rfl (quietAt rfl rfl (q_move (v := I ((k : Int))) rfl a9_5)) ?_
    refine wpR_q 6 (by kernel_rfl) rfl (quietAt rfl rfl (q_indexRd (k := k) rfl Try.underlying22 el_Int_3 rfl rfl (hS0.rdl 1 rfl) (by omega) (by omega))) ?_
    refine wpR_q 7 (by kernel_rfl) rfl (quietAt rfl rfl (q_loadInt (k := k) rfl rfl el_Int_3 (hS0.rdl 1 rfl) (by omega) (labU_sub [] rfl (List.forall_mem_nil _)))) ?_
    refine wpR_q 8 (by kernel_rfl) rfl (quietAt rfl rfl (q_neq rfl rfl rfl)) ?_
    refine wpR_end (by kernel_rfl) ?_
    exact ⟨a9_0, a9_1, a9_12, a9_13, rfl, rfl⟩
  rintro f11 _ ⟨a11_0, a11_1, a11_12, a11_13, a11_24, rfl⟩
  clear a9_0 a9_1 a9_12 a9_13 a9_5
  refine wpF_condP a11_24 (fun hne => ?t15) (fun hne => ?e15)
  case e15 =>
    refine wpF_skip ?_
    refine wpF_cut (fun f H => f 0 = va ∧ f 1 = vb ∧ f 12 = I ((a.length : Int)) ∧ f 13 = I ((k : Int) + 1) ∧ H0 = H) ?_ ?_
    · refine wpF_region ?_
      refine wpL_q (U := NoB) rfl (q_add rfl a11_13 rfl (by constructor <;> omega)) ?_
      refine wpL_q (U := NoB) rfl (q_move (v := I ((k : Int) + 1)) rfl rfl) ?_
      exact ⟨a11_0, a11_1, a11_12, rfl, rfl⟩
    rintro f14 _ ⟨a14_0, a14_1, a14_12, a14_13, rfl⟩
    clear a11_0 a11_1 a11_12 a11_13 a11_24
    refine ⟨_, ?_, k + 1, rfl, (by omega), (take_same hpre (by omega) (by omega) (by simpa using hne)), a14_0, a14_1, a14_12, (Eq.trans a14_13 (congrArg I (by omega))), rfl⟩
    omega
  refine wpF_seq ?_
  refine wpF_cut (fun f H => f 4 = B (false) ∧ H0 = H) ?_ ?_
  · refine wpF_region ?_
    refine wpL_q (U := NoB) rfl (q_assign (v := B (false)) rfl rfl) ?_
    exact ⟨rfl, rfl⟩
  rintro f13 _ ⟨a13_4, rfl⟩
  clear a11_0 a11_1 a11_12 a11_13 a11_24
  refine wpF_ret ?_
  refine ⟨_, resT a13_4 resN, hS0.frame, ?_⟩
  show (B (false)) = B (decide (a = b))
  exact congrArg B (by simp; intro h; subst h; simp at hne)

set_option maxRecDepth 100000 in
theorem Clone {H0 : Heap} {S : Nat → Prop} (va : Value) (a : List Int) (ra : Rd S H0 va a) : CallsH Try.prog 45 #[va] H0 (fun rv_ H' => Ext NoB H0 H' ∧ Rd (fun b => S b ∧ b < H0.size) H' rv_ a) := by
  have hby := (Rd.list.1 ra).bound
  have hS0 : St H0 NoB (fun b => S b ∧ b < H0.size) [rdE va (a : List Int)] H0 := St.arg (St.start (fun _ h => h.2)) (Bl0.nil) ra (fun _ h => h.1)
  refine callsH_of_wpF (args := [va]) (rs := [.tmp 2]) Try.func45 rfl Try.ntmps45 Try.results45 (by kernel_rfl) (Nat.le_of_ble_eq_true rfl) ?_
  have a0_0 : argF [va] 0 = va := rfl
  generalize argF [va] = f0 at *
  refine wpF_seq ?_
  refine wpF_cut (fun f H => f 0 = va ∧ H0 = H) ?_ ?_
  · refine wpF_region ?_
    refine wpL_q (U := NoB) rfl (q_assign (v := (Value.slice none 0 0)) rfl rfl) ?_
    exact ⟨a0_0, rfl⟩
  rintro f1 _ ⟨a1_0, rfl⟩
  clear a0_0
  refine wpF_seq ?_
  refine wpF_seq ?_
  refine wpF_cut (fun f H => f 0 = va ∧ f 4 = B (isNil va) ∧ H0 = H) ?_ ?_
  · refine wpF_region ?_
    refine wpL_q (U := NoB) rfl (q_move (v := va) rfl a1_0) ?_
    refine wpL_q (U := NoB) rfl (q_nilS rfl Try.underlying22 rfl ((hS0.rdl 0 rfl))) ?_
    exact ⟨a1_0, rfl, rfl⟩
  rintro f2 _ ⟨a2_0, a2_4, rfl⟩
  clear a1_0
  refine wpF_cond a2_4 (fun hnil => ?t14) (fun hnil => ?e14)
  case t14 =>
    refine wpF_seq ?_
    refine wpF_cut (fun f H => f 2 = (Value.slice none 0 0) ∧ H0 = H) ?_ ?_
    · refine wpF_region ?_
      refine wpL_q (U := NoB) rfl (q_assign (v := (Value.slice none 0 0)) rfl rfl) ?_
      exact ⟨rfl, rfl⟩
    rintro f4 _ ⟨a4_2, rfl⟩
    clear a2_0 a2_4
    refine wpF_ret ?_
    refine ⟨_, resT a4_2 resN, hS0.frame, ?_⟩
    show Rd (fun b => S b ∧ b < H0.size) H0 (Value.slice none 0 0) a
    rw [isNil_len (Rd.list.1 ra) hnil]
    exact rdNil
  refine wpF_skip ?_
  refine wpF_seq ?_
  refine wpF_cut (fun f H => ∃ (v9 : Value), f 2 = v9 ∧ St H0 NoB (fun b => S b ∧ b < H0.size) [rowE 3 v9 (a : List Int)] H) ?_ ?_
  · refine wpF_region ?_
    refine wpL_o rfl ?_
    refine e_buildSlice (vs := []) (xs := ([] : List Int)) rfl Try.underlying22 Try.zeroValue3 rfl Try.sizeOf3 par0 rfl hS0 (RdVs.nil) (by decide) (by decide) (fun v5 H6 hS7 hxx hvv5 => ?_)
    replace hS7 : St H0 NoB (fun b => S b ∧ b < H0.size) [rowE 3 v5 ([] : List Int), rdE va (a : List Int)] H6 := hS7
    refine wpL_q (U := NoB) rfl (q_move (v := va) rfl a2_0) ?_
    have hS8 : St H0 NoB (fun b => S b ∧ b < H0.size) [rowE 3 v5 ([] : List Int), rdE va (a : List Int)] H6 := hS7
    refine wpL_o rfl ?_
    refine e_append rfl Try.underlying22 em_Int_3 rfl rfl hS8 (hS8.rdS 1 rfl) (fun _ h => h) (by have : GoT.bytes Int = 8 := rfl; simp; omega) (by decide) (fun v9 H10 hS11 hxx => ?_)
    replace hS11 : St H0 NoB (fun b => S b ∧ b < H0.size) [rowE 3 v9 (a : List Int), rdE va (a : List Int)] H10 := by simpa using hS11
    refine wpL_q (U := NoB) rfl (q_assign (v := v9) rfl rfl) ?_
    exact ⟨v9, rfl, (hS11.drop (List.Sublist.cons_cons _ (List.Sublist.cons _ (List.Sublist.slnil))))⟩
  rintro f12 H12 ⟨v9, a12_2, hS12⟩
  clear a2_0 a2_4
  refine wpF_ret ?_
  refine ⟨_, resT a12_2 resN, hS12.frame, ?_⟩
  show Rd (fun b => S b ∧ b < H0.size) H12 v9 a
  have hS13 : St H0 NoB (fun b => S b ∧ b < H0.size) [rdE v9 (a : List Int)] H12 := St.fin hS12
  exact (hS13.result (hS13.rdS 0 rfl))

set_option maxRecDepth 100000 in
theorem rows_L {H0 : Heap} (va vb : Value) (a b : List (List Int)) (ra : Rd NoB H0 va a) (rb : Rd NoB H0 vb b) : CallsH Try.prog 19 #[va, vb] H0 (fun rv_ H' => Ext NoB H0 H' ∧ rv_ = B (decide (a = b))) := by
  have hsm := (Rd.list.1 ra).small
  have hS0 : St H0 NoB NoB [rdE va (a : List (List Int)), rdE vb (b : List (List Int))] H0 := St.arg (St.arg (St.start (fun _ h => h.elim)) (Bl0.nil) rb (fun _ h => h)) (Bl0.cons (Bl0.nil)) ra (fun _ h => h)
  refine callsH_of_wpF (args := [va, vb]) (rs := [.tmp 4]) Try.func19 rfl Try.ntmps19 Try.results19 (by kernel_rfl) (Nat.le_of_ble_eq_true rfl) ?_
  have a0_0 : argF [va, vb] 0 = va := rfl
  have a0_1 : argF [va, vb] 1 = vb := rfl
  generalize argF [va, vb] = f0 at *
  refine wpF_seq ?_
  refine wpF_cut (fun f H => f 0 = va ∧ f 1 = vb ∧ H0 = H) ?_ ?_
  · refine wpF_region ?_
    refine wpL_q (U := NoB) rfl (q_assign (v := B (false)) rfl rfl) ?_
    exact ⟨a0_0, a0_1, rfl⟩
  rintro f1 _ ⟨a1_0, a1_1, rfl⟩
  clear a0_0 a0_1
  refine wpF_seq ?_
  refine wpF_seq ?_
  refine wpF_cut (fun f H => f 0 = va ∧ f 1 = vb ∧ f 10 = B (decide ((a.length : Int) ≠ (b.length : Int))) ∧ H0 = H) ?_ ?_
  · refine wpF_region ?_
    refine wpL_q (U := NoB) rfl (q_move (v := va) rfl a1_0) ?_
    refine wpL_q (U := NoB) rfl (q_lenRd rfl Try.underlying27 rfl (hS0.rdl 0 rfl)) ?_
    refine wpL_q (U := NoB) rfl (q_move (v := vb) rfl a1_1) ?_
    refine wpL_q (U := NoB) rfl (q_lenRd rfl Try.underlying27 rfl (hS0.rdl 1 rfl)) ?_
    refine wpL_q (U := NoB) rfl (q_neq rfl rfl rfl) ?_
    exact ⟨a1_0, a1_1, rfl, rfl⟩
  rintro f2 _ ⟨a2_0, a2_1, a2_10, rfl⟩
  clear a1_0 a1_1
  refine wpF_condP a2_10 (fun hlen => ?t17) (fun hlen => ?e17)
  case t17 =>
    refine wpF_seq ?_
    refine wpF_cut (fun f H => f 4 = B (false) ∧ H0 = H) ?_ ?_
    · refine wpF_region ?_
      refine wpL_q (U := NoB) rfl (q_assign (v := B (false)) rfl rfl) ?_
      exact ⟨rfl, rfl⟩
    rintro f4 _ ⟨a4_4, rfl⟩
    clear a2_0 a2_1 a2_10
    refine wpF_ret ?_
    refine ⟨_, resT a4_4 resN, hS0.frame, ?_⟩
    show (B (false)) = B (decide (a = b))
    exact congrArg B (by simp; intro h; subst h; simp at hlen)
  refine wpF_skip ?_
  refine wpF_seq ?_
  refine wpF_seq ?_
  refine wpF_cut (fun f H => f 0 = va ∧ f 1 = vb ∧ f 5 = I (0) ∧ H0 = H) ?_ ?_
  · refine wpF_region ?_
    refine wpL_q (U := NoB) rfl (q_assign (v := I (0)) rfl rfl) ?_
    exact ⟨a2_0, a2_1, rfl, rfl⟩
  rintro f5 _ ⟨a5_0, a5_1, a5_5, rfl⟩
  clear a2_0 a2_1 a2_10
  refine wpF_block ?_
  refine wpF_loop (fun mz f H => ∃ (k : Nat), mz = a.length - k ∧ (k ≤ a.length) ∧ (a.take k = b.take k) ∧ f 0 = va ∧ f 1 = vb ∧ f 5 = I ((k : Int)) ∧ St H0 NoB NoB [rdE va (a : List (List Int)), rdE vb (b : List (List Int))] H) (a.length - 0) ?_ ?_
  · exact ⟨0, rfl, Nat.zero_le _, rfl, a5_0, a5_1, (Eq.trans a5_5 (congrArg I (by omega))), hS0⟩
  intro m6 f6 H6 hI6
  obtain ⟨k, hm6, hk, hpre, a6_0, a6_1, a6_5, hS6⟩ := hI6
  clear a5_0 a5_1 a5_5
  refine wpF_seq ?_
  refine wpF_seq ?_
  refine wpF_cut (fun f H => f 0 = va ∧ f 1 = vb ∧ f 5 = I ((k : Int)) ∧ f 14 = B (decide ((k : Int) < (a.length : Int))) ∧ H6 = H) ?_ ?_
  · refine wpF_region ?_
    refine wpL_q (U := NoB) rfl (q_move (v := I ((k : Int))) rfl a6_5) ?_
    refine wpL_q (U := NoB) rfl (q_move (v := va) rfl a6_0) ?_
    refine wpL_q (U := NoB) rfl (q_lenRd rfl Try.underlying27 rfl (hS6.rdl 0 rfl)) ?_
    refine wpL_q (U := NoB) rfl (q_lss rfl rfl rfl) ?_
    exact ⟨a6_0, a6_1, a6_5, rfl, rfl⟩
  rintro f7 _ ⟨a7_0, a7_1, a7_5, a7_14, rfl⟩
  clear a6_0 a6_1 a6_5
  refine wpF_condP a7_14 (fun hlt => ?t16) (fun hlt => ?e16)
  case e16 =>
    refine wpF_exit ?_
    refine atX_here ?_
    refine wpF_seq ?_
    refine wpF_cut (fun f H => f 4 = B (true) ∧ H6 = H) ?_ ?_
    · refine wpF_region ?_
      refine wpL_q (U := NoB) rfl (q_assign (v := B (true)) rfl rfl) ?_
      exact ⟨rfl, rfl⟩
    rintro f15 _ ⟨a15_4, rfl⟩
    clear a7_0 a7_1 a7_14 a7_5
    refine wpF_ret ?_
    refine ⟨_, resT a15_4 resN, hS6.frame, ?_⟩
    show (B (true)) = B (decide (a = b))
    exact congrArg B (by simp; exact take_all hpre (by omega) (by omega))
  refine wpF_skip ?_
  refine wpF_seq ?_
  refine wpF_block ?_
  refine wpF_seq ?_
  obtain ⟨u9o3, huu9o3, hlu9o3⟩ := (Rd.list.1 (hS6.rdS 0 rfl)).elem k (by omega)
  have hS9o3 : St H0 NoB NoB [rdE u9o3 (nth a k : List Int), rdE va (a : List (List Int)), rdE vb (b : List (List Int))] H6 := hS6.rd huu9o3
  obtain ⟨u9o7, huu9o7, hlu9o7⟩ := (Rd.list.1 (hS9o3.rdS 2 rfl)).elem k (by omega)
  have hS9o7 : St H0 NoB NoB [rdE u9o7 (nth b k : List Int), rdE u9o3 (nth a k : List Int), rdE va (a : List (List Int)), rdE vb (b : List (List Int))] H6 := hS9o3.rd huu9o7
  refine wpF_cut (fun f H => f 0 = va ∧ f 1 = vb ∧ f 5 = I ((k : Int)) ∧ f 26 = B (decide (¬ ((nth a k) = (nth b k)))) ∧ St H0 NoB NoB [rdE va (a : List (List Int)), rdE vb (b : List (List Int))] H) ?_ ?_
  · refine wpF_drawn [] [] (fun _ _ => False) (by kernel_rfl) (by kernel_rfl) ?_
    refine wpR_q 0 (by kernel_rfl) rfl (quietAt rfl rfl (q_move (v := va) rfl a7_0)) ?_
    refine wpR_q 1 (by kernel_rfl) rfl (quietAt rfl rfl (q_move (v := I ((k : Int))) rfl a7_5)) ?_
    refine wpR_q 2 (by kernel_rfl) rfl (quietAt rfl rfl (q_indexRd (k := k) rfl Try.underlying27 el_LInt_22 rfl rfl (hS6.rdl 0 rfl) (by omega) (by omega))) ?_
    refine wpR_q 3 (by kernel_rfl) rfl (quietAt rfl rfl (q_loadE rfl rfl (hlu9o3 Try.prog 22 _ el_LInt_22 (labU_sub [] rfl (List.forall_mem_nil _))))) ?_
    refine wpR_q 4 (by kernel_rfl) rfl (quietAt rfl rfl (q_move (v := vb) rfl a7_1)) ?_
    refine wpR_q 5 (by kernel_rfl) rfl (quietAt rfl rfl (q_move (v := I ((k : Int))) rfl a7_5)) ?_
    refine wpR_q 6 (by kernel_rfl) rfl (quietAt rfl rfl (q_indexRd (k := k) rfl Try.underlying27 el_LInt_22 rfl rfl (hS9o3.rdl 2 rfl) (by omega) (by omega))) ?_
    refine wpR_q 7 (by kernel_rfl) rfl (quietAt rfl rfl (q_loadE rfl rfl (hlu9o7 Try.prog 22 _ el_LInt_22 (labU_sub [] rfl (List.forall_mem_nil _))))) ?_
    refine wpR_n [8] (by kernel_rfl) ?_
    refine List.forall_mem_cons.2 ⟨?_, List.forall_mem_nil _⟩
    refine exE rfl rfl ?_
    refine e_call rfl Try.call32 (arr2 (v0 := u9o3) (v1 := u9o7) rfl rfl) (Ints u9o3 u9o7 _ _ (hS9o7.rdN 1 rfl) (hS9o7.rdN 0 rfl)) ?_
    rintro _ H9o8 ⟨hxx, rfl⟩
    have hS9o8 : St H0 NoB NoB [rdE u9o7 (nth b k : List Int), rdE u9o3 (nth a k : List Int), rdE va (a : List (List Int)), rdE vb (b : List (List Int))] H9o8 := hS9o7.ext hxx
    refine ⟨Ext.mono hxx (fun _ h => h.elim), ?_⟩
    refine wpR_q 9 (by kernel_rfl) rfl (quietAt rfl rfl (q_notP rfl rfl)) ?_
    refine wpR_end (by kernel_rfl) ?_
    exact ⟨a7_0, a7_1, a7_5, rfl, (hS9o8.drop (List.Sublist.cons _ (List.Sublist.cons _ (List.Sublist.cons_cons _ (List.Sublist.cons_cons _ (List.Sublist.slnil))))))⟩
  rintro f10 H10 ⟨a10_0, a10_1, a10_5, a10_26, hS10⟩
  clear a7_0 a7_1 a7_14 a7_5
  refine wpF_condP a10_26 (fun hne => ?t14) (fun hne => ?e14)
  case t14 =>
    refine wpF_seq ?_
    refine wpF_cut (fun f H => f 4 = B (false) ∧ H10 = H) ?_ ?_
    · refine wpF_region ?_
      refine wpL_q (U := NoB) rfl (q_assign (v := B (false)) rfl rfl) ?_
      exact ⟨rfl, rfl⟩
    rintro f12 _ ⟨a12_4, rfl⟩
    clear a10_0 a10_1 a10_26 a10_5
    refine wpF_ret ?_
    refine ⟨_, resT a12_4 resN, hS10.frame, ?_⟩
    show (B (false)) = B (decide (a = b))
    exact congrArg B (by simp; intro h; subst h; simp at hne)
  refine wpF_skip ?_
  refine wpF_cut (fun f H => f 0 = va ∧ f 1 = vb ∧ f 5 = I ((k : Int) + 1) ∧ H10 = H) ?_ ?_
  · refine wpF_region ?_
    refine wpL_q (U := NoB) rfl (q_move (v := I ((k : Int))) rfl a10_5) ?_
    refine wpL_q (U := NoB) rfl (q_add rfl rfl rfl (by constructor <;> omega)) ?_
    refine wpL_q (U := NoB) rfl (q_assign (v := I ((k : Int) + 1)) rfl rfl) ?_
    exact ⟨a10_0, a10_1, rfl, rfl⟩
  rintro f13 _ ⟨a13_0, a13_1, a13_5, rfl⟩
  clear a10_0 a10_1 a10_26 a10_5
  refine ⟨_, ?_, k + 1, rfl, (by omega), (take_same hpre (by omega) (by omega) (by simpa using hne)), a13_0, a13_1, (Eq.trans a13_5 (congrArg I (by omega))), hS10⟩
  omega

set_option maxRecDepth 100000 in
theorem from_F : ∀ (nn : Nat) {H0 : Heap} (gx r : Nat) (vp vt vx : Value) (ps t : List Int) (m : List (Int × List Int)) (S : Nat → Prop) (_hA : ∀ e ∈ [mapE r (m : List (Int × (List Int))), blkE gx (.cells #[vx, (Value.map (some r))] 68)], e.ok S H0) (_hsb : ∀ b, S b → b < H0.size) (_hin : ∀ b, own [mapE r (m : List (Int × (List Int))), blkE gx (.cells #[vx, (Value.map (some r))] 68)] b → S b) (_hne : r ≠ gx) (_rp : Rd S H0 vp ps) (_rt : Rd S H0 vt t) (_hn : ps.length = nn), CallsH Try.prog 44 #[PT gx 0, vp, vt] H0 (fun rv_ H' => Ext (own [mapE r (m : List (Int × (List Int))), blkE gx (.cells #[vx, (Value.map (some r))] 68)]) H0 H' ∧ ∃ m2, rv_ = B (fitF ps t (mget m)).isSome ∧ mget m2 = (fitF ps t (mget m)).getD (mget m) ∧ ∀ e ∈ [mapE r (m2 : List (Int × (List Int))), blkE gx (.cells #[vx, (Value.map (some r))] 68)], e.ok (lv S [mapE r (m : List (Int × (List Int))), blkE gx (.cells #[vx, (Value.map (some r))] 68)] [mapE r (m2 : List (Int × (List Int))), blkE gx (.cells #[vx, (Value.map (some r))] 68)]) H') := by
  intro nn
  induction nn using Nat.strongRecOn with
  | _ nn ih =>
  intro H0 gx r vp vt vx ps t m S hA hsb hin hne rp rt hnn
  have hS00 := St.handed hA (pw2 (fun b h1 h2 => hne (h1.symm.trans h2))) hsb hin
  have hS01 := hS00.rd (rt.sub fun b hb => handed_sub hin hb)
  have hS0 : St H0 (own [mapE r (m : List (Int × (List Int))), blkE gx (.cells #[vx, (Value.map (some r))] 68)]) (fun b => S b ∧ ¬ own [mapE r (m : List (Int × (List Int))), blkE gx (.cells #[vx, (Value.map (some r))] 68)] b) [rdE vp (ps : List Int), rdE vt (t : List Int), mapE r (m : List (Int × (List Int))), blkE gx (.cells #[vx, (Value.map (some r))] 68)] H0 := hS01.rd (rp.sub fun b hb => handed_sub hin (SL_rd hb))
  have hsp := (Rd.list.1 rp).small
  have hst := (Rd.list.1 rt).small
  have hbt : t.length * 8 ≤ 140737488355328 := (Rd.list.1 rt).bound
  refine callsH_of_wpF (args := [PT gx 0, vp, vt]) (rs := [.tmp 6]) Try.func44 rfl Try.ntmps44 Try.results44 (by kernel_rfl) (Nat.le_of_ble_eq_true rfl) ?_
  have a0_0 : argF [PT gx 0, vp, vt] 0 = PT gx 0 := rfl
  have a0_1 : argF [PT gx 0, vp, vt] 1 = vp := rfl
  have a0_2 : argF [PT gx 0, vp, vt] 2 = vt := rfl
  generalize argF [PT gx 0, vp, vt] = f0 at *
  refine wpF_seq ?_
  refine wpF_cut (fun f H => f 0 = PT gx 0 ∧ f 1 = vp ∧ f 2 = vt ∧ H0 = H) ?_ ?_
  · refine wpF_region ?_
    refine wpL_q (U := NoB) rfl (q_assign (v := B (false)) rfl rfl) ?_
    exact ⟨a0_0, a0_1, a0_2, rfl⟩
  rintro f1 _ ⟨a1_0, a1_1, a1_2, rfl⟩
  clear a0_0 a0_1 a0_2
  refine wpF_seq ?_
  refine wpF_seq ?_
  refine wpF_cut (fun f H => f 0 = PT gx 0 ∧ f 1 = vp ∧ f 2 = vt ∧ f 13 = B (decide ((ps.length : Int) = 0)) ∧ H0 = H) ?_ ?_
  · refine wpF_region ?_
    refine wpL_q (U := NoB) rfl (q_move (v := vp) rfl a1_1) ?_
    refine wpL_q (U := NoB) rfl (q_lenRd rfl Try.underlying22 rfl (hS0.rdl 0 rfl)) ?_
    refine wpL_q (U := NoB) rfl (q_eql rfl rfl rfl) ?_
    exact ⟨a1_0, a1_1, a1_2, rfl, rfl⟩
  rintro f2 _ ⟨a2_0, a2_1, a2_2, a2_13, rfl⟩
  clear a1_0 a1_1 a1_2
  refine wpF_condP a2_13 (fun hl0 => ?t51) (fun hl0 => ?e51)
  case t51 =>
    refine wpF_seq ?_
    refine wpF_cut (fun f H => f 6 = B (decide ((t.length : Int) = 0)) ∧ H0 = H) ?_ ?_
    · refine wpF_region ?_
      refine wpL_q (U := NoB) rfl (q_move (v := vt) rfl a2_2) ?_
      refine wpL_q (U := NoB) rfl (q_lenRd rfl Try.underlying22 rfl (hS0.rdl 1 rfl)) ?_
      refine wpL_q (U := NoB) rfl (q_eql rfl rfl rfl) ?_
      refine wpL_q (U := NoB) rfl (q_assign (v := B (decide ((t.length : Int) = 0))) rfl rfl) ?_
      exact ⟨rfl, rfl⟩
    rintro f4 _ ⟨a4_6, rfl⟩
    clear a2_0 a2_1 a2_13 a2_2
    refine wpF_ret ?_
    refine ⟨_, resT a4_6 resN, hS0.frameM, ?_⟩
    show ∃ m2, (B (decide ((t.length : Int) = 0))) = B (fitF ps t (mget m)).isSome ∧ mget m2 = (fitF ps t (mget m)).getD (mget m) ∧ ∀ e ∈ [mapE r (m2 : List (Int × (List Int))), blkE gx (.cells #[vx, (Value.map (some r))] 68)], e.ok (lv S [mapE r (m : List (Int × (List Int))), blkE gx (.cells #[vx, (Value.map (some r))] 68)] [mapE r (m2 : List (Int × (List Int))), blkE gx (.cells #[vx, (Value.map (some r))] 68)]) H0
    rw [fitF_nil (by omega)]
    exact ⟨_, congrArg B (by by_cases h0 : t.length = 0 <;> simp [h0]), (by by_cases h0 : t.length = 0 <;> simp [h0]), St.leave (hS0.drop (List.Sublist.cons _ (List.Sublist.cons _ (List.Sublist.cons_cons _ (List.Sublist.cons_cons _ (List.Sublist.slnil))))))⟩
  have hlen : 0 < ps.length := by omega
  refine wpF_skip ?_
  refine wpF_seq ?_
  refine wpF_cut (fun f H => f 0 = PT gx 0 ∧ f 1 = vp ∧ f 2 = vt ∧ f 7 = I (nth ps 0) ∧ H0 = H) ?_ ?_
  · refine wpF_region ?_
    refine wpL_q (U := NoB) rfl (q_move (v := vp) rfl a2_1) ?_
    refine wpL_q (U := NoB) rfl (q_indexRd (k := 0) rfl Try.underlying22 el_Int_3 rfl rfl (hS0.rdl 0 rfl) (by omega) (by omega)) ?_
    refine wpL_q (U := NoB) rfl (q_loadInt (k := 0) rfl rfl el_Int_3 (hS0.rdl 0 rfl) (by omega) (fun _ h => h)) ?_
    refine wpL_q (U := NoB) rfl (q_assign (v := I (nth ps 0)) rfl rfl) ?_
    exact ⟨a2_0, a2_1, a2_2, rfl, rfl⟩
  rintro f5 _ ⟨a5_0, a5_1, a5_2, a5_7, rfl⟩
  clear a2_0 a2_1 a2_13 a2_2
  refine wpF_seq ?_
  refine wpF_seq ?_
  refine wpF_cut (fun f H => f 0 = PT gx 0 ∧ f 1 = vp ∧ f 2 = vt ∧ f 7 = I (nth ps 0) ∧ f 21 = B (decide (0 ≤ (nth ps 0))) ∧ H0 = H) ?_ ?_
  · refine wpF_region ?_
    refine wpL_q (U := NoB) rfl (q_move (v := I (nth ps 0)) rfl a5_7) ?_
    refine wpL_q (U := NoB) rfl (q_geq rfl rfl rfl) ?_
    exact ⟨a5_0, a5_1, a5_2, a5_7, rfl, rfl⟩
  rintro f6 _ ⟨a6_0, a6_1, a6_2, a6_7, a6_21, rfl⟩
  clear a5_0 a5_1 a5_2 a5_7
  refine wpF_condP a6_21 (fun hneg => ?t50) (fun hneg => ?e50)
  case t50 =>
    refine wpF_seq ?_
    refine wpF_cut (fun f H => ∃ (mm : List (Int × List Int)), (mget mm = (fitF ps t (mget m)).getD (mget m)) ∧ f 6 = B ((fitF ps t (mget m)).isSome) ∧ St H0 (own [mapE r (m : List (Int × (List Int))), blkE gx (.cells #[vx, (Value.map (some r))] 68)]) (fun b => S b ∧ ¬ own [mapE r (m : List (Int × (List Int))), blkE gx (.cells #[vx, (Value.map (some r))] 68)] b) [rdE vp (ps : List Int), rdE vt (t : List Int), mapE r (mm : List (Int × (List Int))), blkE gx (.cells #[vx, (Value.map (some r))] 68)] H) ?_ ?_
    · refine wpF_drawn [none, none, none, none, none, none, none, none, none, none, none, none, none, none, none, none, some 0, none, none] [[], [], [], [], [], [], [], [], [], [], [], [], [], [], [], [], [], [], []] (fun l b => match l with | 0 => True | _ => False) (by kernel_rfl) (by kernel_rfl) ?_
      refine wpR_q 0 (by kernel_rfl) rfl (quietAt rfl rfl (q_move (v := vt) rfl a6_2)) ?_
      refine wpR_q 1 (by kernel_rfl) rfl (quietAt rfl rfl (q_lenRd rfl Try.underlying22 rfl (hS0.rdl 1 rfl))) ?_
      refine wpR_q 2 (by kernel_rfl) rfl (quietAt rfl rfl (q_gtr rfl rfl rfl)) ?_
      refine wpR_q 3 (by kernel_rfl) rfl (quietAt rfl rfl (q_move (v := B (decide (0 < (t.length : Int)))) rfl rfl)) ?_
      by_cases hg9 : 0 < (t.length : Int)
      · have hb10 := Eq.trans rfl (congrArg B (decide_eq_true hg9))
        refine wpR_q 4 (by kernel_rfl) rfl (quietAt_g rfl rfl rfl rfl hb10 (q_move (v := vt) rfl a6_2)) ?_
        refine wpR_q 5 (by kernel_rfl) rfl (quietAt_g rfl rfl rfl rfl hb10 (q_indexRd (k := 0) rfl Try.underlying22 el_Int_3 rfl rfl (hS0.rdl 1 rfl) (by omega) (by omega))) ?_
        refine wpR_q 6 (by kernel_rfl) rfl (quietAt_g rfl rfl rfl rfl hb10 (q_loadInt (k := 0) rfl rfl el_Int_3 (hS0.rdl 1 rfl) (by omega) (labU_sub [] rfl (List.forall_mem_nil _)))) ?_
        refine wpR_q 7 (by kernel_rfl) rfl (quietAt_g rfl rfl rfl rfl hb10 (q_move (v := I (nth ps 0)) rfl a6_7)) ?_
        refine wpR_q 8 (by kernel_rfl) rfl (quietAt_g rfl rfl rfl rfl hb10 (q_eql rfl rfl rfl)) ?_
        refine wpR_q 9 (by kernel_rfl) rfl (quietAt rfl rfl (q_pickT (v := B (decide ((nth t 0) = (nth ps 0)))) rfl hb10 rfl)) ?_
        refine wpR_q 10 (by kernel_rfl) rfl (quietAt rfl rfl (q_move (v := B (decide ((nth t 0) = (nth ps 0)))) rfl rfl)) ?_
        by_cases hg12 : (nth t 0) = (nth ps 0)
        · have hb13 := Eq.trans rfl (congrArg B (decide_eq_true hg12))
          refine wpR_q 11 (by kernel_rfl) rfl (quietAt_g rfl rfl rfl rfl hb13 (q_move (v := PT gx 0) rfl a6_0)) ?_
          refine wpR_q 12 (by kernel_rfl) rfl (quietAt_g rfl rfl rfl rfl hb13 (q_move (v := vp) rfl a6_1)) ?_
          have hS8o13 : St H0 (own [mapE r (m : List (Int × (List Int))), blkE gx (.cells #[vx, (Value.map (some r))] 68)]) (fun b => S b ∧ ¬ own [mapE r (m : List (Int × (List Int))), blkE gx (.cells #[vx, (Value.map (some r))] 68)] b) [rdE (sliceV 1 vp 1 ps.length) (ps.drop 1 : List Int), rdE vp (ps : List Int), rdE vt (t : List Int), mapE r (m : List (Int × (List Int))), blkE gx (.cells #[vx, (Value.map (some r))] 68)] H0 := hS0.rd (Rd.list.2 (sliceV_lo (k := 1) (Rd.list.1 (hS0.rdS 0 rfl)) (by omega)))
          refine wpR_q 13 (by kernel_rfl) rfl (quietAt_g rfl rfl rfl rfl hb13 (q_sliceRd (k := 1) (m := ps.length) rfl Try.underlying22 el_Int_3 rfl (hS0.rdl 0 rfl) (lo1 rfl (by omega)) hi0 (by omega) (by omega))) ?_
          refine wpR_q 14 (by kernel_rfl) rfl (quietAt_g rfl rfl rfl rfl hb13 (q_move (v := vt) rfl a6_2)) ?_
          have hS8o15 : St H0 (own [mapE r (m : List (Int × (List Int))), blkE gx (.cells #[vx, (Value.map (some r))] 68)]) (fun b => S b ∧ ¬ own [mapE r (m : List (Int × (List Int))), blkE gx (.cells #[vx, (Value.map (some r))] 68)] b) [rdE (sliceV 1 vt 1 t.length) (t.drop 1 : List Int), rdE (sliceV 1 vp 1 ps.length) (ps.drop 1 : List Int), rdE vp (ps : List Int), rdE vt (t : List Int), mapE r (m : List (Int × (List Int))), blkE gx (.cells #[vx, (Value.map (some r))] 68)] H0 := hS8o13.rd (Rd.list.2 (sliceV_lo (k := 1) (Rd.list.1 (hS8o13.rdS 2 rfl)) (by omega)))
          refine wpR_q 15 (by kernel_rfl) rfl (quietAt_g rfl rfl rfl rfl hb13 (q_sliceRd (k := 1) (m := t.length) rfl Try.underlying22 el_Int_3 rfl (hS8o13.rdl 2 rfl) (lo1 rfl (by omega)) hi0 (by omega) (by omega))) ?_
          refine wpR_n [16] (by kernel_rfl) ?_
          refine List.forall_mem_cons.2 ⟨?_, List.forall_mem_nil _⟩
          have hS8o16 : St H0 (own [mapE r (m : List (Int × (List Int))), blkE gx (.cells #[vx, (Value.map (some r))] 68)]) (fun b => S b ∧ ¬ own [mapE r (m : List (Int × (List Int))), blkE gx (.cells #[vx, (Value.map (some r))] 68)] b) [mapE r (m : List (Int × (List Int))), blkE gx (.cells #[vx, (Value.map (some r))] 68), rdE (sliceV 1 vt 1 t.length) (t.drop 1 : List Int), rdE (sliceV 1 vp 1 ps.length) (ps.drop 1 : List Int), rdE vp (ps : List Int), rdE vt (t : List Int)] H0 := (St.drop (show St H0 (own [mapE r (m : List (Int × (List Int))), blkE gx (.cells #[vx, (Value.map (some r))] 68)]) (fun b => S b ∧ ¬ own [mapE r (m : List (Int × (List Int))), blkE gx (.cells #[vx, (Value.map (some r))] 68)] b) [mapE r (m : List (Int × (List Int))), blkE gx (.cells #[vx, (Value.map (some r))] 68), rdE (sliceV 1 vt 1 t.length) (t.drop 1 : List Int), rdE (sliceV 1 vp 1 ps.length) (ps.drop 1 : List Int), rdE vp (ps : List Int), rdE vt (t : List Int)] H0 from ((((((hS8o15.front 3 rfl).front 3 rfl).front 3 rfl).front 3 rfl).front 5 rfl).front 5 rfl)) (List.Sublist.cons_cons _ (List.Sublist.cons_cons _ (List.Sublist.cons_cons _ (List.Sublist.cons_cons _ (List.Sublist.cons_cons _ (List.Sublist.cons_cons _ (List.Sublist.slnil))))))))
          have hrg : r ≠ gx := fun e => hS8o16.dis 0 1 (by decide) rfl rfl _ rfl e
          refine exE_g rfl rfl rfl rfl hb13 ?_
          refine e_call rfl Try.call44 (arr3 (v0 := PT gx 0) (v1 := (sliceV 1 vp 1 ps.length)) (v2 := (sliceV 1 vt 1 t.length)) rfl rfl rfl) (ih _ (by simp only [List.length_drop] at *; omega) gx r ((sliceV 1 vp 1 ps.length)) ((sliceV 1 vt 1 t.length)) vx (ps.drop 1) (t.drop 1) m _ (fun e he => hS8o16.ok e (List.mem_append_left [rdE (sliceV 1 vt 1 t.length) (t.drop 1 : List Int), rdE (sliceV 1 vp 1 ps.length) (ps.drop 1 : List Int), rdE vp (ps : List Int), rdE vt (t : List Int)] he)) (fun b hb => SL.lt hS8o16 hb) (fun b ⟨e, he, hb⟩ => .inr ⟨e, List.mem_append_left [rdE (sliceV 1 vt 1 t.length) (t.drop 1 : List Int), rdE (sliceV 1 vp 1 ps.length) (ps.drop 1 : List Int), rdE vp (ps : List Int), rdE vt (t : List Int)] he, hb⟩) hrg (hS8o16.rdS 3 rfl) (hS8o16.rdS 2 rfl) rfl) ?_
          rintro _ H8o16 ⟨hxx, m8o16, rfl, hmgm8o16, hok⟩
          have hS8o16x2 : St H0 (own [mapE r (m : List (Int × (List Int))), blkE gx (.cells #[vx, (Value.map (some r))] 68)]) (fun b => S b ∧ ¬ own [mapE r (m : List (Int × (List Int))), blkE gx (.cells #[vx, (Value.map (some r))] 68)] b) [mapE r (m8o16 : List (Int × (List Int))), blkE gx (.cells #[vx, (Value.map (some r))] 68), rdE (sliceV 1 vt 1 t.length) (t.drop 1 : List Int), rdE (sliceV 1 vp 1 ps.length) (ps.drop 1 : List Int), rdE vp (ps : List Int), rdE vt (t : List Int)] H8o16 := St.back (A := [mapE r (m : List (Int × (List Int))), blkE gx (.cells #[vx, (Value.map (some r))] 68)]) (A' := [mapE r (m8o16 : List (Int × (List Int))), blkE gx (.cells #[vx, (Value.map (some r))] 68)]) (L := [rdE (sliceV 1 vt 1 t.length) (t.drop 1 : List Int), rdE (sliceV 1 vp 1 ps.length) (ps.drop 1 : List Int), rdE vp (ps : List Int), rdE vt (t : List Int)]) hS8o16 hxx hok (by intro b hb; left; simpa [own_cons, own_nil, mapE, blkE, rdE] using hb) (pw2 (fun b h1 h2 => hrg (h1.symm.trans h2)))
          refine ⟨Ext.mono hxx (labS_of 0 rfl (fun _ _ => trivial)), ?_⟩
          refine wpR_q 17 (by kernel_rfl) rfl (quietAt rfl rfl (q_pickT (v := B ((fitF (ps.drop 1) (t.drop 1) (mget m)).isSome)) rfl hb13 rfl)) ?_
          refine wpR_q 18 (by kernel_rfl) rfl (quietAt rfl rfl (q_assign (v := B ((fitF (ps.drop 1) (t.drop 1) (mget m)).isSome)) rfl rfl)) ?_
          refine wpR_end (by kernel_rfl) ?_
          exact ⟨m8o16, (by rw [fitF_cons hlen, if_pos hneg, if_pos ⟨by omega, hg12⟩]; exact hmgm8o16), (Eq.trans rfl (congrArg B (by rw [fitF_cons hlen, if_pos hneg, if_pos ⟨by omega, hg12⟩]))), (St.drop (show St H0 (own [mapE r (m : List (Int × (List Int))), blkE gx (.cells #[vx, (Value.map (some r))] 68)]) (fun b => S b ∧ ¬ own [mapE r (m : List (Int × (List Int))), blkE gx (.cells #[vx, (Value.map (some r))] 68)] b) [rdE vp (ps : List Int), rdE vt (t : List Int), mapE r (m8o16 : List (Int × (List Int))), blkE gx (.cells #[vx, (Value.map (some r))] 68), rdE (sliceV 1 vt 1 t.length) (t.drop 1 : List Int), rdE (sliceV 1 vp 1 ps.length) (ps.drop 1 : List Int)] H8o16 from ((((hS8o16x2.front 1 rfl).front 1 rfl).front 5 rfl).front 5 rfl)) (List.Sublist.cons_cons _ (List.Sublist.cons_cons _ (List.Sublist.cons_cons _ (List.Sublist.cons_cons _ (List.Sublist.cons _ (List.Sublist.cons _ (List.Sublist.slnil))))))))⟩
        · have hb14 := Eq.trans rfl (congrArg B (decide_eq_false hg12))
          refine wpR_q 11 (by kernel_rfl) rfl (quietAt_s rfl rfl rfl rfl hb14 rfl) ?_
          refine wpR_q 12 (by kernel_rfl) rfl (quietAt_s rfl rfl rfl rfl hb14 rfl) ?_
          refine wpR_q 13 (by kernel_rfl) rfl (quietAt_s rfl rfl rfl rfl hb14 rfl) ?_
          refine wpR_q 14 (by kernel_rfl) rfl (quietAt_s rfl rfl rfl rfl hb14 rfl) ?_
          refine wpR_q 15 (by kernel_rfl) rfl (quietAt_s rfl rfl rfl rfl hb14 rfl) ?_
          refine wpR_q 16 (by kernel_rfl) rfl (quietAt_s rfl rfl rfl rfl hb14 rfl) ?_
          refine wpR_q 17 (by kernel_rfl) rfl (quietAt rfl rfl (q_pickF (v := B (false)) rfl hb14 rfl)) ?_
          refine wpR_q 18 (by kernel_rfl) rfl (quietAt rfl rfl (q_assign (v := B (false)) rfl rfl)) ?_
          refine wpR_end (by kernel_rfl) ?_
          exact ⟨m, (by rw [fitF_cons hlen, if_pos hneg, if_neg (by rintro ⟨h1, h2⟩; exact hg12 h2)]; rfl), (Eq.trans rfl (congrArg B (by rw [fitF_cons hlen, if_pos hneg, if_neg (by rintro ⟨h1, h2⟩; exact hg12 h2)]; rfl))), hS0⟩
      · have hb11 := Eq.trans rfl (congrArg B (decide_eq_false hg9))
        refine wpR_q 4 (by kernel_rfl) rfl (quietAt_s rfl rfl rfl rfl hb11 rfl) ?_
        refine wpR_q 5 (by kernel_rfl) rfl (quietAt_s rfl rfl rfl rfl hb11 rfl) ?_
        refine wpR_q 6 (by kernel_rfl) rfl (quietAt_s rfl rfl rfl rfl hb11 rfl) ?_
        refine wpR_q 7 (by kernel_rfl) rfl (quietAt_s rfl rfl rfl rfl hb11 rfl) ?_
        refine wpR_q 8 (by kernel_rfl) rfl (quietAt_s rfl rfl rfl rfl hb11 rfl) ?_
        refine wpR_q 9 (by kernel_rfl) rfl (quietAt rfl rfl (q_pickF (v := B (false)) rfl hb11 rfl)) ?_
        refine wpR_q 10 (by kernel_rfl) rfl (quietAt rfl rfl (q_move (v := B (false)) rfl rfl)) ?_
        refine wpR_q 11 (by kernel_rfl) rfl (quietAt_s rfl rfl rfl rfl rfl rfl) ?_
        refine wpR_q 12 (by kernel_rfl) rfl (quietAt_s rfl rfl rfl rfl rfl rfl) ?_
        refine wpR_q 13 (by kernel_rfl) rfl (quietAt_s rfl rfl rfl rfl rfl rfl) ?_
        refine wpR_q 14 (by kernel_rfl) rfl (quietAt_s rfl rfl rfl rfl rfl rfl) ?_
        refine wpR_q 15 (by kernel_rfl) rfl (quietAt_s rfl rfl rfl rfl rfl rfl) ?_
        refine wpR_q 16 (by kernel_rfl) rfl (quietAt_s rfl rfl rfl rfl rfl rfl) ?_
        refine wpR_q 17 (by kernel_rfl) rfl (quietAt rfl rfl (q_pickF (v := B (false)) rfl rfl rfl)) ?_
        refine wpR_q 18 (by kernel_rfl) rfl (quietAt rfl rfl (q_assign (v := B (false)) rfl rfl)) ?_
        refine wpR_end (by kernel_rfl) ?_
        exact ⟨m, (by rw [fitF_cons hlen, if_pos hneg, if_neg (by rintro ⟨h1, h2⟩; omega)]; rfl), (Eq.trans rfl (congrArg B (by rw [fitF_cons hlen, if_pos hneg, if_neg (by rintro ⟨h1, h2⟩; omega)]; rfl))), hS0⟩
    rintro f15 H15 ⟨mm, hmm, a15_6, hS15⟩
    clear a6_0 a6_1 a6_2 a6_21 a6_7
    refine wpF_ret ?_
    refine ⟨_, resT a15_6 resN, hS15.frameM, ?_⟩
    show ∃ m2, (B ((fitF ps t (mget m)).isSome)) = B (fitF ps t (mget m)).isSome ∧ mget m2 = (fitF ps t (mget m)).getD (mget m) ∧ ∀ e ∈ [mapE r (m2 : List (Int × (List Int))), blkE gx (.cells #[vx, (Value.map (some r))] 68)], e.ok (lv S [mapE r (m : List (Int × (List Int))), blkE gx (.cells #[vx, (Value.map (some r))] 68)] [mapE r (m2 : List (Int × (List Int))), blkE gx (.cells #[vx, (Value.map (some r))] 68)]) H15
    exact ⟨_, rfl, hmm, St.leave (hS15.drop (List.Sublist.cons _ (List.Sublist.cons _ (List.Sublist.cons_cons _ (List.Sublist.cons_cons _ (List.Sublist.slnil))))))⟩
  refine wpF_skip ?_
  refine wpF_seq ?_
  refine wpF_seq ?_
  refine wpF_cut (fun f H => ∃ (u16 : Value), f 0 = PT gx 0 ∧ f 1 = vp ∧ f 2 = vt ∧ f 7 = I (nth ps 0) ∧ f 8 = u16 ∧ f 9 = B ((mget m (nth ps 0)).isSome) ∧ St H0 (own [mapE r (m : List (Int × (List Int))), blkE gx (.cells #[vx, (Value.map (some r))] 68)]) (fun b => S b ∧ ¬ own [mapE r (m : List (Int × (List Int))), blkE gx (.cells #[vx, (Value.map (some r))] 68)] b) [rdE u16 ((mget m (nth ps 0)).getD [] : List Int), rdE vp (ps : List Int), rdE vt (t : List Int), mapE r (m : List (Int × (List Int))), blkE gx (.cells #[vx, (Value.map (some r))] 68)] H) ?_ ?_
  · refine wpF_region ?_
    refine wpL_q (U := NoB) rfl (q_move (v := PT gx 0) rfl a6_0) ?_
    refine wpL_q (U := NoB) rfl (q_nilCheck rfl rfl) ?_
    refine wpL_q (U := NoB) rfl (q_fieldAddr rfl Try.underlying68 rfl Try.sizeOf66 rfl) ?_
    refine wpL_q (U := NoB) rfl (q_loadBlk rfl rfl Try.isAgg66 (hS0.blk 3 rfl) rfl (fun h => h)) ?_
    refine wpL_q (U := NoB) rfl (q_move (v := I (nth ps 0)) rfl a6_7) ?_
    obtain ⟨u16, hlu16, hru16⟩ := lookD (t := 66) (d := ([] : List Int)) Try.underlying66 (keyLaw_int Try.underlying3) Try.zeroValue22 (fun _ _ => rdNil) (nth ps 0) (hS0.get 2 rfl)
    have hS17 : St H0 (own [mapE r (m : List (Int × (List Int))), blkE gx (.cells #[vx, (Value.map (some r))] 68)]) (fun b => S b ∧ ¬ own [mapE r (m : List (Int × (List Int))), blkE gx (.cells #[vx, (Value.map (some r))] 68)] b) [rdE u16 ((mget m (nth ps 0)).getD [] : List Int), rdE vp (ps : List Int), rdE vt (t : List Int), mapE r (m : List (Int × (List Int))), blkE gx (.cells #[vx, (Value.map (some r))] 68)] H0 := hS0.rd hru16
    refine wpL_q (U := NoB) rfl (q_lookup1 rfl rfl rfl (hlu16 _ (fun h => h))) ?_
    refine wpL_q (U := NoB) rfl (q_move (v := Value.tuple #[u16, B ((mget m (nth ps 0)).isSome)]) rfl rfl) ?_
    refine wpL_q (U := NoB) rfl (q_extract (vs := #[u16, B ((mget m (nth ps 0)).isSome)]) (v := u16) rfl rfl rfl) ?_
    refine wpL_q (U := NoB) rfl (q_extract (vs := #[u16, B ((mget m (nth ps 0)).isSome)]) (v := B ((mget m (nth ps 0)).isSome)) rfl rfl rfl) ?_
    refine wpL_q (U := NoB) rfl (q_assign (v := u16) rfl rfl) ?_
    refine wpL_q (U := NoB) rfl (q_assign (v := B ((mget m (nth ps 0)).isSome)) rfl rfl) ?_
    exact ⟨u16, a6_0, a6_1, a6_2, a6_7, rfl, rfl, hS17⟩
  rintro f18 H18 ⟨u16, a18_0, a18_1, a18_2, a18_7, a18_8, a18_9, hS18⟩
  clear a6_0 a6_1 a6_2 a6_21 a6_7
  refine wpF_seq ?_
  refine wpF_cut (fun f H => f 0 = PT gx 0 ∧ f 1 = vp ∧ f 2 = vt ∧ f 7 = I (nth ps 0) ∧ f 8 = u16 ∧ f 49 = B ((mget m (nth ps 0)).isSome) ∧ H18 = H) ?_ ?_
  · refine wpF_region ?_
    refine wpL_q (U := NoB) rfl (q_move (v := B ((mget m (nth ps 0)).isSome)) rfl a18_9) ?_
    exact ⟨a18_0, a18_1, a18_2, a18_7, a18_8, rfl, rfl⟩
  rintro f19 _ ⟨a19_0, a19_1, a19_2, a19_7, a19_8, a19_49, rfl⟩
  clear a18_0 a18_1 a18_2 a18_7 a18_8 a18_9
  refine wpF_cond a19_49 (fun hok => ?t49) (fun hok => ?e49)
  case t49 =>
    obtain ⟨w, hw⟩ := Option.isSome_iff_exists.1 hok
    have hS21 : St H0 (own [mapE r (m : List (Int × (List Int))), blkE gx (.cells #[vx, (Value.map (some r))] 68)]) (fun b => S b ∧ ¬ own [mapE r (m : List (Int × (List Int))), blkE gx (.cells #[vx, (Value.map (some r))] 68)] b) [rdE u16 (w : List Int), rdE vp (ps : List Int), rdE vt (t : List Int), mapE r (m : List (Int × (List Int))), blkE gx (.cells #[vx, (Value.map (some r))] 68)] H18 := by have h := hS18; rw [hw] at h; exact h
    refine wpF_seq ?_
    refine wpF_cut (fun f H => ∃ (mm : List (Int × List Int)), (mget mm = (fitF ps t (mget m)).getD (mget m)) ∧ f 6 = B ((fitF ps t (mget m)).isSome) ∧ St H0 (own [mapE r (m : List (Int × (List Int))), blkE gx (.cells #[vx, (Value.map (some r))] 68)]) (fun b => S b ∧ ¬ own [mapE r (m : List (Int × (List Int))), blkE gx (.cells #[vx, (Value.map (some r))] 68)] b) [rdE vp (ps : List Int), rdE vt (t : List Int), mapE r (mm : List (Int × (List Int))), blkE gx (.cells #[vx, (Value.map (some r))] 68)] H) ?_ ?_
    · refine wpF_drawn [none, none, none, none, none, none, none, none, none, none, none, none, none, none, none, none, none, none, none, none, none, some 0, none, none] [[], [], [], [], [], [], [], [], [], [], [], [], [], [], [], [], [], [], [], [], [], [], [], []] (fun l b => match l with | 0 => True | _ => False) (by kernel_rfl) (by kernel_rfl) ?_
      refine wpR_q 0 (by kernel_rfl) rfl (quietAt rfl rfl (q_move (v := u16) rfl a19_8)) ?_
      refine wpR_q 1 (by kernel_rfl) rfl (quietAt rfl rfl (q_lenRd rfl Try.underlying22 rfl (hS21.rdl 0 rfl))) ?_
      refine wpR_q 2 (by kernel_rfl) rfl (quietAt rfl rfl (q_move (v := vt) rfl a19_2)) ?_
      refine wpR_q 3 (by kernel_rfl) rfl (quietAt rfl rfl (q_lenRd rfl Try.underlying22 rfl (hS21.rdl 2 rfl))) ?_
      refine wpR_q 4 (by kernel_rfl) rfl (quietAt rfl rfl (q_leq rfl rfl rfl)) ?_
      refine wpR_q 5 (by kernel_rfl) rfl (quietAt rfl rfl (q_move (v := B (decide ((w.length : Int) ≤ (t.length : Int)))) rfl rfl)) ?_
      by_cases hg23 : (w.length : Int) ≤ (t.length : Int)
      · have hb24 := Eq.trans rfl (congrArg B (decide_eq_true hg23))
        refine wpR_q 6 (by kernel_rfl) rfl (quietAt_g rfl rfl rfl rfl hb24 (q_move (v := u16) rfl a19_8)) ?_
        refine wpR_q 7 (by kernel_rfl) rfl (quietAt_g rfl rfl rfl rfl hb24 (q_move (v := vt) rfl a19_2)) ?_
        refine wpR_q 8 (by kernel_rfl) rfl (quietAt_g rfl rfl rfl rfl hb24 (q_move (v := u16) rfl a19_8)) ?_
        refine wpR_q 9 (by kernel_rfl) rfl (quietAt_g rfl rfl rfl rfl hb24 (q_lenRd rfl Try.underlying22 rfl (hS21.rdl 0 rfl))) ?_
        have hS22o10 : St H0 (own [mapE r (m : List (Int × (List Int))), blkE gx (.cells #[vx, (Value.map (some r))] 68)]) (fun b => S b ∧ ¬ own [mapE r (m : List (Int × (List Int))), blkE gx (.cells #[vx, (Value.map (some r))] 68)] b) [rdE (sliceV 1 vt 0 w.length) (t.take w.length : List Int), rdE u16 (w : List Int), rdE vp (ps : List Int), rdE vt (t : List Int), mapE r (m : List (Int × (List Int))), blkE gx (.cells #[vx, (Value.map (some r))] 68)] H18 := hS21.rd (Rd.list.2 (sliceV_hi (m := w.length) (Rd.list.1 (hS21.rdS 2 rfl)) (by omega)))
        refine wpR_q 10 (by kernel_rfl) rfl (quietAt_g rfl rfl rfl rfl hb24 (q_sliceRd (k := 0) (m := w.length) rfl Try.underlying22 el_Int_3 rfl (hS21.rdl 2 rfl) lo0 (lo1 rfl (by omega)) (by omega) (by omega))) ?_
        refine wpR_n [11] (by kernel_rfl) ?_
        refine List.forall_mem_cons.2 ⟨?_, List.forall_mem_nil _⟩
        refine exE_g rfl rfl rfl rfl hb24 ?_
        refine e_call rfl Try.call73 (arr2 (v0 := u16) (v1 := (sliceV 1 vt 0 w.length)) rfl rfl) (Equal u16 ((sliceV 1 vt 0 w.length)) _ _ (hS22o10.rdN 1 rfl) (hS22o10.rdN 0 rfl)) ?_
        rintro _ H22o11 ⟨hxx, rfl⟩
        have hS22o11 : St H0 (own [mapE r (m : List (Int × (List Int))), blkE gx (.cells #[vx, (Value.map (some r))] 68)]) (fun b => S b ∧ ¬ own [mapE r (m : List (Int × (List Int))), blkE gx (.cells #[vx, (Value.map (some r))] 68)] b) [rdE (sliceV 1 vt 0 w.length) (t.take w.length : List Int), rdE u16 (w : List Int), rdE vp (ps : List Int), rdE vt (t : List Int), mapE r (m : List (Int × (List Int))), blkE gx (.cells #[vx, (Value.map (some r))] 68)] H22o11 := hS22o10.ext hxx
        refine ⟨Ext.mono hxx (fun _ h => h.elim), ?_⟩
        refine wpR_q 12 (by kernel_rfl) rfl (quietAt rfl rfl (q_pickT (v := B (decide (w = (t.take w.length)))) rfl hb24 rfl)) ?_
        refine wpR_q 13 (by kernel_rfl) rfl (quietAt rfl rfl (q_move (v := B (decide (w = (t.take w.length)))) rfl rfl)) ?_
        by_cases hg26 : w = (t.take w.length)
        · have hb27 := Eq.trans rfl (congrArg B (decide_eq_true hg26))
          refine wpR_q 14 (by kernel_rfl) rfl (quietAt_g rfl rfl rfl rfl hb27 (q_move (v := PT gx 0) rfl a19_0)) ?_
          refine wpR_q 15 (by kernel_rfl) rfl (quietAt_g rfl rfl rfl rfl hb27 (q_move (v := vp) rfl a19_1)) ?_
          have hS22o16 : St H0 (own [mapE r (m : List (Int × (List Int))), blkE gx (.cells #[vx, (Value.map (some r))] 68)]) (fun b => S b ∧ ¬ own [mapE r (m : List (Int × (List Int))), blkE gx (.cells #[vx, (Value.map (some r))] 68)] b) [rdE (sliceV 1 vp 1 ps.length) (ps.drop 1 : List Int), rdE (sliceV 1 vt 0 w.length) (t.take w.length : List Int), rdE u16 (w : List Int), rdE vp (ps : List Int), rdE vt (t : List Int), mapE r (m : List (Int × (List Int))), blkE gx (.cells #[vx, (Value.map (some r))] 68)] H22o11 := hS22o11.rd (Rd.list.2 (sliceV_lo (k := 1) (Rd.list.1 (hS22o11.rdS 2 rfl)) (by omega)))
          refine wpR_q 16 (by kernel_rfl) rfl (quietAt_g rfl rfl rfl rfl hb27 (q_sliceRd (k := 1) (m := ps.length) rfl Try.underlying22 el_Int_3 rfl (hS22o11.rdl 2 rfl) (lo1 rfl (by omega)) hi0 (by omega) (by omega))) ?_
          refine wpR_q 17 (by kernel_rfl) rfl (quietAt_g rfl rfl rfl rfl hb27 (q_move (v := vt) rfl a19_2)) ?_
          refine wpR_q 18 (by kernel_rfl) rfl (quietAt_g rfl rfl rfl rfl hb27 (q_move (v := u16) rfl a19_8)) ?_
          refine wpR_q 19 (by kernel_rfl) rfl (quietAt_g rfl rfl rfl rfl hb27 (q_lenRd rfl Try.underlying22 rfl (hS22o16.rdl 2 rfl))) ?_
          have hS22o20 : St H0 (own [mapE r (m : List (Int × (List Int))), blkE gx (.cells #[vx, (Value.map (some r))] 68)]) (fun b => S b ∧ ¬ own [mapE r (m : List (Int × (List Int))), blkE gx (.cells #[vx, (Value.map (some r))] 68)] b) [rdE (sliceV 1 vt w.length t.length) (t.drop w.length : List Int), rdE (sliceV 1 vp 1 ps.length) (ps.drop 1 : List Int), rdE (sliceV 1 vt 0 w.length) (t.take w.length : List Int), rdE u16 (w : List Int), rdE vp (ps : List Int), rdE vt (t : List Int), mapE r (m : List (Int × (List Int))), blkE gx (.cells #[vx, (Value.map (some r))] 68)] H22o11 := hS22o16.rd (Rd.list.2 (sliceV_lo (k := w.length) (Rd.list.1 (hS22o16.rdS 4 rfl)) (by omega)))
          refine wpR_q 20 (by kernel_rfl) rfl (quietAt_g rfl rfl rfl rfl hb27 (q_sliceRd (k := w.length) (m := t.length) rfl Try.underlying22 el_Int_3 rfl (hS22o16.rdl 4 rfl) (lo1 rfl (by omega)) hi0 (by omega) (by omega))) ?_
          refine wpR_n [21] (by kernel_rfl) ?_
          refine List.forall_mem_cons.2 ⟨?_, List.forall_mem_nil _⟩
          have hS22o21 : St H0 (own [mapE r (m : List (Int × (List Int))), blkE gx (.cells #[vx, (Value.map (some r))] 68)]) (fun b => S b ∧ ¬ own [mapE r (m : List (Int × (List Int))), blkE gx (.cells #[vx, (Value.map (some r))] 68)] b) [mapE r (m : List (Int × (List Int))), blkE gx (.cells #[vx, (Value.map (some r))] 68), rdE (sliceV 1 vt w.length t.length) (t.drop w.length : List Int), rdE (sliceV 1 vp 1 ps.length) (ps.drop 1 : List Int), rdE (sliceV 1 vt 0 w.length) (t.take w.length : List Int), rdE u16 (w : List Int), rdE vp (ps : List Int), rdE vt (t : List Int)] H22o11 := (St.drop (show St H0 (own [mapE r (m : List (Int × (List Int))), blkE gx (.cells #[vx, (Value.map (some r))] 68)]) (fun b => S b ∧ ¬ own [mapE r (m : List (Int × (List Int))), blkE gx (.cells #[vx, (Value.map (some r))] 68)] b) [mapE r (m : List (Int × (List Int))), blkE gx (.cells #[vx, (Value.map (some r))] 68), rdE (sliceV 1 vt w.length t.length) (t.drop w.length : List Int), rdE (sliceV 1 vp 1 ps.length) (ps.drop 1 : List Int), rdE (sliceV 1 vt 0 w.length) (t.take w.length : List Int), rdE u16 (w : List Int), rdE vp (ps : List Int), rdE vt (t : List Int)] H22o11 from ((((((((hS22o20.front 5 rfl).front 5 rfl).front 5 rfl).front 5 rfl).front 5 rfl).front 5 rfl).front 7 rfl).front 7 rfl)) (List.Sublist.cons_cons _ (List.Sublist.cons_cons _ (List.Sublist.cons_cons _ (List.Sublist.cons_cons _ (List.Sublist.cons_cons _ (List.Sublist.cons_cons _ (List.Sublist.cons_cons _ (List.Sublist.cons_cons _ (List.Sublist.slnil))))))))))
          have hrg : r ≠ gx := fun e => hS22o21.dis 0 1 (by decide) rfl rfl _ rfl e
          refine exE_g rfl rfl rfl rfl hb27 ?_
          refine e_call rfl Try.call44 (arr3 (v0 := PT gx 0) (v1 := (sliceV 1 vp 1 ps.length)) (v2 := (sliceV 1 vt w.length t.length)) rfl rfl rfl) (ih _ (by simp only [List.length_drop] at *; omega) gx r ((sliceV 1 vp 1 ps.length)) ((sliceV 1 vt w.length t.length)) vx (ps.drop 1) (t.drop w.length) m _ (fun e he => hS22o21.ok e (List.mem_append_left [rdE (sliceV 1 vt w.length t.length) (t.drop w.length : List Int), rdE (sliceV 1 vp 1 ps.length) (ps.drop 1 : List Int), rdE (sliceV 1 vt 0 w.length) (t.take w.length : List Int), rdE u16 (w : List Int), rdE vp (ps : List Int), rdE vt (t : List Int)] he)) (fun b hb => SL.lt hS22o21 hb) (fun b ⟨e, he, hb⟩ => .inr ⟨e, List.mem_append_left [rdE (sliceV 1 vt w.length t.length) (t.drop w.length : List Int), rdE (sliceV 1 vp 1 ps.length) (ps.drop 1 : List Int), rdE (sliceV 1 vt 0 w.length) (t.take w.length : List Int), rdE u16 (w : List Int), rdE vp (ps : List Int), rdE vt (t : List Int)] he, hb⟩) hrg (hS22o21.rdS 3 rfl) (hS22o21.rdS 2 rfl) rfl) ?_
          rintro _ H22o21 ⟨hxx, m22o21, rfl, hmgm22o21, hok⟩
          have hS22o21x2 : St H0 (own [mapE r (m : List (Int × (List Int))), blkE gx (.cells #[vx, (Value.map (some r))] 68)]) (fun b => S b ∧ ¬ own [mapE r (m : List (Int × (List Int))), blkE gx (.cells #[vx, (Value.map (some r))] 68)] b) [mapE r (m22o21 : List (Int × (List Int))), blkE gx (.cells #[vx, (Value.map (some r))] 68), rdE (sliceV 1 vt w.length t.length) (t.drop w.length : List Int), rdE (sliceV 1 vp 1 ps.length) (ps.drop 1 : List Int), rdE (sliceV 1 vt 0 w.length) (t.take w.length : List Int), rdE u16 (w : List Int), rdE vp (ps : List Int), rdE vt (t : List Int)] H22o21 := St.back (A := [mapE r (m : List (Int × (List Int))), blkE gx (.cells #[vx, (Value.map (some r))] 68)]) (A' := [mapE r (m22o21 : List (Int × (List Int))), blkE gx (.cells #[vx, (Value.map (some r))] 68)]) (L := [rdE (sliceV 1 vt w.length t.length) (t.drop w.length : List Int), rdE (sliceV 1 vp 1 ps.length) (ps.drop 1 : List Int), rdE (sliceV 1 vt 0 w.length) (t.take w.length : List Int), rdE u16 (w : List Int), rdE vp (ps : List Int), rdE vt (t : List Int)]) hS22o21 hxx hok (by intro b hb; left; simpa [own_cons, own_nil, mapE, blkE, rdE] using hb) (pw2 (fun b h1 h2 => hrg (h1.symm.trans h2)))
          refine ⟨Ext.mono hxx (labS_of 0 rfl (fun _ _ => trivial)), ?_⟩
          refine wpR_q 22 (by kernel_rfl) rfl (quietAt rfl rfl (q_pickT (v := B ((fitF (ps.drop 1) (t.drop w.length) (mget m)).isSome)) rfl hb27 rfl)) ?_
          refine wpR_q 23 (by kernel_rfl) rfl (quietAt rfl rfl (q_assign (v := B ((fitF (ps.drop 1) (t.drop w.length) (mget m)).isSome)) rfl rfl)) ?_
          refine wpR_end (by kernel_rfl) ?_
          exact ⟨m22o21, (by rw [fitF_cons hlen, if_neg hneg, hw]; simp only; rw [if_pos ⟨by omega, hg26⟩]; exact hmgm22o21), (Eq.trans rfl (congrArg B (by rw [fitF_cons hlen, if_neg hneg, hw]; simp only; rw [if_pos ⟨by omega, hg26⟩]))), (St.drop (show St H0 (own [mapE r (m : List (Int × (List Int))), blkE gx (.cells #[vx, (Value.map (some r))] 68)]) (fun b => S b ∧ ¬ own [mapE r (m : List (Int × (List Int))), blkE gx (.cells #[vx, (Value.map (some r))] 68)] b) [rdE vp (ps : List Int), rdE vt (t : List Int), mapE r (m22o21 : List (Int × (List Int))), blkE gx (.cells #[vx, (Value.map (some r))] 68), rdE (sliceV 1 vt w.length t.length) (t.drop w.length : List Int), rdE (sliceV 1 vp 1 ps.length) (ps.drop 1 : List Int), rdE (sliceV 1 vt 0 w.length) (t.take w.length : List Int), rdE u16 (w : List Int)] H22o21 from ((((hS22o21x2.front 1 rfl).front 1 rfl).front 7 rfl).front 7 rfl)) (List.Sublist.cons_cons _ (List.Sublist.cons_cons _ (List.Sublist.cons_cons _ (List.Sublist.cons_cons _ (List.Sublist.cons _ (List.Sublist.cons _ (List.Sublist.cons _ (List.Sublist.cons _ (List.Sublist.slnil))))))))))⟩
        · have hb28 := Eq.trans rfl (congrArg B (decide_eq_false hg26))
          refine wpR_q 14 (by kernel_rfl) rfl (quietAt_s rfl rfl rfl rfl hb28 rfl) ?_
          refine wpR_q 15 (by kernel_rfl) rfl (quietAt_s rfl rfl rfl rfl hb28 rfl) ?_
          refine wpR_q 16 (by kernel_rfl) rfl (quietAt_s rfl rfl rfl rfl hb28 rfl) ?_
          refine wpR_q 17 (by kernel_rfl) rfl (quietAt_s rfl rfl rfl rfl hb28 rfl) ?_
          refine wpR_q 18 (by kernel_rfl) rfl (quietAt_s rfl rfl rfl rfl hb28 rfl) ?_
          refine wpR_q 19 (by kernel_rfl) rfl (quietAt_s rfl rfl rfl rfl hb28 rfl) ?_
          refine wpR_q 20 (by kernel_rfl) rfl (quietAt_s rfl rfl rfl rfl hb28 rfl) ?_
          refine wpR_q 21 (by kernel_rfl) rfl (quietAt_s rfl rfl rfl rfl hb28 rfl) ?_
          refine wpR_q 22 (by kernel_rfl) rfl (quietAt rfl rfl (q_pickF (v := B (false)) rfl hb28 rfl)) ?_
          refine wpR_q 23 (by kernel_rfl) rfl (quietAt rfl rfl (q_assign (v := B (false)) rfl rfl)) ?_
          refine wpR_end (by kernel_rfl) ?_
          exact ⟨m, (by rw [fitF_cons hlen, if_neg hneg, hw]; simp only; rw [if_neg (by rintro ⟨h1, h2⟩; exact hg26 h2)]; rfl), (Eq.trans rfl (congrArg B (by rw [fitF_cons hlen, if_neg hneg, hw]; simp only; rw [if_neg (by rintro ⟨h1, h2⟩; exact hg26 h2)]; rfl))), (hS22o11.drop (List.Sublist.cons _ (List.Sublist.cons _ (List.Sublist.cons_cons _ (List.Sublist.cons_cons _ (List.Sublist.cons_cons _ (List.Sublist.cons_cons _ (List.Sublist.slnil))))))))⟩
      · have hb25 := Eq.trans rfl (congrArg B (decide_eq_false hg23))
        refine wpR_q 6 (by kernel_rfl) rfl (quietAt_s rfl rfl rfl rfl hb25 rfl) ?_
        refine wpR_q 7 (by kernel_rfl) rfl (quietAt_s rfl rfl rfl rfl hb25 rfl) ?_
        refine wpR_q 8 (by kernel_rfl) rfl (quietAt_s rfl rfl rfl rfl hb25 rfl) ?_
        refine wpR_q 9 (by kernel_rfl) rfl (quietAt_s rfl rfl rfl rfl hb25 rfl) ?_
        refine wpR_q 10 (by kernel_rfl) rfl (quietAt_s rfl rfl rfl rfl hb25 rfl) ?_
        refine wpR_q 11 (by kernel_rfl) rfl (quietAt_s rfl rfl rfl rfl hb25 rfl) ?_
        refine wpR_q 12 (by kernel_rfl) rfl (quietAt rfl rfl (q_pickF (v := B (false)) rfl hb25 rfl)) ?_
        refine wpR_q 13 (by kernel_rfl) rfl (quietAt rfl rfl (q_move (v := B (false)) rfl rfl)) ?_
        refine wpR_q 14 (by kernel_rfl) rfl (quietAt_s rfl rfl rfl rfl rfl rfl) ?_
        refine wpR_q 15 (by kernel_rfl) rfl (quietAt_s rfl rfl rfl rfl rfl rfl) ?_
        refine wpR_q 16 (by kernel_rfl) rfl (quietAt_s rfl rfl rfl rfl rfl rfl) ?_
        refine wpR_q 17 (by kernel_rfl) rfl (quietAt_s rfl rfl rfl rfl rfl rfl) ?_
        refine wpR_q 18 (by kernel_rfl) rfl (quietAt_s rfl rfl rfl rfl rfl rfl) ?_
        refine wpR_q 19 (by kernel_rfl) rfl (quietAt_s rfl rfl rfl rfl rfl rfl) ?_
        refine wpR_q 20 (by kernel_rfl) rfl (quietAt_s rfl rfl rfl rfl rfl rfl) ?_
        refine wpR_q 21 (by kernel_rfl) rfl (quietAt_s rfl rfl rfl rfl rfl rfl) ?_
        refine wpR_q 22 (by kernel_rfl) rfl (quietAt rfl rfl (q_pickF (v := B (false)) rfl rfl rfl)) ?_
        refine wpR_q 23 (by kernel_rfl) rfl (quietAt rfl rfl (q_assign (v := B (false)) rfl rfl)) ?_
        refine wpR_end (by kernel_rfl) ?_
        exact ⟨m, (by rw [fitF_cons hlen, if_neg hneg, hw]; simp only; rw [if_neg (by rintro ⟨h1, h2⟩; omega)]; rfl), (Eq.trans rfl (congrArg B (by rw [fitF_cons hlen, if_neg hneg, hw]; simp only; rw [if_neg (by rintro ⟨h1, h2⟩; omega)]; rfl))), (hS21.drop (List.Sublist.cons _ (List.Sublist.cons_cons _ (List.Sublist.cons_cons _ (List.Sublist.cons_cons _ (List.Sublist.cons_cons _ (List.Sublist.slnil)))))))⟩
    rintro f29 H29 ⟨mm, hmm, a29_6, hS29⟩
    clear a19_0 a19_1 a19_2 a19_49 a19_7 a19_8
    refine wpF_ret ?_
    refine ⟨_, resT a29_6 resN, hS29.frameM, ?_⟩
    show ∃ m2, (B ((fitF ps t (mget m)).isSome)) = B (fitF ps t (mget m)).isSome ∧ mget m2 = (fitF ps t (mget m)).getD (mget m) ∧ ∀ e ∈ [mapE r (m2 : List (Int × (List Int))), blkE gx (.cells #[vx, (Value.map (some r))] 68)], e.ok (lv S [mapE r (m : List (Int × (List Int))), blkE gx (.cells #[vx, (Value.map (some r))] 68)] [mapE r (m2 : List (Int × (List Int))), blkE gx (.cells #[vx, (Value.map (some r))] 68)]) H29
    exact ⟨_, rfl, hmm, St.leave (hS29.drop (List.Sublist.cons _ (List.Sublist.cons _ (List.Sublist.cons_cons _ (List.Sublist.cons_cons _ (List.Sublist.slnil))))))⟩
  have hnone : mget m (nth ps 0) = none := by simpa using hok
  refine wpF_skip ?_
  refine wpF_seq ?_
  refine wpF_seq ?_
  refine wpF_cut (fun f H => f 0 = PT gx 0 ∧ f 1 = vp ∧ f 2 = vt ∧ f 7 = I (nth ps 0) ∧ f 75 = I ((t.length : Int) + 1) ∧ f 76 = I (0) ∧ H18 = H) ?_ ?_
  · refine wpF_region ?_
    refine wpL_q (U := NoB) rfl (q_move (v := vt) rfl a19_2) ?_
    refine wpL_q (U := NoB) rfl (q_lenRd rfl Try.underlying22 rfl (hS18.rdl 2 rfl)) ?_
    refine wpL_q (U := NoB) rfl (q_add rfl rfl rfl (by constructor <;> omega)) ?_
    refine wpL_q (U := NoB) rfl (q_move (v := I (0)) rfl rfl) ?_
    exact ⟨a19_0, a19_1, a19_2, a19_7, rfl, rfl, rfl⟩
  rintro f30 _ ⟨a30_0, a30_1, a30_2, a30_7, a30_75, a30_76, rfl⟩
  clear a19_0 a19_1 a19_2 a19_49 a19_7 a19_8
  refine wpF_block ?_
  refine wpF_loop (fun mz f H => ∃ (n : Nat), ∃ (m1 : List (Int × List Int)), mz = t.length + 1 - n ∧ (n ≤ t.length + 1) ∧ (∀ q, q ≠ nth ps 0 → mget m1 q = mget m q) ∧ (∀ j, j < n → fitF (ps.drop 1) (t.drop j) (put (mget m) (nth ps 0) (t.take j)) = none) ∧ f 0 = PT gx 0 ∧ f 1 = vp ∧ f 2 = vt ∧ f 7 = I (nth ps 0) ∧ f 75 = I ((t.length : Int) + 1) ∧ f 76 = I ((n : Int)) ∧ St H0 (own [mapE r (m : List (Int × (List Int))), blkE gx (.cells #[vx, (Value.map (some r))] 68)]) (fun b => S b ∧ ¬ own [mapE r (m : List (Int × (List Int))), blkE gx (.cells #[vx, (Value.map (some r))] 68)] b) [rdE vp (ps : List Int), rdE vt (t : List Int), mapE r (m1 : List (Int × (List Int))), blkE gx (.cells #[vx, (Value.map (some r))] 68)] H) (t.length + 1 - 0) ?_ ?_
  · exact ⟨0, m, rfl, (Nat.zero_le _), (fun _ _ => rfl), (fun j hj => absurd hj (Nat.not_lt_zero j)), a30_0, a30_1, a30_2, a30_7, a30_75, (Eq.trans a30_76 (congrArg I (by omega))), (hS18.drop (List.Sublist.cons _ (List.Sublist.cons_cons _ (List.Sublist.cons_cons _ (List.Sublist.cons_cons _ (List.Sublist.cons_cons _ (List.Sublist.slnil)))))))⟩
  intro m31 f31 H31 hI31
  obtain ⟨n, m1, hm31, hn, hput, hloop, a31_0, a31_1, a31_2, a31_7, a31_75, a31_76, hS31⟩ := hI31
  clear a30_0 a30_1 a30_2 a30_7 a30_75 a30_76
  refine wpF_seq ?_
  refine wpF_cut (fun f H => f 0 = PT gx 0 ∧ f 1 = vp ∧ f 2 = vt ∧ f 7 = I (nth ps 0) ∧ f 75 = I ((t.length : Int) + 1) ∧ f 76 = I ((n : Int)) ∧ f 77 = B (decide ((n : Int) < ((t.length : Int) + 1))) ∧ H31 = H) ?_ ?_
  · refine wpF_region ?_
    refine wpL_q (U := NoB) rfl (q_lss rfl a31_76 a31_75) ?_
    exact ⟨a31_0, a31_1, a31_2, a31_7, a31_75, a31_76, rfl, rfl⟩
  rintro f32 _ ⟨a32_0, a32_1, a32_2, a32_7, a32_75, a32_76, a32_77, rfl⟩
  clear a31_0 a31_1 a31_2 a31_7 a31_75 a31_76
  refine wpF_seq ?_
  refine wpF_condP a32_77 (fun hlt => ?t48) (fun hlt => ?e48)
  case e48 =>
    refine wpF_exit ?_
    refine atX_here ?_
    refine wpF_seq ?_
    have hSl := hS31
    refine wpF_cut (fun f H => St H0 (own [mapE r (m : List (Int × (List Int))), blkE gx (.cells #[vx, (Value.map (some r))] 68)]) (fun b => S b ∧ ¬ own [mapE r (m : List (Int × (List Int))), blkE gx (.cells #[vx, (Value.map (some r))] 68)] b) [mapE r (mdel m1 (nth ps 0) : List (Int × (List Int))), rdE vp (ps : List Int), rdE vt (t : List Int), blkE gx (.cells #[vx, (Value.map (some r))] 68)] H) ?_ ?_
    · refine wpF_region ?_
      refine wpL_q (U := NoB) rfl (q_move (v := PT gx 0) rfl a32_0) ?_
      refine wpL_q (U := NoB) rfl (q_nilCheck rfl rfl) ?_
      refine wpL_q (U := NoB) rfl (q_fieldAddr rfl Try.underlying68 rfl Try.sizeOf66 rfl) ?_
      refine wpL_q (U := NoB) rfl (q_loadBlk rfl rfl Try.isAgg66 (hS31.blk 3 rfl) rfl (fun h => h)) ?_
      refine wpL_q (U := NoB) rfl (q_move (v := I (nth ps 0)) rfl a32_7) ?_
      have hS43 : St H0 (own [mapE r (m : List (Int × (List Int))), blkE gx (.cells #[vx, (Value.map (some r))] 68)]) (fun b => S b ∧ ¬ own [mapE r (m : List (Int × (List Int))), blkE gx (.cells #[vx, (Value.map (some r))] 68)] b) [mapE r (m1 : List (Int × (List Int))), rdE vp (ps : List Int), rdE vt (t : List Int), blkE gx (.cells #[vx, (Value.map (some r))] 68)] H31 := (hS31.front 2 rfl)
      refine wpL_o rfl ?_
      refine e_delete (k := (nth ps 0)) rfl Try.underlying66 (keyLaw_int Try.underlying3) rfl rfl hS43 (fun H44 hS45 hxx => ?_)
      replace hS45 : St H0 (own [mapE r (m : List (Int × (List Int))), blkE gx (.cells #[vx, (Value.map (some r))] 68)]) (fun b => S b ∧ ¬ own [mapE r (m : List (Int × (List Int))), blkE gx (.cells #[vx, (Value.map (some r))] 68)] b) [mapE r (mdel m1 (nth ps 0) : List (Int × (List Int))), rdE vp (ps : List Int), rdE vt (t : List Int), blkE gx (.cells #[vx, (Value.map (some r))] 68)] H44 := hS45
      exact hS45
    rintro f46 H46 hS46
    clear a32_0 a32_1 a32_2 a32_7 a32_75 a32_76 a32_77
    have hdel : mget (mdel m1 (nth ps 0)) = mget m := by obtain ⟨_, _, _, _, hnd⟩ := hSl.get 2 rfl; funext q; rw [mget_mdel hnd]; split; subst_vars; exact hnone.symm; exact hput q (fun e => absurd e.symm (by assumption))
    refine wpF_seq ?_
    refine wpF_cut (fun f H => f 6 = B (false) ∧ H46 = H) ?_ ?_
    · refine wpF_region ?_
      refine wpL_q (U := NoB) rfl (q_assign (v := B (false)) rfl rfl) ?_
      exact ⟨rfl, rfl⟩
    rintro f47 _ ⟨a47_6, rfl⟩
    refine wpF_ret ?_
    refine ⟨_, resT a47_6 resN, hS46.frameM, ?_⟩
    show ∃ m2, (B (false)) = B (fitF ps t (mget m)).isSome ∧ mget m2 = (fitF ps t (mget m)).getD (mget m) ∧ ∀ e ∈ [mapE r (m2 : List (Int × (List Int))), blkE gx (.cells #[vx, (Value.map (some r))] 68)], e.ok (lv S [mapE r (m : List (Int × (List Int))), blkE gx (.cells #[vx, (Value.map (some r))] 68)] [mapE r (m2 : List (Int × (List Int))), blkE gx (.cells #[vx, (Value.map (some r))] 68)]) H46
    have hfit := fit_lost hlen hneg hnone hloop (by omega)
    exact ⟨_, congrArg B (by rw [hfit]; rfl), (by rw [hfit]; exact hdel), St.leave (hS46.drop (List.Sublist.cons_cons _ (List.Sublist.cons _ (List.Sublist.cons _ (List.Sublist.cons_cons _ (List.Sublist.slnil))))))⟩
  refine wpF_skip ?_
  refine wpF_seq ?_
  refine wpF_block ?_
  refine wpF_seq ?_
  refine wpF_cut (fun f H => f 0 = PT gx 0 ∧ f 1 = vp ∧ f 2 = vt ∧ f 7 = I (nth ps 0) ∧ f 10 = I ((n : Int)) ∧ f 75 = I ((t.length : Int) + 1) ∧ f 76 = I ((n : Int)) ∧ H31 = H) ?_ ?_
  · refine wpF_region ?_
    refine wpL_q (U := NoB) rfl (q_move (v := I ((n : Int))) rfl a32_76) ?_
    refine wpL_q (U := NoB) rfl (q_assign (v := I ((n : Int))) rfl rfl) ?_
    exact ⟨a32_0, a32_1, a32_2, a32_7, rfl, a32_75, a32_76, rfl⟩
  rintro f34 _ ⟨a34_0, a34_1, a34_2, a34_7, a34_10, a34_75, a34_76, rfl⟩
  clear a32_0 a32_1 a32_2 a32_7 a32_75 a32_76 a32_77
  refine wpF_seq ?_
  refine wpF_cut (fun f H => f 0 = PT gx 0 ∧ f 1 = vp ∧ f 2 = vt ∧ f 7 = I (nth ps 0) ∧ f 10 = I ((n : Int)) ∧ f 75 = I ((t.length : Int) + 1) ∧ f 76 = I ((n : Int)) ∧ St H0 (own [mapE r (m : List (Int × (List Int))), blkE gx (.cells #[vx, (Value.map (some r))] 68)]) (fun b => S b ∧ ¬ own [mapE r (m : List (Int × (List Int))), blkE gx (.cells #[vx, (Value.map (some r))] 68)] b) [mapE r (mset m1 (nth ps 0) (t.take n) : List (Int × (List Int))), rdE vp (ps : List Int), rdE vt (t : List Int), blkE gx (.cells #[vx, (Value.map (some r))] 68)] H) ?_ ?_
  · refine wpF_drawn [none, none, none, none, none, none, none, none, some 0] [[], [], [], [], [], [], [], [], []] (fun l b => match l with | 0 => True | _ => False) (by kernel_rfl) (by kernel_rfl) ?_
    refine wpR_q 0 (by kernel_rfl) rfl (quietAt rfl rfl (q_move (v := PT gx 0) rfl a34_0)) ?_
    refine wpR_q 1 (by kernel_rfl) rfl (quietAt rfl rfl (q_nilCheck rfl rfl)) ?_
    refine wpR_q 2 (by kernel_rfl) rfl (quietAt rfl rfl (q_fieldAddr rfl Try.underlying68 rfl Try.sizeOf66 rfl)) ?_
    refine wpR_q 3 (by kernel_rfl) rfl (quietAt rfl rfl (q_loadBlk rfl rfl Try.isAgg66 (hS31.blk 3 rfl) rfl (labU_not [] rfl (List.forall_mem_nil _)))) ?_
    refine wpR_q 4 (by kernel_rfl) rfl (quietAt rfl rfl (q_move (v := I (nth ps 0)) rfl a34_7)) ?_
    refine wpR_q 5 (by kernel_rfl) rfl (quietAt rfl rfl (q_move (v := vt) rfl a34_2)) ?_
    refine wpR_q 6 (by kernel_rfl) rfl (quietAt rfl rfl (q_move (v := I ((n : Int))) rfl a34_10)) ?_
    have hS35o7 : St H0 (own [mapE r (m : List (Int × (List Int))), blkE gx (.cells #[vx, (Value.map (some r))] 68)]) (fun b => S b ∧ ¬ own [mapE r (m : List (Int × (List Int))), blkE gx (.cells #[vx, (Value.map (some r))] 68)] b) [rdE (sliceV 1 vt 0 n) (t.take n : List Int), rdE vp (ps : List Int), rdE vt (t : List Int), mapE r (m1 : List (Int × (List Int))), blkE gx (.cells #[vx, (Value.map (some r))] 68)] H31 := hS31.rd (Rd.list.2 (sliceV_hi (m := n) (Rd.list.1 (hS31.rdS 1 rfl)) (by omega)))
    refine wpR_q 7 (by kernel_rfl) rfl (quietAt rfl rfl (q_sliceRd (k := 0) (m := n) rfl Try.underlying22 el_Int_3 rfl (hS31.rdl 1 rfl) lo0 (lo1 rfl (by omega)) (by omega) (by omega))) ?_
    refine wpR_n [8] (by kernel_rfl) ?_
    refine List.forall_mem_cons.2 ⟨?_, List.forall_mem_nil _⟩
    have hS35o8 : St H0 (own [mapE r (m : List (Int × (List Int))), blkE gx (.cells #[vx, (Value.map (some r))] 68)]) (fun b => S b ∧ ¬ own [mapE r (m : List (Int × (List Int))), blkE gx (.cells #[vx, (Value.map (some r))] 68)] b) [mapE r (m1 : List (Int × (List Int))), rdE (sliceV 1 vt 0 n) (t.take n : List Int), rdE vp (ps : List Int), rdE vt (t : List Int), blkE gx (.cells #[vx, (Value.map (some r))] 68)] H31 := (hS35o7.front 3 rfl)
    refine exE rfl rfl ?_
    refine e_mapUpdate (k := (nth ps 0)) (.inl rfl) Try.underlying66 (keyLaw_int Try.underlying3) rfl rfl rfl hS35o8 (hS35o8.rdS 1 rfl) (fun H35o8 hS35o8x2 hxx => ?_)
    replace hS35o8x2 : St H0 (own [mapE r (m : List (Int × (List Int))), blkE gx (.cells #[vx, (Value.map (some r))] 68)]) (fun b => S b ∧ ¬ own [mapE r (m : List (Int × (List Int))), blkE gx (.cells #[vx, (Value.map (some r))] 68)] b) [mapE r (mset m1 (nth ps 0) (t.take n) : List (Int × (List Int))), rdE (sliceV 1 vt 0 n) (t.take n : List Int), rdE vp (ps : List Int), rdE vt (t : List Int), blkE gx (.cells #[vx, (Value.map (some r))] 68)] H35o8 := hS35o8x2
    refine ⟨Ext.mono hxx (labS_of 0 rfl (fun _ _ => trivial)), ?_⟩
    refine wpR_end (by kernel_rfl) ?_
    exact ⟨a34_0, a34_1, a34_2, a34_7, a34_10, a34_75, a34_76, (hS35o8x2.drop (List.Sublist.cons_cons _ (List.Sublist.cons _ (List.Sublist.cons_cons _ (List.Sublist.cons_cons _ (List.Sublist.cons_cons _ (List.Sublist.slnil)))))))⟩
  rintro f36 H36 ⟨a36_0, a36_1, a36_2, a36_7, a36_10, a36_75, a36_76, hS36⟩
  clear a34_0 a34_1 a34_10 a34_2 a34_7 a34_75 a34_76
  have hput2 : mget (mset m1 (nth ps 0) (t.take n)) = put (mget m) (nth ps 0) (t.take n) := by funext q; rw [mget_mset, put]; split; rfl; exact hput q (fun e => absurd e.symm (by assumption))
  refine wpF_seq ?_
  refine wpF_cut (fun f H => ∃ (m37o6 : List (Int × List Int)), (mget m37o6 = (fitF (ps.drop 1) (t.drop n) (mget (mset m1 (nth ps 0) (t.take n)))).getD (mget (mset m1 (nth ps 0) (t.take n)))) ∧ f 0 = PT gx 0 ∧ f 1 = vp ∧ f 2 = vt ∧ f 7 = I (nth ps 0) ∧ f 75 = I ((t.length : Int) + 1) ∧ f 76 = I ((n : Int)) ∧ f 93 = B ((fitF (ps.drop 1) (t.drop n) (mget (mset m1 (nth ps 0) (t.take n)))).isSome) ∧ St H0 (own [mapE r (m : List (Int × (List Int))), blkE gx (.cells #[vx, (Value.map (some r))] 68)]) (fun b => S b ∧ ¬ own [mapE r (m : List (Int × (List Int))), blkE gx (.cells #[vx, (Value.map (some r))] 68)] b) [mapE r (m37o6 : List (Int × (List Int))), blkE gx (.cells #[vx, (Value.map (some r))] 68), rdE vp (ps : List Int), rdE vt (t : List Int)] H) ?_ ?_
  · refine wpF_drawn [none, none, none, none, none, none, some 0] [[], [], [], [], [], [], []] (fun l b => match l with | 0 => True | _ => False) (by kernel_rfl) (by kernel_rfl) ?_
    refine wpR_q 0 (by kernel_rfl) rfl (quietAt rfl rfl (q_move (v := PT gx 0) rfl a36_0)) ?_
    refine wpR_q 1 (by kernel_rfl) rfl (quietAt rfl rfl (q_move (v := vp) rfl a36_1)) ?_
    have hS37o2 : St H0 (own [mapE r (m : List (Int × (List Int))), blkE gx (.cells #[vx, (Value.map (some r))] 68)]) (fun b => S b ∧ ¬ own [mapE r (m : List (Int × (List Int))), blkE gx (.cells #[vx, (Value.map (some r))] 68)] b) [rdE (sliceV 1 vp 1 ps.length) (ps.drop 1 : List Int), mapE r (mset m1 (nth ps 0) (t.take n) : List (Int × (List Int))), rdE vp (ps : List Int), rdE vt (t : List Int), blkE gx (.cells #[vx, (Value.map (some r))] 68)] H36 := hS36.rd (Rd.list.2 (sliceV_lo (k := 1) (Rd.list.1 (hS36.rdS 1 rfl)) (by omega)))
    refine wpR_q 2 (by kernel_rfl) rfl (quietAt rfl rfl (q_sliceRd (k := 1) (m := ps.length) rfl Try.underlying22 el_Int_3 rfl (hS36.rdl 1 rfl) (lo1 rfl (by omega)) hi0 (by omega) (by omega))) ?_
    refine wpR_q 3 (by kernel_rfl) rfl (quietAt rfl rfl (q_move (v := vt) rfl a36_2)) ?_
    refine wpR_q 4 (by kernel_rfl) rfl (quietAt rfl rfl (q_move (v := I ((n : Int))) rfl a36_10)) ?_
    have hS37o5 : St H0 (own [mapE r (m : List (Int × (List Int))), blkE gx (.cells #[vx, (Value.map (some r))] 68)]) (fun b => S b ∧ ¬ own [mapE r (m : List (Int × (List Int))), blkE gx (.cells #[vx, (Value.map (some r))] 68)] b) [rdE (sliceV 1 vt n t.length) (t.drop n : List Int), rdE (sliceV 1 vp 1 ps.length) (ps.drop 1 : List Int), mapE r (mset m1 (nth ps 0) (t.take n) : List (Int × (List Int))), rdE vp (ps : List Int), rdE vt (t : List Int), blkE gx (.cells #[vx, (Value.map (some r))] 68)] H36 := hS37o2.rd (Rd.list.2 (sliceV_lo (k := n) (Rd.list.1 (hS37o2.rdS 3 rfl)) (by omega)))
    refine wpR_q 5 (by kernel_rfl) rfl (quietAt rfl rfl (q_sliceRd (k := n) (m := t.length) rfl Try.underlying22 el_Int_3 rfl (hS37o2.rdl 3 rfl) (lo1 rfl (by omega)) hi0 (by omega) (by omega))) ?_
    refine wpR_n [6] (by kernel_rfl) ?_
    refine List.forall_mem_cons.2 ⟨?_, List.forall_mem_nil _⟩
    have hS37o6 : St H0 (own [mapE r (m : List (Int × (List Int))), blkE gx (.cells #[vx, (Value.map (some r))] 68)]) (fun b => S b ∧ ¬ own [mapE r (m : List (Int × (List Int))), blkE gx (.cells #[vx, (Value.map (some r))] 68)] b) [mapE r (mset m1 (nth ps 0) (t.take n) : List (Int × (List Int))), blkE gx (.cells #[vx, (Value.map (some r))] 68), rdE (sliceV 1 vt n t.length) (t.drop n : List Int), rdE (sliceV 1 vp 1 ps.length) (ps.drop 1 : List Int), rdE vp (ps : List Int), rdE vt (t : List Int)] H36 := (St.drop (show St H0 (own [mapE r (m : List (Int × (List Int))), blkE gx (.cells #[vx, (Value.map (some r))] 68)]) (fun b => S b ∧ ¬ own [mapE r (m : List (Int × (List Int))), blkE gx (.cells #[vx, (Value.map (some r))] 68)] b) [mapE r (mset m1 (nth ps 0) (t.take n) : List (Int × (List Int))), blkE gx (.cells #[vx, (Value.map (some r))] 68), rdE (sliceV 1 vt n t.length) (t.drop n : List Int), rdE (sliceV 1 vp 1 ps.length) (ps.drop 1 : List Int), rdE vp (ps : List Int), rdE vt (t : List Int)] H36 from ((((((hS37o5.front 4 rfl).front 4 rfl).front 3 rfl).front 3 rfl).front 5 rfl).front 5 rfl)) (List.Sublist.cons_cons _ (List.Sublist.cons_cons _ (List.Sublist.cons_cons _ (List.Sublist.cons_cons _ (List.Sublist.cons_cons _ (List.Sublist.cons_cons _ (List.Sublist.slnil))))))))
    have hrg : r ≠ gx := fun e => hS37o6.dis 0 1 (by decide) rfl rfl _ rfl e
    refine exE rfl rfl ?_
    refine e_call rfl Try.call44 (arr3 (v0 := PT gx 0) (v1 := (sliceV 1 vp 1 ps.length)) (v2 := (sliceV 1 vt n t.length)) rfl rfl rfl) (ih _ (by simp only [List.length_drop] at *; omega) gx r ((sliceV 1 vp 1 ps.length)) ((sliceV 1 vt n t.length)) vx (ps.drop 1) (t.drop n) (mset m1 (nth ps 0) (t.take n)) _ (fun e he => hS37o6.ok e (List.mem_append_left [rdE (sliceV 1 vt n t.length) (t.drop n : List Int), rdE (sliceV 1 vp 1 ps.length) (ps.drop 1 : List Int), rdE vp (ps : List Int), rdE vt (t : List Int)] he)) (fun b hb => SL.lt hS37o6 hb) (fun b ⟨e, he, hb⟩ => .inr ⟨e, List.mem_append_left [rdE (sliceV 1 vt n t.length) (t.drop n : List Int), rdE (sliceV 1 vp 1 ps.length) (ps.drop 1 : List Int), rdE vp (ps : List Int), rdE vt (t : List Int)] he, hb⟩) hrg (hS37o6.rdS 3 rfl) (hS37o6.rdS 2 rfl) rfl) ?_
    rintro _ H37o6 ⟨hxx, m37o6, rfl, hmgm37o6, hok⟩
    have hS37o6x2 : St H0 (own [mapE r (m : List (Int × (List Int))), blkE gx (.cells #[vx, (Value.map (some r))] 68)]) (fun b => S b ∧ ¬ own [mapE r (m : List (Int × (List Int))), blkE gx (.cells #[vx, (Value.map (some r))] 68)] b) [mapE r (m37o6 : List (Int × (List Int))), blkE gx (.cells #[vx, (Value.map (some r))] 68), rdE (sliceV 1 vt n t.length) (t.drop n : List Int), rdE (sliceV 1 vp 1 ps.length) (ps.drop 1 : List Int), rdE vp (ps : List Int), rdE vt (t : List Int)] H37o6 := St.back (A := [mapE r (mset m1 (nth ps 0) (t.take n) : List (Int × (List Int))), blkE gx (.cells #[vx, (Value.map (some r))] 68)]) (A' := [mapE r (m37o6 : List (Int × (List Int))), blkE gx (.cells #[vx, (Value.map (some r))] 68)]) (L := [rdE (sliceV 1 vt n t.length) (t.drop n : List Int), rdE (sliceV 1 vp 1 ps.length) (ps.drop 1 : List Int), rdE vp (ps : List Int), rdE vt (t : List Int)]) hS37o6 hxx hok (by intro b hb; left; simpa [own_cons, own_nil, mapE, blkE, rdE] using hb) (pw2 (fun b h1 h2 => hrg (h1.symm.trans h2)))
    refine ⟨Ext.mono hxx (labS_of 0 rfl (fun _ _ => trivial)), ?_⟩
    refine wpR_end (by kernel_rfl) ?_
    exact ⟨m37o6, hmgm37o6, a36_0, a36_1, a36_2, a36_7, a36_75, a36_76, rfl, (hS37o6x2.drop (List.Sublist.cons_cons _ (List.Sublist.cons_cons _ (List.Sublist.cons _ (List.Sublist.cons _ (List.Sublist.cons_cons _ (List.Sublist.cons_cons _ (List.Sublist.slnil))))))))⟩
  rintro f38 H38 ⟨m37o6, hmgm37o6, a38_0, a38_1, a38_2, a38_7, a38_75, a38_76, a38_93, hS38⟩
  clear a36_0 a36_1 a36_10 a36_2 a36_7 a36_75 a36_76
  refine wpF_cond a38_93 (fun hcall => ?t42) (fun hcall => ?e42)
  case t42 =>
    refine wpF_seq ?_
    refine wpF_cut (fun f H => f 6 = B (true) ∧ H38 = H) ?_ ?_
    · refine wpF_region ?_
      refine wpL_q (U := NoB) rfl (q_assign (v := B (true)) rfl rfl) ?_
      exact ⟨rfl, rfl⟩
    rintro f40 _ ⟨a40_6, rfl⟩
    clear a38_0 a38_1 a38_2 a38_7 a38_75 a38_76 a38_93
    refine wpF_ret ?_
    refine ⟨_, resT a40_6 resN, hS38.frameM, ?_⟩
    show ∃ m2, (B (true)) = B (fitF ps t (mget m)).isSome ∧ mget m2 = (fitF ps t (mget m)).getD (mget m) ∧ ∀ e ∈ [mapE r (m2 : List (Int × (List Int))), blkE gx (.cells #[vx, (Value.map (some r))] 68)], e.ok (lv S [mapE r (m : List (Int × (List Int))), blkE gx (.cells #[vx, (Value.map (some r))] 68)] [mapE r (m2 : List (Int × (List Int))), blkE gx (.cells #[vx, (Value.map (some r))] 68)]) H38
    obtain ⟨y, hy⟩ := Option.isSome_iff_exists.1 hcall
    rw [hy] at hmgm37o6
    rw [hput2] at hy
    have hfit := fit_found hlen hneg hnone hloop (by omega) hy
    exact ⟨_, congrArg B (by rw [hfit]; rfl), (by rw [hfit]; exact hmgm37o6), St.leave (hS38.drop (List.Sublist.cons_cons _ (List.Sublist.cons_cons _ (List.Sublist.cons _ (List.Sublist.cons _ (List.Sublist.slnil))))))⟩
  refine wpF_skip ?_
  refine wpF_cut (fun f H => f 0 = PT gx 0 ∧ f 1 = vp ∧ f 2 = vt ∧ f 7 = I (nth ps 0) ∧ f 75 = I ((t.length : Int) + 1) ∧ f 76 = I ((n : Int) + 1) ∧ H38 = H) ?_ ?_
  · refine wpF_region ?_
    refine wpL_q (U := NoB) rfl (q_add rfl a38_76 rfl (by constructor <;> omega)) ?_
    refine wpL_q (U := NoB) rfl (q_move (v := I ((n : Int) + 1)) rfl rfl) ?_
    exact ⟨a38_0, a38_1, a38_2, a38_7, a38_75, rfl, rfl⟩
  rintro f41 _ ⟨a41_0, a41_1, a41_2, a41_7, a41_75, a41_76, rfl⟩
  clear a38_0 a38_1 a38_2 a38_7 a38_75 a38_76 a38_93
  have hno := Option.isSome_eq_false_iff.1 hcall
  have hno2 := Option.isNone_iff_eq_none.1 hno
  have hmn : mget m37o6 = mget (mset m1 (nth ps 0) (t.take n)) := by rw [hmgm37o6, hno2]; rfl
  have hnn2 := hno2
  rw [hput2] at hnn2
  refine ⟨_, ?_, n + 1, m37o6, rfl, (by omega), (fun q hq => by rw [hmn, hput2, put, if_neg (fun e => hq e.symm)]), (all_succ hloop hnn2), a41_0, a41_1, a41_2, a41_7, a41_75, (Eq.trans a41_76 (congrArg I (by omega))), (St.drop (show St H0 (own [mapE r (m : List (Int × (List Int))), blkE gx (.cells #[vx, (Value.map (some r))] 68)]) (fun b => S b ∧ ¬ own [mapE r (m : List (Int × (List Int))), blkE gx (.cells #[vx, (Value.map (some r))] 68)] b) [rdE vp (ps : List Int), rdE vt (t : List Int), mapE r (m37o6 : List (Int × (List Int))), blkE gx (.cells #[vx, (Value.map (some r))] 68)] H38 from ((((hS38.front 1 rfl).front 1 rfl).front 3 rfl).front 3 rfl)) (List.Sublist.cons_cons _ (List.Sublist.cons_cons _ (List.Sublist.cons_cons _ (List.Sublist.cons_cons _ (List.Sublist.slnil))))))⟩
  omega

set_option maxRecDepth 100000 in
theorem rope_Fit {H0 : Heap} {S : Nat → Prop} (vp vt : Value) (p t : List Int) (rp : Rd S H0 vp p) (rt : Rd S H0 vt t) : CallsH Try.prog 17 #[vp, vt] H0 (fun rv_ H' => Ext NoB H0 H' ∧ ∃ rx, rv_ = Value.tuple #[rx, B (ropeAll p t).2.1, Value.agg #[I (ropeAll p t).2.2.1, I (ropeAll p t).2.2.2]] ∧ Rd (fun b => S b ∧ b < H0.size) H' rx (ropeAll p t).1) := by
  have hsp := (Rd.list.1 rp).small
  have hst := (Rd.list.1 rt).small
  have hS0 : St H0 NoB (fun b => S b ∧ b < H0.size) [rdE vp (p : List Int), rdE vt (t : List Int)] H0 := St.arg (St.arg (St.start (fun _ h => h.2)) (Bl0.nil) rt (fun _ h => h.1)) (Bl0.cons (Bl0.nil)) rp (fun _ h => h.1)
  refine callsH_of_wpF (args := [vp, vt]) (rs := [.tmp 4, .tmp 5, .cell 6 24]) Try.func17 rfl Try.ntmps17 Try.results17 (by kernel_rfl) (Nat.le_of_ble_eq_true rfl) ?_
  have a0_0 : argF [vp, vt] 0 = vp := rfl
  have a0_1 : argF [vp, vt] 1 = vt := rfl
  generalize argF [vp, vt] = f0 at *
  refine wpF_seq ?_
  refine wpF_cut (fun f H => ∃ (g1 : Nat), f 0 = vp ∧ f 1 = vt ∧ f 6 = PT g1 0 ∧ St H0 NoB (fun b => S b ∧ b < H0.size) [blkE g1 (.cells #[I (0), I (0)] 24), rdE vp (p : List Int), rdE vt (t : List Int)] H) ?_ ?_
  · refine wpF_region ?_
    refine wpL_q (U := NoB) rfl (q_assign (v := (Value.slice none 0 0)) rfl rfl) ?_
    refine wpL_q (U := NoB) rfl (q_assign (v := B (false)) rfl rfl) ?_
    refine wpL_o rfl ?_
    refine e_alloc rfl Try.zeroValue24 hS0 (fun g1 H2 hS3 hxx => ?_)
    replace hS3 : St H0 NoB (fun b => S b ∧ b < H0.size) [blkE g1 (.cells #[I (0), I (0)] 24), rdE vp (p : List Int), rdE vt (t : List Int)] H2 := hS3
    exact ⟨g1, a0_0, a0_1, rfl, hS3⟩
  rintro f4 H4 ⟨g1, a4_0, a4_1, a4_6, hS4⟩
  clear a0_0 a0_1
  refine wpF_seq ?_
  refine wpF_seq ?_
  refine wpF_cut (fun f H => f 0 = vp ∧ f 1 = vt ∧ f 6 = PT g1 0 ∧ f 22 = B (decide ((8 < (p.length : Int)) ∨ (30 < (t.length : Int)))) ∧ H4 = H) ?_ ?_
  · refine wpF_region ?_
    refine wpL_q (U := NoB) rfl (q_move (v := vp) rfl a4_0) ?_
    refine wpL_q (U := NoB) rfl (q_lenRd rfl Try.underlying22 rfl (hS4.rdl 1 rfl)) ?_
    refine wpL_q (U := NoB) rfl (q_gtr rfl rfl rfl) ?_
    refine wpL_q (U := NoB) rfl (q_move (v := B (decide (8 < (p.length : Int)))) rfl rfl) ?_
    by_cases hg5 : 8 < (p.length : Int)
    · have hb6 := Eq.trans rfl (congrArg B (decide_eq_true hg5))
      refine wpL_gs rfl rfl rfl hb6 rfl ?_
      refine wpL_gs rfl rfl rfl hb6 rfl ?_
      refine wpL_gs rfl rfl rfl hb6 rfl ?_
      refine wpL_q (U := NoB) rfl (q_pickT (v := B (true)) rfl hb6 rfl) ?_
      exact ⟨a4_0, a4_1, a4_6, (Eq.trans rfl (congrArg B ((decide_eq_true (Or.inl hg5)).symm))), rfl⟩
    · have hb7 := Eq.trans rfl (congrArg B (decide_eq_false hg5))
      refine wpL_gq (U := NoB) rfl rfl rfl hb7 (q_move (v := vt) rfl a4_1) ?_
      refine wpL_gq (U := NoB) rfl rfl rfl hb7 (q_lenRd rfl Try.underlying22 rfl (hS4.rdl 2 rfl)) ?_
      refine wpL_gq (U := NoB) rfl rfl rfl hb7 (q_gtr rfl rfl rfl) ?_
      refine wpL_q (U := NoB) rfl (q_pickF (v := B (decide (30 < (t.length : Int)))) rfl hb7 rfl) ?_
      exact ⟨a4_0, a4_1, a4_6, (Eq.trans rfl (congrArg B (decide_congr_of ((Iff.rfl).trans (((or_iff_right hg5).trans Iff.rfl)).symm)))), rfl⟩
  rintro f8 _ ⟨a8_0, a8_1, a8_6, a8_22, rfl⟩
  clear a4_0 a4_1 a4_6
  refine wpF_condP a8_22 (fun hmany => ?t93) (fun hmany => ?e93)
  case t93 =>
    refine wpF_seq ?_
    refine wpF_cut (fun f H => f 4 = (Value.slice none 0 0) ∧ f 5 = B (false) ∧ f 6 = PT g1 0 ∧ St H0 NoB (fun b => S b ∧ b < H0.size) [blkE g1 (.cells #[I (2), I (0)] 24), rdE vp (p : List Int), rdE vt (t : List Int)] H) ?_ ?_
    · refine wpF_region ?_
      refine wpL_q (U := NoB) rfl (q_build (v := Value.agg #[I (2), I (0)]) rfl (par1 (v0 := I (2)) rfl) (fun w => by kernel_rfl)) ?_
      refine wpL_q (U := NoB) rfl (q_assign (v := (Value.slice none 0 0)) rfl rfl) ?_
      refine wpL_q (U := NoB) rfl (q_assign (v := B (false)) rfl rfl) ?_
      refine wpL_o rfl ?_
      refine e_storeBlkA (cs' := #[I (2), I (0)]) rfl a8_6 rfl Try.sizeOf24 rfl rfl (List.forall_mem_cons.2 ⟨rfl, List.forall_mem_cons.2 ⟨rfl, List.forall_mem_nil _⟩⟩) hS4 (fun H10 hS11 hxx => ?_)
      replace hS11 : St H0 NoB (fun b => S b ∧ b < H0.size) [blkE g1 (.cells #[I (2), I (0)] 24), rdE vp (p : List Int), rdE vt (t : List Int)] H10 := hS11
      exact ⟨rfl, rfl, a8_6, hS11⟩
    rintro f12 H12 ⟨a12_4, a12_5, a12_6, hS12⟩
    clear a8_0 a8_1 a8_22 a8_6
    refine wpF_ret ?_
    refine ⟨_, resT a12_4 (resT a12_5 (resC a12_6 (loadV_blkA Try.isAgg24 Try.sizeOf24 rfl (hS12.blk 0 rfl)) (resN))), hS12.frame, ?_⟩
    show ∃ rx, (Value.tuple #[(Value.slice none 0 0), B (false), Value.agg #[I (2), I (0)]]) = Value.tuple #[rx, B (ropeAll p t).2.1, Value.agg #[I (ropeAll p t).2.2.1, I (ropeAll p t).2.2.2]] ∧ Rd (fun b => S b ∧ b < H0.size) H12 rx (ropeAll p t).1
    have heq := ropeAll_many hmany
    exact ⟨(Value.slice none 0 0), by rw [heq], by rw [heq]; exact rdNil⟩
  refine wpF_skip ?_
  refine wpF_seq ?_
  refine wpF_cut (fun f H => f 0 = vp ∧ f 1 = vt ∧ f 6 = PT g1 0 ∧ f 7 = I (0) ∧ H4 = H) ?_ ?_
  · refine wpF_region ?_
    refine wpL_q (U := NoB) rfl (q_assign (v := I (0)) rfl rfl) ?_
    exact ⟨a8_0, a8_1, a8_6, rfl, rfl⟩
  rintro f13 _ ⟨a13_0, a13_1, a13_6, a13_7, rfl⟩
  clear a8_0 a8_1 a8_22 a8_6
  refine wpF_seq ?_
  refine wpF_seq ?_
  refine wpF_cut (fun f H => f 0 = vp ∧ f 1 = vt ∧ f 6 = PT g1 0 ∧ f 7 = I (0) ∧ f 24 = vp ∧ f 25 = I ((p.length : Int)) ∧ f 26 = I (0) ∧ H4 = H) ?_ ?_
  · refine wpF_region ?_
    refine wpL_q (U := NoB) rfl (q_move (v := vp) rfl a13_0) ?_
    refine wpL_q (U := NoB) rfl (q_lenRd rfl Try.underlying22 rfl (hS4.rdl 1 rfl)) ?_
    refine wpL_q (U := NoB) rfl (q_move (v := I (0)) rfl rfl) ?_
    exact ⟨a13_0, a13_1, a13_6, a13_7, rfl, rfl, rfl, rfl⟩
  rintro f14 _ ⟨a14_0, a14_1, a14_6, a14_7, a14_24, a14_25, a14_26, rfl⟩
  clear a13_0 a13_1 a13_6 a13_7
  refine wpF_block ?_
  refine wpF_loop (fun mz f H => ∃ (k : Nat), mz = p.length - k ∧ (k ≤ p.length) ∧ (∀ j, j < k → -3 ≤ nth p j ∧ nth p j ≤ 11) ∧ f 0 = vp ∧ f 1 = vt ∧ f 6 = PT g1 0 ∧ f 7 = I (mostL (p.take k)) ∧ f 24 = vp ∧ f 25 = I ((p.length : Int)) ∧ f 26 = I ((k : Int)) ∧ H4 = H) (p.length - 0) ?_ ?_
  · exact ⟨0, rfl, Nat.zero_le _, (fun j hj => absurd hj (Nat.not_lt_zero j)), a14_0, a14_1, a14_6, a14_7, a14_24, a14_25, (Eq.trans a14_26 (congrArg I (by omega))), rfl⟩
  intro m15 f15 H15 hI15
  obtain ⟨k, hm15, hk, hgp, a15_0, a15_1, a15_6, a15_7, a15_24, a15_25, a15_26, rfl⟩ := hI15
  clear a14_0 a14_1 a14_24 a14_25 a14_26 a14_6 a14_7
  refine wpF_seq ?_
  refine wpF_cut (fun f H => f 0 = vp ∧ f 1 = vt ∧ f 6 = PT g1 0 ∧ f 7 = I (mostL (p.take k)) ∧ f 24 = vp ∧ f 25 = I ((p.length : Int)) ∧ f 26 = I ((k : Int)) ∧ f 27 = B (decide ((k : Int) < (p.length : Int))) ∧ H4 = H) ?_ ?_
  · refine wpF_region ?_
    refine wpL_q (U := NoB) rfl (q_lss rfl a15_26 a15_25) ?_
    exact ⟨a15_0, a15_1, a15_6, a15_7, a15_24, a15_25, a15_26, rfl, rfl⟩
  rintro f16 _ ⟨a16_0, a16_1, a16_6, a16_7, a16_24, a16_25, a16_26, a16_27, rfl⟩
  clear a15_0 a15_1 a15_24 a15_25 a15_26 a15_6 a15_7
  refine wpF_seq ?_
  refine wpF_condP a16_27 (fun hl0 => ?t92) (fun hl0 => ?e92)
  case t92 =>
    refine wpF_skip ?_
    refine wpF_seq ?_
    refine wpF_block ?_
    refine wpF_seq ?_
    refine wpF_cut (fun f H => f 0 = vp ∧ f 1 = vt ∧ f 6 = PT g1 0 ∧ f 7 = I (mostL (p.take k)) ∧ f 8 = I ((k : Int)) ∧ f 9 = I (nth p k) ∧ f 24 = vp ∧ f 25 = I ((p.length : Int)) ∧ f 26 = I ((k : Int)) ∧ H4 = H) ?_ ?_
    · refine wpF_region ?_
      refine wpL_q (U := NoB) rfl (q_move (v := I ((k : Int))) rfl a16_26) ?_
      refine wpL_q (U := NoB) rfl (q_indexRd (k := k) rfl Try.underlying22 el_Int_3 a16_24 a16_26 (hS4.rdl 1 rfl) (by omega) (by omega)) ?_
      refine wpL_q (U := NoB) rfl (q_loadInt (k := k) rfl rfl el_Int_3 (hS4.rdl 1 rfl) (by omega) (fun _ h => h)) ?_
      refine wpL_q (U := NoB) rfl (q_assign (v := I ((k : Int))) rfl rfl) ?_
      refine wpL_q (U := NoB) rfl (q_assign (v := I (nth p k)) rfl rfl) ?_
      exact ⟨a16_0, a16_1, a16_6, a16_7, rfl, rfl, a16_24, a16_25, a16_26, rfl⟩
    rintro f19 _ ⟨a19_0, a19_1, a19_6, a19_7, a19_8, a19_9, a19_24, a19_25, a19_26, rfl⟩
    clear a16_0 a16_1 a16_24 a16_25 a16_26 a16_27 a16_6 a16_7
    refine wpF_seq ?_
    refine wpF_seq ?_
    refine wpF_cut (fun f H => f 0 = vp ∧ f 1 = vt ∧ f 6 = PT g1 0 ∧ f 7 = I (mostL (p.take k)) ∧ f 8 = I ((k : Int)) ∧ f 9 = I (nth p k) ∧ f 24 = vp ∧ f 25 = I ((p.length : Int)) ∧ f 26 = I ((k : Int)) ∧ f 36 = B (decide (((nth p k) < (-3)) ∨ (11 < (nth p k)))) ∧ H4 = H) ?_ ?_
    · refine wpF_region ?_
      refine wpL_q (U := NoB) rfl (q_move (v := I (nth p k)) rfl a19_9) ?_
      refine wpL_q (U := NoB) rfl (q_lss rfl rfl rfl) ?_
      refine wpL_q (U := NoB) rfl (q_move (v := B (decide ((nth p k) < (-3)))) rfl rfl) ?_
      by_cases hg20 : (nth p k) < (-3)
      · have hb21 := Eq.trans rfl (congrArg B (decide_eq_true hg20))
        refine wpL_gs rfl rfl rfl hb21 rfl ?_
        refine wpL_gs rfl rfl rfl hb21 rfl ?_
        refine wpL_q (U := NoB) rfl (q_pickT (v := B (true)) rfl hb21 rfl) ?_
        exact ⟨a19_0, a19_1, a19_6, a19_7, a19_8, a19_9, a19_24, a19_25, a19_26, (Eq.trans rfl (congrArg B ((decide_eq_true (Or.inl hg20)).symm))), rfl⟩
      · have hb22 := Eq.trans rfl (congrArg B (decide_eq_false hg20))
        refine wpL_gq (U := NoB) rfl rfl rfl hb22 (q_move (v := I (nth p k)) rfl a19_9) ?_
        refine wpL_gq (U := NoB) rfl rfl rfl hb22 (q_gtr rfl rfl rfl) ?_
        refine wpL_q (U := NoB) rfl (q_pickF (v := B (decide (11 < (nth p k)))) rfl hb22 rfl) ?_
        exact ⟨a19_0, a19_1, a19_6, a19_7, a19_8, a19_9, a19_24, a19_25, a19_26, (Eq.trans rfl (congrArg B (decide_congr_of ((Iff.rfl).trans (((or_iff_right hg20).trans Iff.rfl)).symm)))), rfl⟩
    rintro f23 _ ⟨a23_0, a23_1, a23_6, a23_7, a23_8, a23_9, a23_24, a23_25, a23_26, a23_36, rfl⟩
    clear a19_0 a19_1 a19_24 a19_25 a19_26 a19_6 a19_7 a19_8 a19_9
    refine wpF_condP a23_36 (fun hbad => ?t30) (fun hbad => ?e30)
    case t30 =>
      refine wpF_seq ?_
      refine wpF_cut (fun f H => f 4 = (Value.slice none 0 0) ∧ f 5 = B (false) ∧ f 6 = PT g1 0 ∧ St H0 NoB (fun b => S b ∧ b < H0.size) [blkE g1 (.cells #[I (3), I ((k : Int))] 24), rdE vp (p : List Int), rdE vt (t : List Int)] H) ?_ ?_
      · refine wpF_region ?_
        refine wpL_q (U := NoB) rfl (q_move (v := I ((k : Int))) rfl a23_8) ?_
        refine wpL_q (U := NoB) rfl (q_build (v := Value.agg #[I (3), I ((k : Int))]) rfl (par2 (v0 := I (3)) (v1 := I ((k : Int))) rfl rfl) (fun w => by kernel_rfl)) ?_
        refine wpL_q (U := NoB) rfl (q_assign (v := (Value.slice none 0 0)) rfl rfl) ?_
        refine wpL_q (U := NoB) rfl (q_assign (v := B (false)) rfl rfl) ?_
        refine wpL_o rfl ?_
        refine e_storeBlkA (cs' := #[I (3), I ((k : Int))]) rfl a23_6 rfl Try.sizeOf24 rfl rfl (List.forall_mem_cons.2 ⟨rfl, List.forall_mem_cons.2 ⟨rfl, List.forall_mem_nil _⟩⟩) hS4 (fun H25 hS26 hxx => ?_)
        replace hS26 : St H0 NoB (fun b => S b ∧ b < H0.size) [blkE g1 (.cells #[I (3), I ((k : Int))] 24), rdE vp (p : List Int), rdE vt (t : List Int)] H25 := hS26
        exact ⟨rfl, rfl, a23_6, hS26⟩
      rintro f27 H27 ⟨a27_4, a27_5, a27_6, hS27⟩
      clear a23_0 a23_1 a23_24 a23_25 a23_26 a23_36 a23_6 a23_7 a23_8 a23_9
      refine wpF_ret ?_
      refine ⟨_, resT a27_4 (resT a27_5 (resC a27_6 (loadV_blkA Try.isAgg24 Try.sizeOf24 rfl (hS27.blk 0 rfl)) (resN))), hS27.frame, ?_⟩
      show ∃ rx, (Value.tuple #[(Value.slice none 0 0), B (false), Value.agg #[I (3), I ((k : Int))]]) = Value.tuple #[rx, B (ropeAll p t).2.1, Value.agg #[I (ropeAll p t).2.2.1, I (ropeAll p t).2.2.2]] ∧ Rd (fun b => S b ∧ b < H0.size) H27 rx (ropeAll p t).1
      have heq := ropeAll_bad (fitFault_p hmany hgp (by omega) hbad) (by decide)
      exact ⟨(Value.slice none 0 0), by rw [heq], by rw [heq]; exact rdNil⟩
    refine wpF_skip ?_
    refine wpF_cut (fun f H => f 0 = vp ∧ f 1 = vt ∧ f 6 = PT g1 0 ∧ f 7 = I (max (mostL (p.take k)) (-(nth p k))) ∧ f 24 = vp ∧ f 25 = I ((p.length : Int)) ∧ f 26 = I ((k : Int)) ∧ H4 = H) ?_ ?_
    · refine wpF_region ?_
      refine wpL_q (U := NoB) rfl (q_move (v := I (mostL (p.take k))) rfl a23_7) ?_
      refine wpL_q (U := NoB) rfl (q_move (v := I (nth p k)) rfl a23_9) ?_
      refine wpL_q (U := NoB) rfl (q_neg rfl rfl (by constructor <;> omega)) ?_
      refine wpL_q (U := NoB) rfl (q_max rfl rfl rfl) ?_
      refine wpL_q (U := NoB) rfl (q_assign (v := I (max (mostL (p.take k)) (-(nth p k)))) rfl rfl) ?_
      exact ⟨a23_0, a23_1, a23_6, rfl, a23_24, a23_25, a23_26, rfl⟩
    rintro f28 _ ⟨a28_0, a28_1, a28_6, a28_7, a28_24, a28_25, a28_26, rfl⟩
    clear a23_0 a23_1 a23_24 a23_25 a23_26 a23_36 a23_6 a23_7 a23_8 a23_9
    refine wpF_cut (fun f H => f 0 = vp ∧ f 1 = vt ∧ f 6 = PT g1 0 ∧ f 7 = I (max (mostL (p.take k)) (-(nth p k))) ∧ f 24 = vp ∧ f 25 = I ((p.length : Int)) ∧ f 26 = I ((k : Int) + 1) ∧ H4 = H) ?_ ?_
    · refine wpF_region ?_
      refine wpL_q (U := NoB) rfl (q_add rfl a28_26 rfl (by constructor <;> omega)) ?_
      refine wpL_q (U := NoB) rfl (q_move (v := I ((k : Int) + 1)) rfl rfl) ?_
      exact ⟨a28_0, a28_1, a28_6, a28_7, a28_24, a28_25, rfl, rfl⟩
    rintro f29 _ ⟨a29_0, a29_1, a29_6, a29_7, a29_24, a29_25, a29_26, rfl⟩
    clear a28_0 a28_1 a28_24 a28_25 a28_26 a28_6 a28_7
    refine ⟨_, ?_, k + 1, rfl, (by omega), (all_succ hgp (by omega)), a29_0, a29_1, a29_6, (Eq.trans a29_7 (congrArg I (mostL_take (by omega)))), a29_24, a29_25, (Eq.trans a29_26 (congrArg I (by omega))), rfl⟩
    omega
  have hkp : k = p.length := by omega
  subst hkp
  have h3 := mostL_3 hgp
  have h0 := mostL_nonneg p
  have b18 := Eq.trans a16_7 (congrArg I (by rw [List.take_length] : _ = mostL p))
  refine wpF_exit ?_
  refine atX_here ?_
  refine wpF_seq ?_
  refine wpF_seq ?_
  refine wpF_cut (fun f H => f 0 = vp ∧ f 1 = vt ∧ f 6 = PT g1 0 ∧ f 7 = I (mostL p) ∧ f 44 = vt ∧ f 45 = I ((t.length : Int)) ∧ f 46 = I (0) ∧ H4 = H) ?_ ?_
  · refine wpF_region ?_
    refine wpL_q (U := NoB) rfl (q_move (v := vt) rfl a16_1) ?_
    refine wpL_q (U := NoB) rfl (q_lenRd rfl Try.underlying22 rfl (hS4.rdl 2 rfl)) ?_
    refine wpL_q (U := NoB) rfl (q_move (v := I (0)) rfl rfl) ?_
    exact ⟨a16_0, a16_1, a16_6, b18, rfl, rfl, rfl, rfl⟩
  rintro f31 _ ⟨a31_0, a31_1, a31_6, a31_7, a31_44, a31_45, a31_46, rfl⟩
  clear a16_0 a16_1 a16_24 a16_25 a16_26 a16_27 a16_6
  refine wpF_block ?_
  refine wpF_loop (fun mz f H => ∃ (k2 : Nat), mz = t.length - k2 ∧ (k2 ≤ t.length) ∧ (∀ j, j < k2 → 0 ≤ nth t j ∧ nth t j ≤ 11) ∧ f 0 = vp ∧ f 1 = vt ∧ f 6 = PT g1 0 ∧ f 7 = I (mostL p) ∧ f 44 = vt ∧ f 45 = I ((t.length : Int)) ∧ f 46 = I ((k2 : Int)) ∧ H4 = H) (t.length - 0) ?_ ?_
  · exact ⟨0, rfl, Nat.zero_le _, (fun j hj => absurd hj (Nat.not_lt_zero j)), a31_0, a31_1, a31_6, a31_7, a31_44, a31_45, (Eq.trans a31_46 (congrArg I (by omega))), rfl⟩
  intro m32 f32 H32 hI32
  obtain ⟨k2, hm32, hk2, hgt, a32_0, a32_1, a32_6, a32_7, a32_44, a32_45, a32_46, rfl⟩ := hI32
  clear a31_0 a31_1 a31_44 a31_45 a31_46 a31_6 a31_7
  refine wpF_seq ?_
  refine wpF_cut (fun f H => f 0 = vp ∧ f 1 = vt ∧ f 6 = PT g1 0 ∧ f 7 = I (mostL p) ∧ f 44 = vt ∧ f 45 = I ((t.length : Int)) ∧ f 46 = I ((k2 : Int)) ∧ f 47 = B (decide ((k2 : Int) < (t.length : Int))) ∧ H4 = H) ?_ ?_
  · refine wpF_region ?_
    refine wpL_q (U := NoB) rfl (q_lss rfl a32_46 a32_45) ?_
    exact ⟨a32_0, a32_1, a32_6, a32_7, a32_44, a32_45, a32_46, rfl, rfl⟩
  rintro f33 _ ⟨a33_0, a33_1, a33_6, a33_7, a33_44, a33_45, a33_46, a33_47, rfl⟩
  clear a32_0 a32_1 a32_44 a32_45 a32_46 a32_6 a32_7
  refine wpF_seq ?_
  refine wpF_condP a33_47 (fun hl2 => ?t91) (fun hl2 => ?e91)
  case t91 =>
    refine wpF_skip ?_
    refine wpF_seq ?_
    refine wpF_block ?_
    refine wpF_seq ?_
    refine wpF_cut (fun f H => f 0 = vp ∧ f 1 = vt ∧ f 6 = PT g1 0 ∧ f 7 = I (mostL p) ∧ f 10 = I ((k2 : Int)) ∧ f 11 = I (nth t k2) ∧ f 44 = vt ∧ f 45 = I ((t.length : Int)) ∧ f 46 = I ((k2 : Int)) ∧ H4 = H) ?_ ?_
    · refine wpF_region ?_
      refine wpL_q (U := NoB) rfl (q_move (v := I ((k2 : Int))) rfl a33_46) ?_
      refine wpL_q (U := NoB) rfl (q_indexRd (k := k2) rfl Try.underlying22 el_Int_3 a33_44 a33_46 (hS4.rdl 2 rfl) (by omega) (by omega)) ?_
      refine wpL_q (U := NoB) rfl (q_loadInt (k := k2) rfl rfl el_Int_3 (hS4.rdl 2 rfl) (by omega) (fun _ h => h)) ?_
      refine wpL_q (U := NoB) rfl (q_assign (v := I ((k2 : Int))) rfl rfl) ?_
      refine wpL_q (U := NoB) rfl (q_assign (v := I (nth t k2)) rfl rfl) ?_
      exact ⟨a33_0, a33_1, a33_6, a33_7, rfl, rfl, a33_44, a33_45, a33_46, rfl⟩
    rintro f35 _ ⟨a35_0, a35_1, a35_6, a35_7, a35_10, a35_11, a35_44, a35_45, a35_46, rfl⟩
    clear a33_0 a33_1 a33_44 a33_45 a33_46 a33_47 a33_6 a33_7
    refine wpF_seq ?_
    refine wpF_cut (fun f H => f 0 = vp ∧ f 1 = vt ∧ f 6 = PT g1 0 ∧ f 7 = I (mostL p) ∧ f 10 = I ((k2 : Int)) ∧ f 44 = vt ∧ f 45 = I ((t.length : Int)) ∧ f 46 = I ((k2 : Int)) ∧ f 56 = B (decide (((nth t k2) < 0) ∨ (11 < (nth t k2)))) ∧ H4 = H) ?_ ?_
    · refine wpF_region ?_
      refine wpL_q (U := NoB) rfl (q_move (v := I (nth t k2)) rfl a35_11) ?_
      refine wpL_q (U := NoB) rfl (q_lss rfl rfl rfl) ?_
      refine wpL_q (U := NoB) rfl (q_move (v := B (decide ((nth t k2) < 0))) rfl rfl) ?_
      by_cases hg36 : (nth t k2) < 0
      · have hb37 := Eq.trans rfl (congrArg B (decide_eq_true hg36))
        refine wpL_gs rfl rfl rfl hb37 rfl ?_
        refine wpL_gs rfl rfl rfl hb37 rfl ?_
        refine wpL_q (U := NoB) rfl (q_pickT (v := B (true)) rfl hb37 rfl) ?_
        exact ⟨a35_0, a35_1, a35_6, a35_7, a35_10, a35_44, a35_45, a35_46, (Eq.trans rfl (congrArg B ((decide_eq_true (Or.inl hg36)).symm))), rfl⟩
      · have hb38 := Eq.trans rfl (congrArg B (decide_eq_false hg36))
        refine wpL_gq (U := NoB) rfl rfl rfl hb38 (q_move (v := I (nth t k2)) rfl a35_11) ?_
        refine wpL_gq (U := NoB) rfl rfl rfl hb38 (q_gtr rfl rfl rfl) ?_
        refine wpL_q (U := NoB) rfl (q_pickF (v := B (decide (11 < (nth t k2)))) rfl hb38 rfl) ?_
        exact ⟨a35_0, a35_1, a35_6, a35_7, a35_10, a35_44, a35_45, a35_46, (Eq.trans rfl (congrArg B (decide_congr_of ((Iff.rfl).trans (((or_iff_right hg36).trans Iff.rfl)).symm)))), rfl⟩
    rintro f39 _ ⟨a39_0, a39_1, a39_6, a39_7, a39_10, a39_44, a39_45, a39_46, a39_56, rfl⟩
    clear a35_0 a35_1 a35_10 a35_11 a35_44 a35_45 a35_46 a35_6 a35_7
    refine wpF_condP a39_56 (fun hbad2 => ?t45) (fun hbad2 => ?e45)
    case e45 =>
      refine wpF_skip ?_
      refine wpF_cut (fun f H => f 0 = vp ∧ f 1 = vt ∧ f 6 = PT g1 0 ∧ f 7 = I (mostL p) ∧ f 44 = vt ∧ f 45 = I ((t.length : Int)) ∧ f 46 = I ((k2 : Int) + 1) ∧ H4 = H) ?_ ?_
      · refine wpF_region ?_
        refine wpL_q (U := NoB) rfl (q_add rfl a39_46 rfl (by constructor <;> omega)) ?_
        refine wpL_q (U := NoB) rfl (q_move (v := I ((k2 : Int) + 1)) rfl rfl) ?_
        exact ⟨a39_0, a39_1, a39_6, a39_7, a39_44, a39_45, rfl, rfl⟩
      rintro f44 _ ⟨a44_0, a44_1, a44_6, a44_7, a44_44, a44_45, a44_46, rfl⟩
      clear a39_0 a39_1 a39_10 a39_44 a39_45 a39_46 a39_56 a39_6 a39_7
      refine ⟨_, ?_, k2 + 1, rfl, (by omega), (all_succ hgt (by omega)), a44_0, a44_1, a44_6, a44_7, a44_44, a44_45, (Eq.trans a44_46 (congrArg I (by omega))), rfl⟩
      omega
    refine wpF_seq ?_
    refine wpF_cut (fun f H => f 4 = (Value.slice none 0 0) ∧ f 5 = B (false) ∧ f 6 = PT g1 0 ∧ St H0 NoB (fun b => S b ∧ b < H0.size) [blkE g1 (.cells #[I (3), I ((p.length : Int) + (k2 : Int))] 24), rdE vp (p : List Int), rdE vt (t : List Int)] H) ?_ ?_
    · refine wpF_region ?_
      refine wpL_q (U := NoB) rfl (q_move (v := vp) rfl a39_0) ?_
      refine wpL_q (U := NoB) rfl (q_lenRd rfl Try.underlying22 rfl (hS4.rdl 1 rfl)) ?_
      refine wpL_q (U := NoB) rfl (q_move (v := I ((k2 : Int))) rfl a39_10) ?_
      refine wpL_q (U := NoB) rfl (q_add rfl rfl rfl (by constructor <;> omega)) ?_
      refine wpL_q (U := NoB) rfl (q_build (v := Value.agg #[I (3), I ((p.length : Int) + (k2 : Int))]) rfl (par2 (v0 := I (3)) (v1 := I ((p.length : Int) + (k2 : Int))) rfl rfl) (fun w => by kernel_rfl)) ?_
      refine wpL_q (U := NoB) rfl (q_assign (v := (Value.slice none 0 0)) rfl rfl) ?_
      refine wpL_q (U := NoB) rfl (q_assign (v := B (false)) rfl rfl) ?_
      refine wpL_o rfl ?_
      refine e_storeBlkA (cs' := #[I (3), I ((p.length : Int) + (k2 : Int))]) rfl a39_6 rfl Try.sizeOf24 rfl rfl (List.forall_mem_cons.2 ⟨rfl, List.forall_mem_cons.2 ⟨rfl, List.forall_mem_nil _⟩⟩) hS4 (fun H41 hS42 hxx => ?_)
      replace hS42 : St H0 NoB (fun b => S b ∧ b < H0.size) [blkE g1 (.cells #[I (3), I ((p.length : Int) + (k2 : Int))] 24), rdE vp (p : List Int), rdE vt (t : List Int)] H41 := hS42
      exact ⟨rfl, rfl, a39_6, hS42⟩
    rintro f43 H43 ⟨a43_4, a43_5, a43_6, hS43⟩
    clear a39_0 a39_1 a39_10 a39_44 a39_45 a39_46 a39_56 a39_6 a39_7
    refine wpF_ret ?_
    refine ⟨_, resT a43_4 (resT a43_5 (resC a43_6 (loadV_blkA Try.isAgg24 Try.sizeOf24 rfl (hS43.blk 0 rfl)) (resN))), hS43.frame, ?_⟩
    show ∃ rx, (Value.tuple #[(Value.slice none 0 0), B (false), Value.agg #[I (3), I ((p.length : Int) + (k2 : Int))]]) = Value.tuple #[rx, B (ropeAll p t).2.1, Value.agg #[I (ropeAll p t).2.2.1, I (ropeAll p t).2.2.2]] ∧ Rd (fun b => S b ∧ b < H0.size) H43 rx (ropeAll p t).1
    have heq := ropeAll_bad (fitFault_t hmany hgp hgt (by omega) hbad2) (by decide)
    exact ⟨(Value.slice none 0 0), by rw [heq], by rw [heq]; exact rdNil⟩
  have hkt : k2 = t.length := by omega
  subst hkt
  refine wpF_exit ?_
  refine atX_here ?_
  refine wpF_seq ?_
  refine wpF_cut (fun f H => ∃ (r46 : Nat), ∃ (g49 : Nat), f 0 = vp ∧ f 1 = vt ∧ f 6 = PT g1 0 ∧ f 7 = I (mostL p) ∧ f 12 = PT g49 0 ∧ St H0 NoB (fun b => S b ∧ b < H0.size) [blkE g49 (.cells #[vt, (Value.map (some r46))] 68), mapE r46 ([] : List (Int × (List Int))), blkE g1 (.cells #[I (0), I (0)] 24), rdE vp (p : List Int), rdE vt (t : List Int)] H) ?_ ?_
  · refine wpF_region ?_
    refine wpL_q (U := NoB) rfl (q_move (v := vt) rfl a33_1) ?_
    refine wpL_o rfl ?_
    refine e_makeMap (κ := Int) (β := List Int) rfl hS4 (fun r46 H47 hS48 hxx => ?_)
    replace hS48 : St H0 NoB (fun b => S b ∧ b < H0.size) [mapE r46 ([] : List (Int × (List Int))), blkE g1 (.cells #[I (0), I (0)] 24), rdE vp (p : List Int), rdE vt (t : List Int)] H47 := hS48
    refine wpL_q (U := NoB) rfl (q_build (v := Value.agg #[vt, (Value.map (some r46))]) rfl (par2 (v0 := vt) (v1 := (Value.map (some r46))) rfl rfl) ((hS48.rdl 3 rfl).slc (fun zz0 => ∀ w, (Instr.build 68 #[(0, zz0), (1, (Value.map (some r46)))]).run Try.prog w = .ok (Value.agg #[zz0, (Value.map (some r46))]) w) (fun a0 n0 c0 => (fun w => by kernel_rfl)))) ?_
    refine wpL_o rfl ?_
    refine e_box (v := Value.agg #[vt, (Value.map (some r46))]) rfl rfl hS48 (fun g49 H50 hS51 hxx => ?_)
    replace hS51 : St H0 NoB (fun b => S b ∧ b < H0.size) [blkE g49 (.cells #[vt, (Value.map (some r46))] 68), mapE r46 ([] : List (Int × (List Int))), blkE g1 (.cells #[I (0), I (0)] 24), rdE vp (p : List Int), rdE vt (t : List Int)] H50 := hS51
    refine wpL_q (U := NoB) rfl (q_assign (v := PT g49 0) rfl rfl) ?_
    exact ⟨r46, g49, a33_0, a33_1, a33_6, a33_7, rfl, hS51⟩
  rintro f52 H52 ⟨r46, g49, a52_0, a52_1, a52_6, a52_7, a52_12, hS52⟩
  clear a33_0 a33_1 a33_44 a33_45 a33_46 a33_47 a33_6 a33_7
  refine wpF_seq ?_
  refine wpF_seq ?_
  refine wpF_cut (fun f H => ∃ (m2 : List (Int × List Int)), (mget m2 = (fitF p t (mget ([]))).getD (mget ([]))) ∧ f 6 = PT g1 0 ∧ f 7 = I (mostL p) ∧ f 12 = PT g49 0 ∧ f 71 = B (!((fitF p t (mget ([]))).isSome)) ∧ St H0 NoB (fun b => S b ∧ b < H0.size) [mapE r46 (m2 : List (Int × (List Int))), blkE g49 (.cells #[vt, (Value.map (some r46))] 68), blkE g1 (.cells #[I (0), I (0)] 24), rdE vp (p : List Int), rdE vt (t : List Int)] H) ?_ ?_
  · refine wpF_region ?_
    refine wpL_q (U := NoB) rfl (q_move (v := PT g49 0) rfl a52_12) ?_
    refine wpL_q (U := NoB) rfl (q_move (v := vp) rfl a52_0) ?_
    refine wpL_q (U := NoB) rfl (q_move (v := vt) rfl a52_1) ?_
    have hS53 : St H0 NoB (fun b => S b ∧ b < H0.size) [mapE r46 ([] : List (Int × (List Int))), blkE g49 (.cells #[vt, (Value.map (some r46))] 68), blkE g1 (.cells #[I (0), I (0)] 24), rdE vp (p : List Int), rdE vt (t : List Int)] H52 := (St.drop (show St H0 NoB (fun b => S b ∧ b < H0.size) [mapE r46 ([] : List (Int × (List Int))), blkE g49 (.cells #[vt, (Value.map (some r46))] 68), blkE g1 (.cells #[I (0), I (0)] 24), rdE vp (p : List Int), rdE vt (t : List Int)] H52 from (((((hS52.front 4 rfl).front 4 rfl).front 4 rfl).front 3 rfl).front 4 rfl)) (List.Sublist.cons_cons _ (List.Sublist.cons_cons _ (List.Sublist.cons_cons _ (List.Sublist.cons_cons _ (List.Sublist.cons_cons _ (List.Sublist.slnil)))))))
    have hrg : r46 ≠ g49 := fun e => hS53.dis 0 1 (by decide) rfl rfl _ rfl e
    refine wpL_o rfl ?_
    refine e_call rfl Try.call44 (arr3 (v0 := PT g49 0) (v1 := vp) (v2 := vt) rfl rfl rfl) (from_F _ g49 r46 vp vt vt p t ([]) _ (fun e he => hS53.ok e (List.mem_append_left [blkE g1 (.cells #[I (0), I (0)] 24), rdE vp (p : List Int), rdE vt (t : List Int)] he)) (fun b hb => SL.lt hS53 hb) (fun b ⟨e, he, hb⟩ => .inr ⟨e, List.mem_append_left [blkE g1 (.cells #[I (0), I (0)] 24), rdE vp (p : List Int), rdE vt (t : List Int)] he, hb⟩) hrg (hS53.rdS 3 rfl) (hS53.rdS 4 rfl) rfl) ?_
    rintro _ H54 ⟨hxx, m2, rfl, hmgm2, hok⟩
    have hS55 : St H0 NoB (fun b => S b ∧ b < H0.size) [mapE r46 (m2 : List (Int × (List Int))), blkE g49 (.cells #[vt, (Value.map (some r46))] 68), blkE g1 (.cells #[I (0), I (0)] 24), rdE vp (p : List Int), rdE vt (t : List Int)] H54 := St.back (A := [mapE r46 ([] : List (Int × (List Int))), blkE g49 (.cells #[vt, (Value.map (some r46))] 68)]) (A' := [mapE r46 (m2 : List (Int × (List Int))), blkE g49 (.cells #[vt, (Value.map (some r46))] 68)]) (L := [blkE g1 (.cells #[I (0), I (0)] 24), rdE vp (p : List Int), rdE vt (t : List Int)]) hS53 hxx hok (by intro b hb; left; simpa [own_cons, own_nil, mapE, blkE, rdE] using hb) (pw2 (fun b h1 h2 => hrg (h1.symm.trans h2)))
    refine wpL_q (U := NoB) rfl (q_not rfl rfl) ?_
    exact ⟨m2, hmgm2, a52_6, a52_7, a52_12, rfl, hS55⟩
  rintro f57 H57 ⟨m2, hmgm2, a57_6, a57_7, a57_12, a57_71, hS57⟩
  clear a52_0 a52_1 a52_12 a52_6 a52_7
  refine wpF_cond a57_71 (fun hno => ?t90) (fun hno => ?e90)
  case t90 =>
    rw [mget_nil] at hno
    refine wpF_seq ?_
    refine wpF_cut (fun f H => f 4 = (Value.slice none 0 0) ∧ f 5 = B (false) ∧ f 6 = PT g1 0 ∧ St H0 NoB (fun b => S b ∧ b < H0.size) [blkE g1 (.cells #[I (0), I (0)] 24), mapE r46 (m2 : List (Int × (List Int))), blkE g49 (.cells #[vt, (Value.map (some r46))] 68), rdE vp (p : List Int), rdE vt (t : List Int)] H) ?_ ?_
    · refine wpF_region ?_
      refine wpL_q (U := NoB) rfl (q_build (v := Value.agg #[I (0), I (0)]) rfl par0 (fun w => by kernel_rfl)) ?_
      refine wpL_q (U := NoB) rfl (q_assign (v := (Value.slice none 0 0)) rfl rfl) ?_
      refine wpL_q (U := NoB) rfl (q_assign (v := B (false)) rfl rfl) ?_
      refine wpL_o rfl ?_
      refine e_storeBlkA (cs' := #[I (0), I (0)]) rfl a57_6 rfl Try.sizeOf24 rfl rfl (List.forall_mem_cons.2 ⟨rfl, List.forall_mem_cons.2 ⟨rfl, List.forall_mem_nil _⟩⟩) (hS57.front 2 rfl) (fun H59 hS60 hxx => ?_)
      replace hS60 : St H0 NoB (fun b => S b ∧ b < H0.size) [blkE g1 (.cells #[I (0), I (0)] 24), mapE r46 (m2 : List (Int × (List Int))), blkE g49 (.cells #[vt, (Value.map (some r46))] 68), rdE vp (p : List Int), rdE vt (t : List Int)] H59 := hS60
      exact ⟨rfl, rfl, a57_6, hS60⟩
    rintro f61 H61 ⟨a61_4, a61_5, a61_6, hS61⟩
    clear a57_12 a57_6 a57_7 a57_71
    refine wpF_ret ?_
    refine ⟨_, resT a61_4 (resT a61_5 (resC a61_6 (loadV_blkA Try.isAgg24 Try.sizeOf24 rfl (hS61.blk 0 rfl)) (resN))), hS61.frame, ?_⟩
    show ∃ rx, (Value.tuple #[(Value.slice none 0 0), B (false), Value.agg #[I (0), I (0)]]) = Value.tuple #[rx, B (ropeAll p t).2.1, Value.agg #[I (ropeAll p t).2.2.1, I (ropeAll p t).2.2.2]] ∧ Rd (fun b => S b ∧ b < H0.size) H61 rx (ropeAll p t).1
    have heq := ropeAll_no (fitFault_no hmany hgp hgt) (by simpa using hno)
    exact ⟨(Value.slice none 0 0), by rw [heq], by rw [heq]; exact rdNil⟩
  rw [mget_nil] at hno hmgm2
  obtain ⟨y, hy⟩ := Option.isSome_iff_exists.1 (by simpa using hno)
  have hm2 : mget m2 = y := by rw [hmgm2, hy]; rfl
  refine wpF_skip ?_
  refine wpF_seq ?_
  refine wpF_cut (fun f H => f 6 = PT g1 0 ∧ f 7 = I (mostL p) ∧ f 12 = PT g49 0 ∧ f 13 = (Value.slice none 0 0) ∧ H57 = H) ?_ ?_
  · refine wpF_region ?_
    refine wpL_q (U := NoB) rfl (q_assign (v := (Value.slice none 0 0)) rfl rfl) ?_
    exact ⟨a57_6, a57_7, a57_12, rfl, rfl⟩
  rintro f62 _ ⟨a62_6, a62_7, a62_12, a62_13, rfl⟩
  clear a57_12 a57_6 a57_7 a57_71
  have hS63 : St H0 NoB (fun b => S b ∧ b < H0.size) [rowE 22 (Value.slice none 0 0) ([] : List (List Int)), mapE r46 (m2 : List (Int × (List Int))), blkE g49 (.cells #[vt, (Value.map (some r46))] 68), blkE g1 (.cells #[I (0), I (0)] 24), rdE vp (p : List Int), rdE vt (t : List Int)] H57 := hS57.row0 22
  refine wpF_seq ?_
  refine wpF_seq ?_
  refine wpF_cut (fun f H => f 6 = PT g1 0 ∧ f 7 = I (mostL p) ∧ f 12 = PT g49 0 ∧ f 13 = (Value.slice none 0 0) ∧ f 14 = I (1) ∧ H57 = H) ?_ ?_
  · refine wpF_region ?_
    refine wpL_q (U := NoB) rfl (q_assign (v := I (1)) rfl rfl) ?_
    exact ⟨a62_6, a62_7, a62_12, a62_13, rfl, rfl⟩
  rintro f64 _ ⟨a64_6, a64_7, a64_12, a64_13, a64_14, rfl⟩
  clear a62_12 a62_13 a62_6 a62_7
  refine wpF_block ?_
  refine wpF_loop (fun mz f H => ∃ (j : Nat), ∃ (vo : Value), mz = (mostL p).toNat - j ∧ (j ≤ (mostL p).toNat) ∧ f 6 = PT g1 0 ∧ f 7 = I (mostL p) ∧ f 12 = PT g49 0 ∧ f 13 = vo ∧ f 14 = I ((j : Int) + 1) ∧ St H0 NoB (fun b => S b ∧ b < H0.size) [rowE 22 vo (outF (mget m2) j : List (List Int)), mapE r46 (m2 : List (Int × (List Int))), blkE g49 (.cells #[vt, (Value.map (some r46))] 68), blkE g1 (.cells #[I (0), I (0)] 24), rdE vp (p : List Int), rdE vt (t : List Int)] H) ((mostL p).toNat - 0) ?_ ?_
  · exact ⟨0, (Value.slice none 0 0), rfl, Nat.zero_le _, a64_6, a64_7, a64_12, a64_13, (Eq.trans a64_14 (congrArg I (by omega))), (show St H0 NoB (fun b => S b ∧ b < H0.size) [rowE 22 (Value.slice none 0 0) (outF (mget m2) 0 : List (List Int)), mapE r46 (m2 : List (Int × (List Int))), blkE g49 (.cells #[vt, (Value.map (some r46))] 68), blkE g1 (.cells #[I (0), I (0)] 24), rdE vp (p : List Int), rdE vt (t : List Int)] H57 from hS63)⟩
  intro m65 f65 H65 hI65
  obtain ⟨j, vo, hm65, hj, a65_6, a65_7, a65_12, a65_13, a65_14, hS65⟩ := hI65
  clear a64_12 a64_13 a64_14 a64_6 a64_7
  refine wpF_seq ?_
  refine wpF_seq ?_
  refine wpF_cut (fun f H => f 6 = PT g1 0 ∧ f 7 = I (mostL p) ∧ f 12 = PT g49 0 ∧ f 13 = vo ∧ f 14 = I ((j : Int) + 1) ∧ f 75 = B (decide (((j : Int) + 1) ≤ (mostL p))) ∧ H65 = H) ?_ ?_
  · refine wpF_region ?_
    refine wpL_q (U := NoB) rfl (q_move (v := I ((j : Int) + 1)) rfl a65_14) ?_
    refine wpL_q (U := NoB) rfl (q_move (v := I (mostL p)) rfl a65_7) ?_
    refine wpL_q (U := NoB) rfl (q_leq rfl rfl rfl) ?_
    exact ⟨a65_6, a65_7, a65_12, a65_13, a65_14, rfl, rfl⟩
  rintro f66 _ ⟨a66_6, a66_7, a66_12, a66_13, a66_14, a66_75, rfl⟩
  clear a65_12 a65_13 a65_14 a65_6 a65_7
  refine wpF_condP a66_75 (fun hle => ?t89) (fun hle => ?e89)
  case e89 =>
    refine wpF_exit ?_
    refine atX_here ?_
    refine wpF_seq ?_
    refine wpF_cut (fun f H => f 4 = vo ∧ f 5 = B (true) ∧ f 6 = PT g1 0 ∧ St H0 NoB (fun b => S b ∧ b < H0.size) [blkE g1 (.cells #[I (0), I (0)] 24), rowE 22 vo (outF (mget m2) j : List (List Int)), mapE r46 (m2 : List (Int × (List Int))), blkE g49 (.cells #[vt, (Value.map (some r46))] 68), rdE vp (p : List Int), rdE vt (t : List Int)] H) ?_ ?_
    · refine wpF_region ?_
      refine wpL_q (U := NoB) rfl (q_move (v := vo) rfl a66_13) ?_
      refine wpL_q (U := NoB) rfl (q_build (v := Value.agg #[I (0), I (0)]) rfl par0 (fun w => by kernel_rfl)) ?_
      refine wpL_q (U := NoB) rfl (q_assign (v := vo) rfl rfl) ?_
      refine wpL_q (U := NoB) rfl (q_assign (v := B (true)) rfl rfl) ?_
      refine wpL_o rfl ?_
      refine e_storeBlkA (cs' := #[I (0), I (0)]) rfl a66_6 rfl Try.sizeOf24 rfl rfl (List.forall_mem_cons.2 ⟨rfl, List.forall_mem_cons.2 ⟨rfl, List.forall_mem_nil _⟩⟩) (hS65.front 3 rfl) (fun H85 hS86 hxx => ?_)
      replace hS86 : St H0 NoB (fun b => S b ∧ b < H0.size) [blkE g1 (.cells #[I (0), I (0)] 24), rowE 22 vo (outF (mget m2) j : List (List Int)), mapE r46 (m2 : List (Int × (List Int))), blkE g49 (.cells #[vt, (Value.map (some r46))] 68), rdE vp (p : List Int), rdE vt (t : List Int)] H85 := hS86
      exact ⟨rfl, rfl, a66_6, hS86⟩
    rintro f87 H87 ⟨a87_4, a87_5, a87_6, hS87⟩
    clear a66_12 a66_13 a66_14 a66_6 a66_7 a66_75
    refine wpF_ret ?_
    refine ⟨_, resT a87_4 (resT a87_5 (resC a87_6 (loadV_blkA Try.isAgg24 Try.sizeOf24 rfl (hS87.blk 0 rfl)) (resN))), hS87.frame, ?_⟩
    show ∃ rx, (Value.tuple #[vo, B (true), Value.agg #[I (0), I (0)]]) = Value.tuple #[rx, B (ropeAll p t).2.1, Value.agg #[I (ropeAll p t).2.2.1, I (ropeAll p t).2.2.2]] ∧ Rd (fun b => S b ∧ b < H0.size) H87 rx (ropeAll p t).1
    have hS88 : St H0 NoB (fun b => S b ∧ b < H0.size) [rdE vo (outF (mget m2) j : List (List Int)), blkE g1 (.cells #[I (0), I (0)] 24), mapE r46 (m2 : List (Int × (List Int))), blkE g49 (.cells #[vt, (Value.map (some r46))] 68), rdE vp (p : List Int), rdE vt (t : List Int)] H87 := St.fin (hS87.front 1 rfl)
    have heq := ropeAll_yes (fitFault_no hmany hgp hgt) hy
    have hj3 : (mostL p).toNat = j := by omega
    rw [hj3, ← hm2] at heq
    exact ⟨vo, by rw [heq], by rw [heq]; exact (hS88.result (hS88.rdS 0 rfl))⟩
  refine wpF_skip ?_
  refine wpF_seq ?_
  refine wpF_block ?_
  refine wpF_cut (fun f H => ∃ (v79 : Value), f 6 = PT g1 0 ∧ f 7 = I (mostL p) ∧ f 12 = PT g49 0 ∧ f 13 = v79 ∧ f 14 = I ((j : Int) + 1) ∧ St H0 NoB (fun b => S b ∧ b < H0.size) [rowE 22 v79 (outF (mget m2) (j + 1) : List (List Int)), mapE r46 (m2 : List (Int × (List Int))), blkE g49 (.cells #[vt, (Value.map (some r46))] 68), blkE g1 (.cells #[I (0), I (0)] 24), rdE vp (p : List Int), rdE vt (t : List Int)] H) ?_ ?_
  · refine wpF_region ?_
    refine wpL_q (U := NoB) rfl (q_move (v := vo) rfl a66_13) ?_
    refine wpL_q (U := NoB) rfl (q_move (v := PT g49 0) rfl a66_12) ?_
    refine wpL_q (U := NoB) rfl (q_nilCheck rfl rfl) ?_
    refine wpL_q (U := NoB) rfl (q_fieldAddr rfl Try.underlying68 rfl Try.sizeOf66 rfl) ?_
    refine wpL_q (U := NoB) rfl (q_loadBlk rfl rfl Try.isAgg66 (hS65.blk 2 rfl) rfl (fun h => h)) ?_
    refine wpL_q (U := NoB) rfl (q_move (v := I ((j : Int) + 1)) rfl a66_14) ?_
    refine wpL_q (U := NoB) rfl (q_neg rfl rfl (by constructor <;> omega)) ?_
    obtain ⟨u68, hlu68, hru68⟩ := lookD (t := 66) (d := ([] : List Int)) Try.underlying66 (keyLaw_int Try.underlying3) Try.zeroValue22 (fun _ _ => rdNil) (-((j : Int) + 1)) (hS65.get 1 rfl)
    have hS69 : St H0 NoB (fun b => S b ∧ b < H0.size) [rdE u68 ((mget m2 (-((j : Int) + 1))).getD [] : List Int), rowE 22 vo (outF (mget m2) j : List (List Int)), mapE r46 (m2 : List (Int × (List Int))), blkE g49 (.cells #[vt, (Value.map (some r46))] 68), blkE g1 (.cells #[I (0), I (0)] 24), rdE vp (p : List Int), rdE vt (t : List Int)] H65 := hS65.rd hru68
    refine wpL_q (U := NoB) rfl (q_lookup0 rfl rfl rfl (hlu68 _ (fun h => h))) ?_
    refine wpL_o rfl ?_
    refine e_call rfl Try.call45 (arr1 (v0 := u68) rfl) (Clone u68 _ (hS69.rdS 0 rfl)) ?_
    rintro r70 H71 ⟨hxx, hrr70⟩
    have hS72 : St H0 NoB (fun b => S b ∧ b < H0.size) [rdE r70 (((mget m2 (-((j : Int) + 1))).getD []) : List Int), rdE u68 ((mget m2 (-((j : Int) + 1))).getD [] : List Int), rowE 22 vo (outF (mget m2) j : List (List Int)), mapE r46 (m2 : List (Int × (List Int))), blkE g49 (.cells #[vt, (Value.map (some r46))] 68), blkE g1 (.cells #[I (0), I (0)] 24), rdE vp (p : List Int), rdE vt (t : List Int)] H71 := hS69.res hxx hrr70
    refine wpL_o rfl ?_
    refine e_buildSlice (vs := [r70]) (xs := ([((mget m2 (-((j : Int) + 1))).getD [])] : List (List Int))) rfl Try.underlying27 Try.zeroValue22 rfl Try.sizeOf22 (par1 (v0 := r70) rfl) rfl hS72 (RdVs.cons (hS72.rdS 0 rfl) (RdVs.nil)) (by decide) (by decide) (fun v74 H75 hS76 hxx hvv74 => ?_)
    replace hS76 : St H0 NoB (fun b => S b ∧ b < H0.size) [rowE 22 v74 ([((mget m2 (-((j : Int) + 1))).getD [])] : List (List Int)), rdE r70 (((mget m2 (-((j : Int) + 1))).getD []) : List Int), rdE u68 ((mget m2 (-((j : Int) + 1))).getD [] : List Int), rowE 22 vo (outF (mget m2) j : List (List Int)), mapE r46 (m2 : List (Int × (List Int))), blkE g49 (.cells #[vt, (Value.map (some r46))] 68), blkE g1 (.cells #[I (0), I (0)] 24), rdE vp (p : List Int), rdE vt (t : List Int)] H75 := hS76
    have hS77 : St H0 NoB (fun b => S b ∧ b < H0.size) [rdE v74 ([((mget m2 (-((j : Int) + 1))).getD [])] : List (List Int)), rdE r70 (((mget m2 (-((j : Int) + 1))).getD []) : List Int), rdE u68 ((mget m2 (-((j : Int) + 1))).getD [] : List Int), rowE 22 vo (outF (mget m2) j : List (List Int)), mapE r46 (m2 : List (Int × (List Int))), blkE g49 (.cells #[vt, (Value.map (some r46))] 68), blkE g1 (.cells #[I (0), I (0)] 24), rdE vp (p : List Int), rdE vt (t : List Int)] H75 := St.fin hS76
    have hS78 : St H0 NoB (fun b => S b ∧ b < H0.size) [rowE 22 vo (outF (mget m2) j : List (List Int)), rdE v74 ([((mget m2 (-((j : Int) + 1))).getD [])] : List (List Int)), rdE r70 (((mget m2 (-((j : Int) + 1))).getD []) : List Int), rdE u68 ((mget m2 (-((j : Int) + 1))).getD [] : List Int), mapE r46 (m2 : List (Int × (List Int))), blkE g49 (.cells #[vt, (Value.map (some r46))] 68), blkE g1 (.cells #[I (0), I (0)] 24), rdE vp (p : List Int), rdE vt (t : List Int)] H75 := (hS77.front 3 rfl)
    refine wpL_o rfl ?_
    refine e_append rfl Try.underlying27 em_LInt_22 rfl rfl hS78 (hS78.rdS 1 rfl) (fun _ h => h) (by have hb : GoT.bytes (List Int) = 24 := rfl; simp [outF, hb]; omega) (by decide) (fun v79 H80 hS81 hxx => ?_)
    replace hS81 : St H0 NoB (fun b => S b ∧ b < H0.size) [rowE 22 v79 ((outF (mget m2) j) ++ ([((mget m2 (-((j : Int) + 1))).getD [])]) : List (List Int)), rdE v74 ([((mget m2 (-((j : Int) + 1))).getD [])] : List (List Int)), rdE r70 (((mget m2 (-((j : Int) + 1))).getD []) : List Int), rdE u68 ((mget m2 (-((j : Int) + 1))).getD [] : List Int), mapE r46 (m2 : List (Int × (List Int))), blkE g49 (.cells #[vt, (Value.map (some r46))] 68), blkE g1 (.cells #[I (0), I (0)] 24), rdE vp (p : List Int), rdE vt (t : List Int)] H80 := hS81
    have hS82 : St H0 NoB (fun b => S b ∧ b < H0.size) [rowE 22 v79 (outF (mget m2) (j + 1) : List (List Int)), rdE v74 ([((mget m2 (-((j : Int) + 1))).getD [])] : List (List Int)), rdE r70 (((mget m2 (-((j : Int) + 1))).getD []) : List Int), rdE u68 ((mget m2 (-((j : Int) + 1))).getD [] : List Int), mapE r46 (m2 : List (Int × (List Int))), blkE g49 (.cells #[vt, (Value.map (some r46))] 68), blkE g1 (.cells #[I (0), I (0)] 24), rdE vp (p : List Int), rdE vt (t : List Int)] H80 := by rw [show (outF (mget m2) (j + 1)) = ((outF (mget m2) j) ++ ([((mget m2 (-((j : Int) + 1))).getD [])])) from (outF_next _ _)]; exact hS81
    refine wpL_q (U := NoB) rfl (q_assign (v := v79) rfl rfl) ?_
    exact ⟨v79, a66_6, a66_7, a66_12, rfl, a66_14, (hS82.drop (List.Sublist.cons_cons _ (List.Sublist.cons _ (List.Sublist.cons _ (List.Sublist.cons _ (List.Sublist.cons_cons _ (List.Sublist.cons_cons _ (List.Sublist.cons_cons _ (List.Sublist.cons_cons _ (List.Sublist.cons_cons _ (List.Sublist.slnil)))))))))))⟩
  rintro f83 H83 ⟨v79, a83_6, a83_7, a83_12, a83_13, a83_14, hS83⟩
  clear a66_12 a66_13 a66_14 a66_6 a66_7 a66_75
  refine wpF_cut (fun f H => f 6 = PT g1 0 ∧ f 7 = I (mostL p) ∧ f 12 = PT g49 0 ∧ f 13 = v79 ∧ f 14 = I (((j : Int) + 1) + 1) ∧ H83 = H) ?_ ?_
  · refine wpF_region ?_
    refine wpL_q (U := NoB) rfl (q_move (v := I ((j : Int) + 1)) rfl a83_14) ?_
    refine wpL_q (U := NoB) rfl (q_add rfl rfl rfl (by constructor <;> omega)) ?_
    refine wpL_q (U := NoB) rfl (q_assign (v := I (((j : Int) + 1) + 1)) rfl rfl) ?_
    exact ⟨a83_6, a83_7, a83_12, a83_13, rfl, rfl⟩
  rintro f84 _ ⟨a84_6, a84_7, a84_12, a84_13, a84_14, rfl⟩
  clear a83_12 a83_13 a83_14 a83_6 a83_7
  refine ⟨_, ?_, j + 1, v79, rfl, (by omega), a84_6, a84_7, a84_12, a84_13, (Eq.trans a84_14 (congrArg I (by omega))), hS83⟩
  omega

set_option maxRecDepth 100000 in
theorem Fit_R : ∀ (nn : Nat) {H0 : Heap} {S : Nat → Prop} (vp vt vi vk : Value) (p t : List Int) (is : List (List Int)) (told : List Bool) (m : Nat) (_rp : Rd S H0 vp p) (_rt : Rd S H0 vt t) (_ri : Rd S H0 vi is) (_rk : Rd S H0 vk told) (_hil : is.length = m) (_htl : told.length = m) (_hm3 : m ≤ 1000) (_hm : ∀ q ∈ p, -q ≤ m) (_hn : p.length = nn), CallsH Try.prog 18 #[vp, vt, vi, vk] H0 (fun rv_ H' => Ext NoB H0 H' ∧ ∃ rx y, rv_ = Value.tuple #[rx, B (fitR p t is told).isSome] ∧ Rd (fun b => S b ∧ b < H0.size) H' rx y ∧ ∀ l, fitR p t is told = some l → y = l) := by
  intro nn
  induction nn using Nat.strongRecOn with
  | _ nn ih =>
  intro H0 S vp vt vi vk p t is told m rp rt ri rk hil htl hm3 hm hnn
  have hsp := (Rd.list.1 rp).small
  have hst := (Rd.list.1 rt).small
  have hbt : t.length * 8 ≤ 140737488355328 := (Rd.list.1 rt).bound
  have hS0 : St H0 NoB (fun b => S b ∧ b < H0.size) [rdE vp (p : List Int), rdE vt (t : List Int), rdE vi (is : List (List Int)), rdE vk (told : List Bool)] H0 := St.arg (St.arg (St.arg (St.arg (St.start (fun _ h => h.2)) (Bl0.nil) rk (fun _ h => h.1)) (Bl0.cons (Bl0.nil)) ri (fun _ h => h.1)) (Bl0.cons (Bl0.cons (Bl0.nil))) rt (fun _ h => h.1)) (Bl0.cons (Bl0.cons (Bl0.cons (Bl0.nil)))) rp (fun _ h => h.1)
  refine callsH_of_wpF (args := [vp, vt, vi, vk]) (rs := [.tmp 8, .tmp 9]) Try.func18 rfl Try.ntmps18 Try.results18 (by kernel_rfl) (Nat.le_of_ble_eq_true rfl) ?_
  have a0_0 : argF [vp, vt, vi, vk] 0 = vp := rfl
  have a0_1 : argF [vp, vt, vi, vk] 1 = vt := rfl
  have a0_2 : argF [vp, vt, vi, vk] 2 = vi := rfl
  have a0_3 : argF [vp, vt, vi, vk] 3 = vk := rfl
  generalize argF [vp, vt, vi, vk] = f0 at *
  refine wpF_seq ?_
  refine wpF_cut (fun f H => f 0 = vp ∧ f 1 = vt ∧ f 2 = vi ∧ f 3 = vk ∧ H0 = H) ?_ ?_
  · refine wpF_region ?_
    refine wpL_q (U := NoB) rfl (q_assign (v := (Value.slice none 0 0)) rfl rfl) ?_
    refine wpL_q (U := NoB) rfl (q_assign (v := B (false)) rfl rfl) ?_
    exact ⟨a0_0, a0_1, a0_2, a0_3, rfl⟩
  rintro f1 _ ⟨a1_0, a1_1, a1_2, a1_3, rfl⟩
  clear a0_0 a0_1 a0_2 a0_3
  refine wpF_seq ?_
  refine wpF_seq ?_
  refine wpF_cut (fun f H => f 0 = vp ∧ f 1 = vt ∧ f 2 = vi ∧ f 3 = vk ∧ f 19 = B (decide ((p.length : Int) = 0)) ∧ H0 = H) ?_ ?_
  · refine wpF_region ?_
    refine wpL_q (U := NoB) rfl (q_move (v := vp) rfl a1_0) ?_
    refine wpL_q (U := NoB) rfl (q_lenRd rfl Try.underlying22 rfl (hS0.rdl 0 rfl)) ?_
    refine wpL_q (U := NoB) rfl (q_eql rfl rfl rfl) ?_
    exact ⟨a1_0, a1_1, a1_2, a1_3, rfl, rfl⟩
  rintro f2 _ ⟨a2_0, a2_1, a2_2, a2_3, a2_19, rfl⟩
  clear a1_0 a1_1 a1_2 a1_3
  refine wpF_condP a2_19 (fun hl0 => ?t73) (fun hl0 => ?e73)
  case t73 =>
    refine wpF_seq ?_
    refine wpF_cut (fun f H => f 8 = vi ∧ f 9 = B (decide ((t.length : Int) = 0)) ∧ H0 = H) ?_ ?_
    · refine wpF_region ?_
      refine wpL_q (U := NoB) rfl (q_move (v := vi) rfl a2_2) ?_
      refine wpL_q (U := NoB) rfl (q_move (v := vt) rfl a2_1) ?_
      refine wpL_q (U := NoB) rfl (q_lenRd rfl Try.underlying22 rfl (hS0.rdl 1 rfl)) ?_
      refine wpL_q (U := NoB) rfl (q_eql rfl rfl rfl) ?_
      refine wpL_q (U := NoB) rfl (q_assign (v := vi) rfl rfl) ?_
      refine wpL_q (U := NoB) rfl (q_assign (v := B (decide ((t.length : Int) = 0))) rfl rfl) ?_
      exact ⟨rfl, rfl, rfl⟩
    rintro f4 _ ⟨a4_8, a4_9, rfl⟩
    clear a2_0 a2_1 a2_19 a2_2 a2_3
    refine wpF_ret ?_
    refine ⟨_, resT a4_8 (resT a4_9 resN), hS0.frame, ?_⟩
    show ∃ rx y, (Value.tuple #[vi, B (decide ((t.length : Int) = 0))]) = Value.tuple #[rx, B (fitR p t is told).isSome] ∧ Rd (fun b => S b ∧ b < H0.size) H0 rx y ∧ ∀ l, fitR p t is told = some l → y = l
    have heq := fitR_nil (t := t) (is := is) (told := told) (by omega : p.length = 0)
    exact ⟨vi, is, by rw [heq]; by_cases h0 : t.length = 0 <;> simp [h0], (hS0.result (hS0.rdS 2 rfl)), by rw [heq]; intro l hl; split at hl <;> cases hl; rfl⟩
  have hlen : 0 < p.length := by omega
  refine wpF_skip ?_
  refine wpF_seq ?_
  refine wpF_seq ?_
  refine wpF_cut (fun f H => f 0 = vp ∧ f 1 = vt ∧ f 2 = vi ∧ f 3 = vk ∧ f 27 = B (decide (0 ≤ (nth p 0))) ∧ H0 = H) ?_ ?_
  · refine wpF_region ?_
    refine wpL_q (U := NoB) rfl (q_move (v := vp) rfl a2_0) ?_
    refine wpL_q (U := NoB) rfl (q_indexRd (k := 0) rfl Try.underlying22 el_Int_3 rfl rfl (hS0.rdl 0 rfl) (by omega) (by omega)) ?_
    refine wpL_q (U := NoB) rfl (q_loadInt (k := 0) rfl rfl el_Int_3 (hS0.rdl 0 rfl) (by omega) (fun _ h => h)) ?_
    refine wpL_q (U := NoB) rfl (q_geq rfl rfl rfl) ?_
    exact ⟨a2_0, a2_1, a2_2, a2_3, rfl, rfl⟩
  rintro f5 _ ⟨a5_0, a5_1, a5_2, a5_3, a5_27, rfl⟩
  clear a2_0 a2_1 a2_19 a2_2 a2_3
  refine wpF_condP a5_27 (fun hneg => ?t72) (fun hneg => ?e72)
  case t72 =>
    refine wpF_seq ?_
    refine wpF_seq ?_
    refine wpF_cut (fun f H => f 0 = vp ∧ f 1 = vt ∧ f 2 = vi ∧ f 3 = vk ∧ f 39 = B (decide (((t.length : Int) = 0) ∨ ((nth t 0) ≠ (nth p 0)))) ∧ H0 = H) ?_ ?_
    · refine wpF_drawn [] [] (fun _ _ => False) (by kernel_rfl) (by kernel_rfl) ?_
      refine wpR_q 0 (by kernel_rfl) rfl (quietAt rfl rfl (q_move (v := vt) rfl a5_1)) ?_
      refine wpR_q 1 (by kernel_rfl) rfl (quietAt rfl rfl (q_lenRd rfl Try.underlying22 rfl (hS0.rdl 1 rfl))) ?_
      refine wpR_q 2 (by kernel_rfl) rfl (quietAt rfl rfl (q_eql rfl rfl rfl)) ?_
      refine wpR_q 3 (by kernel_rfl) rfl (quietAt rfl rfl (q_move (v := B (decide ((t.length : Int) = 0))) rfl rfl)) ?_
      by_cases hg8 : (t.length : Int) = 0
      · have hb9 := Eq.trans rfl (congrArg B (decide_eq_true hg8))
        refine wpR_q 4 (by kernel_rfl) rfl (quietAt_s rfl rfl rfl rfl hb9 rfl) ?_
        refine wpR_q 5 (by kernel_rfl) rfl (quietAt_s rfl rfl rfl rfl hb9 rfl) ?_
        refine wpR_q 6 (by kernel_rfl) rfl (quietAt_s rfl rfl rfl rfl hb9 rfl) ?_
        refine wpR_q 7 (by kernel_rfl) rfl (quietAt_s rfl rfl rfl rfl hb9 rfl) ?_
        refine wpR_q 8 (by kernel_rfl) rfl (quietAt_s rfl rfl rfl rfl hb9 rfl) ?_
        refine wpR_q 9 (by kernel_rfl) rfl (quietAt_s rfl rfl rfl rfl hb9 rfl) ?_
        refine wpR_q 10 (by kernel_rfl) rfl (quietAt_s rfl rfl rfl rfl hb9 rfl) ?_
        refine wpR_q 11 (by kernel_rfl) rfl (quietAt rfl rfl (q_pickT (v := B (true)) rfl hb9 rfl)) ?_
        refine wpR_end (by kernel_rfl) ?_
        exact ⟨a5_0, a5_1, a5_2, a5_3, (Eq.trans rfl (congrArg B ((decide_eq_true (Or.inl hg8)).symm))), rfl⟩
      · have hb10 := Eq.trans rfl (congrArg B (decide_eq_false hg8))
        refine wpR_q 4 (by kernel_rfl) rfl (quietAt_g rfl rfl rfl rfl hb10 (q_move (v := vt) rfl a5_1)) ?_
        refine wpR_q 5 (by kernel_rfl) rfl (quietAt_g rfl rfl rfl rfl hb10 (q_indexRd (k := 0) rfl Try.underlying22 el_Int_3 rfl rfl (hS0.rdl 1 rfl) (by omega) (by omega))) ?_
        refine wpR_q 6 (by kernel_rfl) rfl (quietAt_g rfl rfl rfl rfl hb10 (q_loadInt (k := 0) rfl rfl el_Int_3 (hS0.rdl 1 rfl) (by omega) (labU_sub [] rfl (List.forall_mem_nil _)))) ?_
        refine wpR_q 7 (by kernel_rfl) rfl (quietAt_g rfl rfl rfl rfl hb10 (q_move (v := vp) rfl a5_0)) ?_
        refine wpR_q 8 (by kernel_rfl) rfl (quietAt_g rfl rfl rfl rfl hb10 (q_indexRd (k := 0) rfl Try.underlying22 el_Int_3 rfl rfl (hS0.rdl 0 rfl) (by omega) (by omega))) ?_
        refine wpR_q 9 (by kernel_rfl) rfl (quietAt_g rfl rfl rfl rfl hb10 (q_loadInt (k := 0) rfl rfl el_Int_3 (hS0.rdl 0 rfl) (by omega) (labU_sub [] rfl (List.forall_mem_nil _)))) ?_
        refine wpR_q 10 (by kernel_rfl) rfl (quietAt_g rfl rfl rfl rfl hb10 (q_neq rfl rfl rfl)) ?_
        refine wpR_q 11 (by kernel_rfl) rfl (quietAt rfl rfl (q_pickF (v := B (decide ((nth t 0) ≠ (nth p 0)))) rfl hb10 rfl)) ?_
        refine wpR_end (by kernel_rfl) ?_
        exact ⟨a5_0, a5_1, a5_2, a5_3, (Eq.trans rfl (congrArg B (decide_congr_of ((Iff.rfl).trans (((or_iff_right hg8).trans Iff.rfl)).symm)))), rfl⟩
    rintro f11 _ ⟨a11_0, a11_1, a11_2, a11_3, a11_39, rfl⟩
    clear a5_0 a5_1 a5_2 a5_27 a5_3
    refine wpF_condP a11_39 (fun hbad => ?t16) (fun hbad => ?e16)
    case t16 =>
      refine wpF_seq ?_
      refine wpF_cut (fun f H => f 8 = (Value.slice none 0 0) ∧ f 9 = B (false) ∧ H0 = H) ?_ ?_
      · refine wpF_region ?_
        refine wpL_q (U := NoB) rfl (q_assign (v := (Value.slice none 0 0)) rfl rfl) ?_
        refine wpL_q (U := NoB) rfl (q_assign (v := B (false)) rfl rfl) ?_
        exact ⟨rfl, rfl, rfl⟩
      rintro f13 _ ⟨a13_8, a13_9, rfl⟩
      clear a11_0 a11_1 a11_2 a11_3 a11_39
      refine wpF_ret ?_
      refine ⟨_, resT a13_8 (resT a13_9 resN), hS0.frame, ?_⟩
      show ∃ rx y, (Value.tuple #[(Value.slice none 0 0), B (false)]) = Value.tuple #[rx, B (fitR p t is told).isSome] ∧ Rd (fun b => S b ∧ b < H0.size) H0 rx y ∧ ∀ l, fitR p t is told = some l → y = l
      have heq : fitR p t is told = none := by rw [fitR_cons hlen, if_pos hneg, if_neg (by omega)]
      exact ⟨(Value.slice none 0 0), [], by rw [heq] <;> rfl, rdNil, (by rw [heq]; intro l hl; cases hl)⟩
    refine wpF_skip ?_
    refine wpF_seq ?_
    refine wpF_cut (fun f H => ∃ (r14o6 : Value), ∃ (y14o6 : List (List Int)), (∀ l, fitR (p.drop 1) (t.drop 1) is told = some l → y14o6 = l) ∧ f 8 = r14o6 ∧ f 9 = B ((fitR (p.drop 1) (t.drop 1) is told).isSome) ∧ St H0 NoB (fun b => S b ∧ b < H0.size) [rdE r14o6 (y14o6 : List (List Int)), rdE vp (p : List Int), rdE vt (t : List Int), rdE vi (is : List (List Int)), rdE vk (told : List Bool)] H) ?_ ?_
    · refine wpF_drawn [] [] (fun _ _ => False) (by kernel_rfl) (by kernel_rfl) ?_
      refine wpR_q 0 (by kernel_rfl) rfl (quietAt rfl rfl (q_move (v := vp) rfl a11_0)) ?_
      have hS14o1 : St H0 NoB (fun b => S b ∧ b < H0.size) [rdE (sliceV 1 vp 1 p.length) (p.drop 1 : List Int), rdE vp (p : List Int), rdE vt (t : List Int), rdE vi (is : List (List Int)), rdE vk (told : List Bool)] H0 := hS0.rd (Rd.list.2 (sliceV_lo (k := 1) (Rd.list.1 (hS0.rdS 0 rfl)) (by omega)))
      refine wpR_q 1 (by kernel_rfl) rfl (quietAt rfl rfl (q_sliceRd (k := 1) (m := p.length) rfl Try.underlying22 el_Int_3 rfl (hS0.rdl 0 rfl) (lo1 rfl (by omega)) hi0 (by omega) (by omega))) ?_
      refine wpR_q 2 (by kernel_rfl) rfl (quietAt rfl rfl (q_move (v := vt) rfl a11_1)) ?_
      have hS14o3 : St H0 NoB (fun b => S b ∧ b < H0.size) [rdE (sliceV 1 vt 1 t.length) (t.drop 1 : List Int), rdE (sliceV 1 vp 1 p.length) (p.drop 1 : List Int), rdE vp (p : List Int), rdE vt (t : List Int), rdE vi (is : List (List Int)), rdE vk (told : List Bool)] H0 := hS14o1.rd (Rd.list.2 (sliceV_lo (k := 1) (Rd.list.1 (hS14o1.rdS 2 rfl)) (by omega)))
      refine wpR_q 3 (by kernel_rfl) rfl (quietAt rfl rfl (q_sliceRd (k := 1) (m := t.length) rfl Try.underlying22 el_Int_3 rfl (hS14o1.rdl 2 rfl) (lo1 rfl (by omega)) hi0 (by omega) (by omega))) ?_
      refine wpR_q 4 (by kernel_rfl) rfl (quietAt rfl rfl (q_move (v := vi) rfl a11_2)) ?_
      refine wpR_q 5 (by kernel_rfl) rfl (quietAt rfl rfl (q_move (v := vk) rfl a11_3)) ?_
      refine wpR_n [6] (by kernel_rfl) ?_
      refine List.forall_mem_cons.2 ⟨?_, List.forall_mem_nil _⟩
      refine exE rfl rfl ?_
      refine e_call rfl Try.call18 (arr4 (v0 := (sliceV 1 vp 1 p.length)) (v1 := (sliceV 1 vt 1 t.length)) (v2 := vi) (v3 := vk) rfl rfl rfl rfl) (ih _ (by simp only [List.length_drop]; omega) ((sliceV 1 vp 1 p.length)) ((sliceV 1 vt 1 t.length)) vi vk (p.drop 1) (t.drop 1) is told _ (hS14o3.rdS 1 rfl) (hS14o3.rdS 0 rfl) (hS14o3.rdS 4 rfl) (hS14o3.rdS 5 rfl) (by simpa using hil) (by simpa using htl) hm3 (fun q hq => hm q (List.mem_of_mem_drop hq)) rfl) ?_
      rintro _ H14o6 ⟨hxx, r14o6, y14o6, rfl, hrr14o6, hyr14o6⟩
      have hS14o6 : St H0 NoB (fun b => S b ∧ b < H0.size) [rdE r14o6 (y14o6 : List (List Int)), rdE (sliceV 1 vt 1 t.length) (t.drop 1 : List Int), rdE (sliceV 1 vp 1 p.length) (p.drop 1 : List Int), rdE vp (p : List Int), rdE vt (t : List Int), rdE vi (is : List (List Int)), rdE vk (told : List Bool)] H14o6 := hS14o3.res hxx hrr14o6
      refine ⟨Ext.mono hxx (fun _ h => h.elim), ?_⟩
      refine wpR_q 7 (by kernel_rfl) rfl (quietAt rfl rfl (q_extract (vs := #[r14o6, B ((fitR (p.drop 1) (t.drop 1) is told).isSome)]) (v := r14o6) rfl rfl rfl)) ?_
      refine wpR_q 8 (by kernel_rfl) rfl (quietAt rfl rfl (q_extract (vs := #[r14o6, B ((fitR (p.drop 1) (t.drop 1) is told).isSome)]) (v := B ((fitR (p.drop 1) (t.drop 1) is told).isSome)) rfl rfl rfl)) ?_
      refine wpR_q 9 (by kernel_rfl) rfl (quietAt rfl rfl (q_assign (v := r14o6) rfl rfl)) ?_
      refine wpR_q 10 (by kernel_rfl) rfl (quietAt rfl rfl (q_assign (v := B ((fitR (p.drop 1) (t.drop 1) is told).isSome)) rfl rfl)) ?_
      refine wpR_end (by kernel_rfl) ?_
      exact ⟨r14o6, y14o6, hyr14o6, rfl, rfl, (hS14o6.drop (List.Sublist.cons_cons _ (List.Sublist.cons _ (List.Sublist.cons _ (List.Sublist.cons_cons _ (List.Sublist.cons_cons _ (List.Sublist.cons_cons _ (List.Sublist.cons_cons _ (List.Sublist.slnil)))))))))⟩
    rintro f15 H15 ⟨r14o6, y14o6, hyr14o6, a15_8, a15_9, hS15⟩
    clear a11_0 a11_1 a11_2 a11_3 a11_39
    refine wpF_ret ?_
    refine ⟨_, resT a15_8 (resT a15_9 resN), hS15.frame, ?_⟩
    show ∃ rx y, (Value.tuple #[r14o6, B ((fitR (p.drop 1) (t.drop 1) is told).isSome)]) = Value.tuple #[rx, B (fitR p t is told).isSome] ∧ Rd (fun b => S b ∧ b < H0.size) H15 rx y ∧ ∀ l, fitR p t is told = some l → y = l
    have heq : fitR p t is told = fitR (p.drop 1) (t.drop 1) is told := by rw [fitR_cons hlen, if_pos hneg, if_pos (by omega)]
    exact ⟨r14o6, y14o6, by rw [heq] <;> rfl, (hS15.result (hS15.rdS 0 rfl)), (by rw [heq]; exact hyr14o6)⟩
  have hp0 := hm _ (nth_mem hlen)
  have hin := (Rd.list.1 rp).in64 hlen
  refine wpF_skip ?_
  refine wpF_seq ?_
  refine wpF_cut (fun f H => f 0 = vp ∧ f 1 = vt ∧ f 2 = vi ∧ f 3 = vk ∧ f 10 = I ((-(nth p 0)) - 1) ∧ H0 = H) ?_ ?_
  · refine wpF_region ?_
    refine wpL_q (U := NoB) rfl (q_move (v := vp) rfl a5_0) ?_
    refine wpL_q (U := NoB) rfl (q_indexRd (k := 0) rfl Try.underlying22 el_Int_3 rfl rfl (hS0.rdl 0 rfl) (by omega) (by omega)) ?_
    refine wpL_q (U := NoB) rfl (q_loadInt (k := 0) rfl rfl el_Int_3 (hS0.rdl 0 rfl) (by omega) (fun _ h => h)) ?_
    refine wpL_q (U := NoB) rfl (q_neg rfl rfl (by constructor <;> omega)) ?_
    refine wpL_q (U := NoB) rfl (q_sub rfl rfl rfl (by constructor <;> omega)) ?_
    refine wpL_q (U := NoB) rfl (q_assign (v := I ((-(nth p 0)) - 1)) rfl rfl) ?_
    exact ⟨a5_0, a5_1, a5_2, a5_3, rfl, rfl⟩
  rintro f17 _ ⟨a17_0, a17_1, a17_2, a17_3, a17_10, rfl⟩
  clear a5_0 a5_1 a5_2 a5_27 a5_3
  refine wpF_seq ?_
  refine wpF_seq ?_
  refine wpF_cut (fun f H => f 0 = vp ∧ f 1 = vt ∧ f 2 = vi ∧ f 3 = vk ∧ f 10 = I ((-(nth p 0)) - 1) ∧ f 57 = B (nth told (((-(nth p 0)) - 1).toNat)) ∧ H0 = H) ?_ ?_
  · refine wpF_region ?_
    refine wpL_q (U := NoB) rfl (q_move (v := vk) rfl a17_3) ?_
    refine wpL_q (U := NoB) rfl (q_move (v := I ((-(nth p 0)) - 1)) rfl a17_10) ?_
    refine wpL_q (U := NoB) rfl (q_indexRd (k := ((-(nth p 0)) - 1).toNat) rfl Try.underlying32 el_Bool_4 rfl rfl (hS0.rdl 3 rfl) (by omega) (by omega)) ?_
    refine wpL_q (U := NoB) rfl (q_loadBool (k := ((-(nth p 0)) - 1).toNat) rfl rfl el_Bool_4 (hS0.rdl 3 rfl) (by omega) (fun _ h => h)) ?_
    exact ⟨a17_0, a17_1, a17_2, a17_3, a17_10, rfl, rfl⟩
  rintro f18 _ ⟨a18_0, a18_1, a18_2, a18_3, a18_10, a18_57, rfl⟩
  clear a17_0 a17_1 a17_10 a17_2 a17_3
  refine wpF_cond a18_57 (fun htold => ?t71) (fun htold => ?e71)
  case t71 =>
    refine wpF_seq ?_
    obtain ⟨u20, huu20, hlu20⟩ := (Rd.list.1 (hS0.rdS 2 rfl)).elem (((-(nth p 0)) - 1).toNat) (by omega)
    have hS21 : St H0 NoB (fun b => S b ∧ b < H0.size) [rdE u20 (nth is (((-(nth p 0)) - 1).toNat) : List Int), rdE vp (p : List Int), rdE vt (t : List Int), rdE vi (is : List (List Int)), rdE vk (told : List Bool)] H0 := hS0.rd huu20
    refine wpF_cut (fun f H => f 0 = vp ∧ f 1 = vt ∧ f 2 = vi ∧ f 3 = vk ∧ f 10 = I ((-(nth p 0)) - 1) ∧ f 11 = I (((nth is (((-(nth p 0)) - 1).toNat)).length : Int)) ∧ H0 = H) ?_ ?_
    · refine wpF_region ?_
      refine wpL_q (U := NoB) rfl (q_move (v := vi) rfl a18_2) ?_
      refine wpL_q (U := NoB) rfl (q_move (v := I ((-(nth p 0)) - 1)) rfl a18_10) ?_
      refine wpL_q (U := NoB) rfl (q_indexRd (k := ((-(nth p 0)) - 1).toNat) rfl Try.underlying27 el_LInt_22 rfl rfl (hS0.rdl 2 rfl) (by omega) (by omega)) ?_
      refine wpL_q (U := NoB) rfl (q_loadE rfl rfl (hlu20 Try.prog 22 _ el_LInt_22 (fun _ h => False.elim h))) ?_
      refine wpL_q (U := NoB) rfl (q_lenRd rfl Try.underlying22 rfl (hS21.rdl 0 rfl)) ?_
      refine wpL_q (U := NoB) rfl (q_assign (v := I (((nth is (((-(nth p 0)) - 1).toNat)).length : Int))) rfl rfl) ?_
      exact ⟨a18_0, a18_1, a18_2, a18_3, a18_10, rfl, rfl⟩
    rintro f22 _ ⟨a22_0, a22_1, a22_2, a22_3, a22_10, a22_11, rfl⟩
    clear a18_0 a18_1 a18_10 a18_2 a18_3 a18_57
    refine wpF_seq ?_
    refine wpF_seq ?_
    refine wpF_cut (fun f H => f 0 = vp ∧ f 1 = vt ∧ f 2 = vi ∧ f 3 = vk ∧ f 11 = I (((nth is (((-(nth p 0)) - 1).toNat)).length : Int)) ∧ f 77 = B (decide (((t.length : Int) < ((nth is (((-(nth p 0)) - 1).toNat)).length : Int)) ∨ (¬ ((t.take ((nth is (((-(nth p 0)) - 1).toNat)).length)) = (nth is (((-(nth p 0)) - 1).toNat)))))) ∧ St H0 NoB (fun b => S b ∧ b < H0.size) [rdE vp (p : List Int), rdE vt (t : List Int), rdE vi (is : List (List Int)), rdE vk (told : List Bool)] H) ?_ ?_
    · refine wpF_drawn [] [] (fun _ _ => False) (by kernel_rfl) (by kernel_rfl) ?_
      refine wpR_q 0 (by kernel_rfl) rfl (quietAt rfl rfl (q_move (v := I (((nth is (((-(nth p 0)) - 1).toNat)).length : Int))) rfl a22_11)) ?_
      refine wpR_q 1 (by kernel_rfl) rfl (quietAt rfl rfl (q_move (v := vt) rfl a22_1)) ?_
      refine wpR_q 2 (by kernel_rfl) rfl (quietAt rfl rfl (q_lenRd rfl Try.underlying22 rfl (hS0.rdl 1 rfl))) ?_
      refine wpR_q 3 (by kernel_rfl) rfl (quietAt rfl rfl (q_gtr rfl rfl rfl)) ?_
      refine wpR_q 4 (by kernel_rfl) rfl (quietAt rfl rfl (q_move (v := B (decide ((t.length : Int) < ((nth is (((-(nth p 0)) - 1).toNat)).length : Int)))) rfl rfl)) ?_
      by_cases hg24 : (t.length : Int) < ((nth is (((-(nth p 0)) - 1).toNat)).length : Int)
      · have hb25 := Eq.trans rfl (congrArg B (decide_eq_true hg24))
        refine wpR_q 5 (by kernel_rfl) rfl (quietAt_s rfl rfl rfl rfl hb25 rfl) ?_
        refine wpR_q 6 (by kernel_rfl) rfl (quietAt_s rfl rfl rfl rfl hb25 rfl) ?_
        refine wpR_q 7 (by kernel_rfl) rfl (quietAt_s rfl rfl rfl rfl hb25 rfl) ?_
        refine wpR_q 8 (by kernel_rfl) rfl (quietAt_s rfl rfl rfl rfl hb25 rfl) ?_
        refine wpR_q 9 (by kernel_rfl) rfl (quietAt_s rfl rfl rfl rfl hb25 rfl) ?_
        refine wpR_q 10 (by kernel_rfl) rfl (quietAt_s rfl rfl rfl rfl hb25 rfl) ?_
        refine wpR_q 11 (by kernel_rfl) rfl (quietAt_s rfl rfl rfl rfl hb25 rfl) ?_
        refine wpR_q 12 (by kernel_rfl) rfl (quietAt_s rfl rfl rfl rfl hb25 rfl) ?_
        refine wpR_q 13 (by kernel_rfl) rfl (quietAt_s rfl rfl rfl rfl hb25 rfl) ?_
        refine wpR_q 14 (by kernel_rfl) rfl (quietAt rfl rfl (q_pickT (v := B (true)) rfl hb25 rfl)) ?_
        refine wpR_end (by kernel_rfl) ?_
        exact ⟨a22_0, a22_1, a22_2, a22_3, a22_11, (Eq.trans rfl (congrArg B ((decide_eq_true (Or.inl hg24)).symm))), hS0⟩
      · have hb26 := Eq.trans rfl (congrArg B (decide_eq_false hg24))
        refine wpR_q 5 (by kernel_rfl) rfl (quietAt_g rfl rfl rfl rfl hb26 (q_move (v := vt) rfl a22_1)) ?_
        refine wpR_q 6 (by kernel_rfl) rfl (quietAt_g rfl rfl rfl rfl hb26 (q_move (v := I (((nth is (((-(nth p 0)) - 1).toNat)).length : Int))) rfl a22_11)) ?_
        have hS23o7 : St H0 NoB (fun b => S b ∧ b < H0.size) [rdE (sliceV 1 vt 0 ((nth is (((-(nth p 0)) - 1).toNat)).length)) (t.take ((nth is (((-(nth p 0)) - 1).toNat)).length) : List Int), rdE vp (p : List Int), rdE vt (t : List Int), rdE vi (is : List (List Int)), rdE vk (told : List Bool)] H0 := hS0.rd (Rd.list.2 (sliceV_hi (m := (nth is (((-(nth p 0)) - 1).toNat)).length) (Rd.list.1 (hS0.rdS 1 rfl)) (by omega)))
        refine wpR_q 7 (by kernel_rfl) rfl (quietAt_g rfl rfl rfl rfl hb26 (q_sliceRd (k := 0) (m := (nth is (((-(nth p 0)) - 1).toNat)).length) rfl Try.underlying22 el_Int_3 rfl (hS0.rdl 1 rfl) lo0 (lo1 rfl (by omega)) (by omega) (by omega))) ?_
        refine wpR_q 8 (by kernel_rfl) rfl (quietAt_g rfl rfl rfl rfl hb26 (q_move (v := vi) rfl a22_2)) ?_
        refine wpR_q 9 (by kernel_rfl) rfl (quietAt_g rfl rfl rfl rfl hb26 (q_move (v := I ((-(nth p 0)) - 1)) rfl a22_10)) ?_
        refine wpR_q 10 (by kernel_rfl) rfl (quietAt_g rfl rfl rfl rfl hb26 (q_indexRd (k := ((-(nth p 0)) - 1).toNat) rfl Try.underlying27 el_LInt_22 rfl rfl (hS23o7.rdl 3 rfl) (by omega) (by omega))) ?_
        obtain ⟨u23o11, huu23o11, hlu23o11⟩ := (Rd.list.1 (hS23o7.rdS 3 rfl)).elem (((-(nth p 0)) - 1).toNat) (by omega)
        have hS23o11 : St H0 NoB (fun b => S b ∧ b < H0.size) [rdE u23o11 (nth is (((-(nth p 0)) - 1).toNat) : List Int), rdE (sliceV 1 vt 0 ((nth is (((-(nth p 0)) - 1).toNat)).length)) (t.take ((nth is (((-(nth p 0)) - 1).toNat)).length) : List Int), rdE vp (p : List Int), rdE vt (t : List Int), rdE vi (is : List (List Int)), rdE vk (told : List Bool)] H0 := hS23o7.rd huu23o11
        refine wpR_q 11 (by kernel_rfl) rfl (quietAt_g rfl rfl rfl rfl hb26 (q_loadE rfl rfl (hlu23o11 Try.prog 22 _ el_LInt_22 (labU_sub [] rfl (List.forall_mem_nil _))))) ?_
        refine wpR_n [12] (by kernel_rfl) ?_
        refine List.forall_mem_cons.2 ⟨?_, List.forall_mem_nil _⟩
        refine exE_g rfl rfl rfl rfl hb26 ?_
        refine e_call rfl Try.call32 (arr2 (v0 := (sliceV 1 vt 0 ((nth is (((-(nth p 0)) - 1).toNat)).length))) (v1 := u23o11) rfl rfl) (Ints ((sliceV 1 vt 0 ((nth is (((-(nth p 0)) - 1).toNat)).length))) u23o11 _ _ (hS23o11.rdN 1 rfl) (hS23o11.rdN 0 rfl)) ?_
        rintro _ H23o12 ⟨hxx, rfl⟩
        have hS23o12 : St H0 NoB (fun b => S b ∧ b < H0.size) [rdE u23o11 (nth is (((-(nth p 0)) - 1).toNat) : List Int), rdE (sliceV 1 vt 0 ((nth is (((-(nth p 0)) - 1).toNat)).length)) (t.take ((nth is (((-(nth p 0)) - 1).toNat)).length) : List Int), rdE vp (p : List Int), rdE vt (t : List Int), rdE vi (is : List (List Int)), rdE vk (told : List Bool)] H23o12 := hS23o11.ext hxx
        refine ⟨Ext.mono hxx (fun _ h => h.elim), ?_⟩
        refine wpR_q 13 (by kernel_rfl) rfl (quietAt_g rfl rfl rfl rfl hb26 (q_notP rfl rfl)) ?_
        refine wpR_q 14 (by kernel_rfl) rfl (quietAt rfl rfl (q_pickF (v := B (decide (¬ ((t.take ((nth is (((-(nth p 0)) - 1).toNat)).length)) = (nth is (((-(nth p 0)) - 1).toNat)))))) rfl hb26 rfl)) ?_
        refine wpR_end (by kernel_rfl) ?_
        exact ⟨a22_0, a22_1, a22_2, a22_3, a22_11, (Eq.trans rfl (congrArg B (decide_congr_of (((not_congr Iff.rfl)).trans (((or_iff_right hg24).trans (not_congr Iff.rfl))).symm)))), (hS23o12.drop (List.Sublist.cons _ (List.Sublist.cons _ (List.Sublist.cons_cons _ (List.Sublist.cons_cons _ (List.Sublist.cons_cons _ (List.Sublist.cons_cons _ (List.Sublist.slnil))))))))⟩
    rintro f27 H27 ⟨a27_0, a27_1, a27_2, a27_3, a27_11, a27_77, hS27⟩
    clear a22_0 a22_1 a22_10 a22_11 a22_2 a22_3
    refine wpF_condP a27_77 (fun hbad => ?t32) (fun hbad => ?e32)
    case t32 =>
      refine wpF_seq ?_
      refine wpF_cut (fun f H => f 8 = (Value.slice none 0 0) ∧ f 9 = B (false) ∧ H27 = H) ?_ ?_
      · refine wpF_region ?_
        refine wpL_q (U := NoB) rfl (q_assign (v := (Value.slice none 0 0)) rfl rfl) ?_
        refine wpL_q (U := NoB) rfl (q_assign (v := B (false)) rfl rfl) ?_
        exact ⟨rfl, rfl, rfl⟩
      rintro f29 _ ⟨a29_8, a29_9, rfl⟩
      clear a27_0 a27_1 a27_11 a27_2 a27_3 a27_77
      refine wpF_ret ?_
      refine ⟨_, resT a29_8 (resT a29_9 resN), hS27.frame, ?_⟩
      show ∃ rx y, (Value.tuple #[(Value.slice none 0 0), B (false)]) = Value.tuple #[rx, B (fitR p t is told).isSome] ∧ Rd (fun b => S b ∧ b < H0.size) H27 rx y ∧ ∀ l, fitR p t is told = some l → y = l
      have heq : fitR p t is told = none := by rw [fitR_cons hlen, if_neg hneg, if_pos htold, if_neg (fun h => hbad.elim (fun h1 => by have := h.1; omega) (fun h1 => h1 h.2))]
      exact ⟨(Value.slice none 0 0), [], by rw [heq] <;> rfl, rdNil, (by rw [heq]; intro l hl; cases hl)⟩
    refine wpF_skip ?_
    refine wpF_seq ?_
    refine wpF_cut (fun f H => ∃ (r30o7 : Value), ∃ (y30o7 : List (List Int)), (∀ l, fitR (p.drop 1) (t.drop ((nth is (((-(nth p 0)) - 1).toNat)).length)) is told = some l → y30o7 = l) ∧ f 8 = r30o7 ∧ f 9 = B ((fitR (p.drop 1) (t.drop ((nth is (((-(nth p 0)) - 1).toNat)).length)) is told).isSome) ∧ St H0 NoB (fun b => S b ∧ b < H0.size) [rdE r30o7 (y30o7 : List (List Int)), rdE vp (p : List Int), rdE vt (t : List Int), rdE vi (is : List (List Int)), rdE vk (told : List Bool)] H) ?_ ?_
    · refine wpF_drawn [] [] (fun _ _ => False) (by kernel_rfl) (by kernel_rfl) ?_
      refine wpR_q 0 (by kernel_rfl) rfl (quietAt rfl rfl (q_move (v := vp) rfl a27_0)) ?_
      have hS30o1 : St H0 NoB (fun b => S b ∧ b < H0.size) [rdE (sliceV 1 vp 1 p.length) (p.drop 1 : List Int), rdE vp (p : List Int), rdE vt (t : List Int), rdE vi (is : List (List Int)), rdE vk (told : List Bool)] H27 := hS27.rd (Rd.list.2 (sliceV_lo (k := 1) (Rd.list.1 (hS27.rdS 0 rfl)) (by omega)))
      refine wpR_q 1 (by kernel_rfl) rfl (quietAt rfl rfl (q_sliceRd (k := 1) (m := p.length) rfl Try.underlying22 el_Int_3 rfl (hS27.rdl 0 rfl) (lo1 rfl (by omega)) hi0 (by omega) (by omega))) ?_
      refine wpR_q 2 (by kernel_rfl) rfl (quietAt rfl rfl (q_move (v := vt) rfl a27_1)) ?_
      refine wpR_q 3 (by kernel_rfl) rfl (quietAt rfl rfl (q_move (v := I (((nth is (((-(nth p 0)) - 1).toNat)).length : Int))) rfl a27_11)) ?_
      have hS30o4 : St H0 NoB (fun b => S b ∧ b < H0.size) [rdE (sliceV 1 vt ((nth is (((-(nth p 0)) - 1).toNat)).length) t.length) (t.drop ((nth is (((-(nth p 0)) - 1).toNat)).length) : List Int), rdE (sliceV 1 vp 1 p.length) (p.drop 1 : List Int), rdE vp (p : List Int), rdE vt (t : List Int), rdE vi (is : List (List Int)), rdE vk (told : List Bool)] H27 := hS30o1.rd (Rd.list.2 (sliceV_lo (k := (nth is (((-(nth p 0)) - 1).toNat)).length) (Rd.list.1 (hS30o1.rdS 2 rfl)) (by omega)))
      refine wpR_q 4 (by kernel_rfl) rfl (quietAt rfl rfl (q_sliceRd (k := (nth is (((-(nth p 0)) - 1).toNat)).length) (m := t.length) rfl Try.underlying22 el_Int_3 rfl (hS30o1.rdl 2 rfl) (lo1 rfl (by omega)) hi0 (by omega) (by omega))) ?_
      refine wpR_q 5 (by kernel_rfl) rfl (quietAt rfl rfl (q_move (v := vi) rfl a27_2)) ?_
      refine wpR_q 6 (by kernel_rfl) rfl (quietAt rfl rfl (q_move (v := vk) rfl a27_3)) ?_
      refine wpR_n [7] (by kernel_rfl) ?_
      refine List.forall_mem_cons.2 ⟨?_, List.forall_mem_nil _⟩
      refine exE rfl rfl ?_
      refine e_call rfl Try.call18 (arr4 (v0 := (sliceV 1 vp 1 p.length)) (v1 := (sliceV 1 vt ((nth is (((-(nth p 0)) - 1).toNat)).length) t.length)) (v2 := vi) (v3 := vk) rfl rfl rfl rfl) (ih _ (by simp only [List.length_drop]; omega) ((sliceV 1 vp 1 p.length)) ((sliceV 1 vt ((nth is (((-(nth p 0)) - 1).toNat)).length) t.length)) vi vk (p.drop 1) (t.drop ((nth is (((-(nth p 0)) - 1).toNat)).length)) is told _ (hS30o4.rdS 1 rfl) (hS30o4.rdS 0 rfl) (hS30o4.rdS 4 rfl) (hS30o4.rdS 5 rfl) (by simpa using hil) (by simpa using htl) hm3 (fun q hq => hm q (List.mem_of_mem_drop hq)) rfl) ?_
      rintro _ H30o7 ⟨hxx, r30o7, y30o7, rfl, hrr30o7, hyr30o7⟩
      have hS30o7 : St H0 NoB (fun b => S b ∧ b < H0.size) [rdE r30o7 (y30o7 : List (List Int)), rdE (sliceV 1 vt ((nth is (((-(nth p 0)) - 1).toNat)).length) t.length) (t.drop ((nth is (((-(nth p 0)) - 1).toNat)).length) : List Int), rdE (sliceV 1 vp 1 p.length) (p.drop 1 : List Int), rdE vp (p : List Int), rdE vt (t : List Int), rdE vi (is : List (List Int)), rdE vk (told : List Bool)] H30o7 := hS30o4.res hxx hrr30o7
      refine ⟨Ext.mono hxx (fun _ h => h.elim), ?_⟩
      refine wpR_q 8 (by kernel_rfl) rfl (quietAt rfl rfl (q_extract (vs := #[r30o7, B ((fitR (p.drop 1) (t.drop ((nth is (((-(nth p 0)) - 1).toNat)).length)) is told).isSome)]) (v := r30o7) rfl rfl rfl)) ?_
      refine wpR_q 9 (by kernel_rfl) rfl (quietAt rfl rfl (q_extract (vs := #[r30o7, B ((fitR (p.drop 1) (t.drop ((nth is (((-(nth p 0)) - 1).toNat)).length)) is told).isSome)]) (v := B ((fitR (p.drop 1) (t.drop ((nth is (((-(nth p 0)) - 1).toNat)).length)) is told).isSome)) rfl rfl rfl)) ?_
      refine wpR_q 10 (by kernel_rfl) rfl (quietAt rfl rfl (q_assign (v := r30o7) rfl rfl)) ?_
      refine wpR_q 11 (by kernel_rfl) rfl (quietAt rfl rfl (q_assign (v := B ((fitR (p.drop 1) (t.drop ((nth is (((-(nth p 0)) - 1).toNat)).length)) is told).isSome)) rfl rfl)) ?_
      refine wpR_end (by kernel_rfl) ?_
      exact ⟨r30o7, y30o7, hyr30o7, rfl, rfl, (hS30o7.drop (List.Sublist.cons_cons _ (List.Sublist.cons _ (List.Sublist.cons _ (List.Sublist.cons_cons _ (List.Sublist.cons_cons _ (List.Sublist.cons_cons _ (List.Sublist.cons_cons _ (List.Sublist.slnil)))))))))⟩
    rintro f31 H31 ⟨r30o7, y30o7, hyr30o7, a31_8, a31_9, hS31⟩
    clear a27_0 a27_1 a27_11 a27_2 a27_3 a27_77
    refine wpF_ret ?_
    refine ⟨_, resT a31_8 (resT a31_9 resN), hS31.frame, ?_⟩
    show ∃ rx y, (Value.tuple #[r30o7, B ((fitR (p.drop 1) (t.drop ((nth is (((-(nth p 0)) - 1).toNat)).length)) is told).isSome)]) = Value.tuple #[rx, B (fitR p t is told).isSome] ∧ Rd (fun b => S b ∧ b < H0.size) H31 rx y ∧ ∀ l, fitR p t is told = some l → y = l
    have heq : fitR p t is told = fitR (p.drop 1) (t.drop (nth is (-nth p 0 - 1).toNat).length) is told := by rw [fitR_cons hlen, if_neg hneg, if_pos htold, if_pos ⟨by omega, Decidable.of_not_not fun h => hbad (.inr h)⟩]
    exact ⟨r30o7, y30o7, by rw [heq] <;> rfl, (hS31.result (hS31.rdS 0 rfl)), (by rw [heq]; exact hyr30o7)⟩
  refine wpF_skip ?_
  refine wpF_seq ?_
  refine wpF_seq ?_
  refine wpF_cut (fun f H => f 0 = vp ∧ f 1 = vt ∧ f 2 = vi ∧ f 3 = vk ∧ f 10 = I ((-(nth p 0)) - 1) ∧ f 12 = I (0) ∧ H0 = H) ?_ ?_
  · refine wpF_region ?_
    refine wpL_q (U := NoB) rfl (q_assign (v := I (0)) rfl rfl) ?_
    exact ⟨a18_0, a18_1, a18_2, a18_3, a18_10, rfl, rfl⟩
  rintro f33 _ ⟨a33_0, a33_1, a33_2, a33_3, a33_10, a33_12, rfl⟩
  clear a18_0 a18_1 a18_10 a18_2 a18_3 a18_57
  refine wpF_block ?_
  refine wpF_loop (fun mz f H => ∃ (n : Nat), mz = t.length + 1 - n ∧ (n ≤ t.length + 1) ∧ (∀ j, j < n → fitR (p.drop 1) (t.drop j) (is.set (-nth p 0 - 1).toNat (t.take j)) (told.set (-nth p 0 - 1).toNat true) = none) ∧ f 0 = vp ∧ f 1 = vt ∧ f 2 = vi ∧ f 3 = vk ∧ f 10 = I ((-(nth p 0)) - 1) ∧ f 12 = I ((n : Int)) ∧ St H0 NoB (fun b => S b ∧ b < H0.size) [rdE vp (p : List Int), rdE vt (t : List Int), rdE vi (is : List (List Int)), rdE vk (told : List Bool)] H) (t.length + 1 - 0) ?_ ?_
  · exact ⟨0, rfl, (Nat.zero_le _), (fun j hj => absurd hj (Nat.not_lt_zero j)), a33_0, a33_1, a33_2, a33_3, a33_10, (Eq.trans a33_12 (congrArg I (by omega))), hS0⟩
  intro m34 f34 H34 hI34
  obtain ⟨n, hm34, hn, hloop, a34_0, a34_1, a34_2, a34_3, a34_10, a34_12, hS34⟩ := hI34
  clear a33_0 a33_1 a33_10 a33_12 a33_2 a33_3
  refine wpF_seq ?_
  refine wpF_seq ?_
  refine wpF_cut (fun f H => f 0 = vp ∧ f 1 = vt ∧ f 2 = vi ∧ f 3 = vk ∧ f 10 = I ((-(nth p 0)) - 1) ∧ f 12 = I ((n : Int)) ∧ f 91 = B (decide ((n : Int) ≤ (t.length : Int))) ∧ H34 = H) ?_ ?_
  · refine wpF_region ?_
    refine wpL_q (U := NoB) rfl (q_move (v := I ((n : Int))) rfl a34_12) ?_
    refine wpL_q (U := NoB) rfl (q_move (v := vt) rfl a34_1) ?_
    refine wpL_q (U := NoB) rfl (q_lenRd rfl Try.underlying22 rfl (hS34.rdl 1 rfl)) ?_
    refine wpL_q (U := NoB) rfl (q_leq rfl rfl rfl) ?_
    exact ⟨a34_0, a34_1, a34_2, a34_3, a34_10, a34_12, rfl, rfl⟩
  rintro f35 _ ⟨a35_0, a35_1, a35_2, a35_3, a35_10, a35_12, a35_91, rfl⟩
  clear a34_0 a34_1 a34_10 a34_12 a34_2 a34_3
  refine wpF_condP a35_91 (fun hlt => ?t70) (fun hlt => ?e70)
  case e70 =>
    refine wpF_exit ?_
    refine atX_here ?_
    refine wpF_seq ?_
    refine wpF_cut (fun f H => f 8 = (Value.slice none 0 0) ∧ f 9 = B (false) ∧ H34 = H) ?_ ?_
    · refine wpF_region ?_
      refine wpL_q (U := NoB) rfl (q_assign (v := (Value.slice none 0 0)) rfl rfl) ?_
      refine wpL_q (U := NoB) rfl (q_assign (v := B (false)) rfl rfl) ?_
      exact ⟨rfl, rfl, rfl⟩
    rintro f69 _ ⟨a69_8, a69_9, rfl⟩
    clear a35_0 a35_1 a35_10 a35_12 a35_2 a35_3 a35_91
    refine wpF_ret ?_
    refine ⟨_, resT a69_8 (resT a69_9 resN), hS34.frame, ?_⟩
    show ∃ rx y, (Value.tuple #[(Value.slice none 0 0), B (false)]) = Value.tuple #[rx, B (fitR p t is told).isSome] ∧ Rd (fun b => S b ∧ b < H0.size) H34 rx y ∧ ∀ l, fitR p t is told = some l → y = l
    have heq := fitR_lost hlen hneg htold hloop (by omega)
    exact ⟨(Value.slice none 0 0), [], by rw [heq] <;> rfl, rdNil, (by rw [heq]; intro l hl; cases hl)⟩
  refine wpF_skip ?_
  refine wpF_seq ?_
  refine wpF_block ?_
  refine wpF_seq ?_
  refine wpF_cut (fun f H => f 0 = vp ∧ f 1 = vt ∧ f 2 = vi ∧ f 3 = vk ∧ f 10 = I ((-(nth p 0)) - 1) ∧ f 12 = I ((n : Int)) ∧ f 13 = (Value.slice none 0 0) ∧ H34 = H) ?_ ?_
  · refine wpF_region ?_
    refine wpL_q (U := NoB) rfl (q_assign (v := (Value.slice none 0 0)) rfl rfl) ?_
    exact ⟨a35_0, a35_1, a35_2, a35_3, a35_10, a35_12, rfl, rfl⟩
  rintro f37 _ ⟨a37_0, a37_1, a37_2, a37_3, a37_10, a37_12, a37_13, rfl⟩
  clear a35_0 a35_1 a35_10 a35_12 a35_2 a35_3 a35_91
  refine wpF_seq ?_
  refine wpF_cut (fun f H => ∃ (v40 : Value), f 0 = vp ∧ f 1 = vt ∧ f 2 = vi ∧ f 3 = vk ∧ f 10 = I ((-(nth p 0)) - 1) ∧ f 12 = I ((n : Int)) ∧ f 13 = v40 ∧ St H0 NoB (fun b => S b ∧ b < H0.size) [rowE 22 v40 (is : List (List Int)), rdE vp (p : List Int), rdE vt (t : List Int), rdE vi (is : List (List Int)), rdE vk (told : List Bool)] H) ?_ ?_
  · refine wpF_region ?_
    refine wpL_q (U := NoB) rfl (q_move (v := (Value.slice none 0 0)) rfl a37_13) ?_
    refine wpL_q (U := NoB) rfl (q_move (v := vi) rfl a37_2) ?_
    have hS38 : St H0 NoB (fun b => S b ∧ b < H0.size) [rowE 22 (Value.slice none 0 0) ([] : List (List Int)), rdE vp (p : List Int), rdE vt (t : List Int), rdE vi (is : List (List Int)), rdE vk (told : List Bool)] H34 := hS34.row0 22
    have hS39 : St H0 NoB (fun b => S b ∧ b < H0.size) [rowE 22 (Value.slice none 0 0) ([] : List (List Int)), rdE vp (p : List Int), rdE vt (t : List Int), rdE vi (is : List (List Int)), rdE vk (told : List Bool)] H34 := hS38
    refine wpL_o rfl ?_
    refine e_append rfl Try.underlying27 em_LInt_22 rfl rfl hS39 (hS39.rdS 3 rfl) (fun _ h => h) (by have hb : GoT.bytes (List Int) = 24 := rfl; simp [hb]; omega) (by decide) (fun v40 H41 hS42 hxx => ?_)
    replace hS42 : St H0 NoB (fun b => S b ∧ b < H0.size) [rowE 22 v40 (is : List (List Int)), rdE vp (p : List Int), rdE vt (t : List Int), rdE vi (is : List (List Int)), rdE vk (told : List Bool)] H41 := by simpa using hS42
    refine wpL_q (U := NoB) rfl (q_assign (v := v40) rfl rfl) ?_
    exact ⟨v40, a37_0, a37_1, a37_2, a37_3, a37_10, a37_12, rfl, hS42⟩
  rintro f43 H43 ⟨v40, a43_0, a43_1, a43_2, a43_3, a43_10, a43_12, a43_13, hS43⟩
  clear a37_0 a37_1 a37_10 a37_12 a37_13 a37_2 a37_3
  refine wpF_seq ?_
  refine wpF_cut (fun f H => f 0 = vp ∧ f 1 = vt ∧ f 2 = vi ∧ f 3 = vk ∧ f 10 = I ((-(nth p 0)) - 1) ∧ f 12 = I ((n : Int)) ∧ f 13 = v40 ∧ St H0 NoB (fun b => S b ∧ b < H0.size) [rowE 22 v40 (is.set (((-(nth p 0)) - 1).toNat) (t.take n) : List (List Int)), rdE vp (p : List Int), rdE vt (t : List Int), rdE vi (is : List (List Int)), rdE vk (told : List Bool)] H) ?_ ?_
  · refine wpF_region ?_
    refine wpL_q (U := NoB) rfl (q_move (v := v40) rfl a43_13) ?_
    refine wpL_q (U := NoB) rfl (q_move (v := I ((-(nth p 0)) - 1)) rfl a43_10) ?_
    refine wpL_q (U := NoB) rfl (q_move (v := vt) rfl a43_1) ?_
    refine wpL_q (U := NoB) rfl (q_move (v := I ((n : Int))) rfl a43_12) ?_
    have hS44 : St H0 NoB (fun b => S b ∧ b < H0.size) [rdE (sliceV 1 vt 0 n) (t.take n : List Int), rowE 22 v40 (is : List (List Int)), rdE vp (p : List Int), rdE vt (t : List Int), rdE vi (is : List (List Int)), rdE vk (told : List Bool)] H43 := hS43.rd (Rd.list.2 (sliceV_hi (m := n) (Rd.list.1 (hS43.rdS 2 rfl)) (by omega)))
    refine wpL_q (U := NoB) rfl (q_sliceRd (k := 0) (m := n) rfl Try.underlying22 el_Int_3 rfl (hS43.rdl 2 rfl) lo0 (lo1 rfl (by omega)) (by omega) (by omega)) ?_
    refine wpL_q (U := NoB) rfl (q_indexRd (k := ((-(nth p 0)) - 1).toNat) rfl Try.underlying27 el_LInt_22 rfl rfl (hS44.rowl 1 rfl) (by omega) (by omega)) ?_
    have hS45 : St H0 NoB (fun b => S b ∧ b < H0.size) [rowE 22 v40 (is : List (List Int)), rdE (sliceV 1 vt 0 n) (t.take n : List Int), rdE vp (p : List Int), rdE vt (t : List Int), rdE vi (is : List (List Int)), rdE vk (told : List Bool)] H43 := (hS44.front 1 rfl)
    refine wpL_o rfl ?_
    refine e_rowSet (k := ((-(nth p 0)) - 1).toNat) (u := (sliceV 1 vt 0 n)) rfl rfl rfl rfl Try.sizeOf22 (by first | (simp; omega) | omega) hS45 (hS45.rdS 1 rfl) (fun H46 hS47 hxx => ?_)
    replace hS47 : St H0 NoB (fun b => S b ∧ b < H0.size) [rowE 22 v40 (is.set (((-(nth p 0)) - 1).toNat) (t.take n) : List (List Int)), rdE (sliceV 1 vt 0 n) (t.take n : List Int), rdE vp (p : List Int), rdE vt (t : List Int), rdE vi (is : List (List Int)), rdE vk (told : List Bool)] H46 := hS47
    exact ⟨a43_0, a43_1, a43_2, a43_3, a43_10, a43_12, a43_13, (hS47.drop (List.Sublist.cons_cons _ (List.Sublist.cons _ (List.Sublist.cons_cons _ (List.Sublist.cons_cons _ (List.Sublist.cons_cons _ (List.Sublist.cons_cons _ (List.Sublist.slnil))))))))⟩
  rintro f48 H48 ⟨a48_0, a48_1, a48_2, a48_3, a48_10, a48_12, a48_13, hS48⟩
  clear a43_0 a43_1 a43_10 a43_12 a43_13 a43_2 a43_3
  refine wpF_seq ?_
  refine wpF_cut (fun f H => f 0 = vp ∧ f 1 = vt ∧ f 2 = vi ∧ f 3 = vk ∧ f 10 = I ((-(nth p 0)) - 1) ∧ f 12 = I ((n : Int)) ∧ f 13 = v40 ∧ f 14 = (Value.slice none 0 0) ∧ H48 = H) ?_ ?_
  · refine wpF_region ?_
    refine wpL_q (U := NoB) rfl (q_assign (v := (Value.slice none 0 0)) rfl rfl) ?_
    exact ⟨a48_0, a48_1, a48_2, a48_3, a48_10, a48_12, a48_13, rfl, rfl⟩
  rintro f49 _ ⟨a49_0, a49_1, a49_2, a49_3, a49_10, a49_12, a49_13, a49_14, rfl⟩
  clear a48_0 a48_1 a48_10 a48_12 a48_13 a48_2 a48_3
  refine wpF_seq ?_
  refine wpF_cut (fun f H => ∃ (v52 : Value), f 0 = vp ∧ f 1 = vt ∧ f 2 = vi ∧ f 3 = vk ∧ f 10 = I ((-(nth p 0)) - 1) ∧ f 12 = I ((n : Int)) ∧ f 13 = v40 ∧ f 14 = v52 ∧ St H0 NoB (fun b => S b ∧ b < H0.size) [rowE 4 v52 (told : List Bool), rowE 22 v40 (is.set (((-(nth p 0)) - 1).toNat) (t.take n) : List (List Int)), rdE vp (p : List Int), rdE vt (t : List Int), rdE vi (is : List (List Int)), rdE vk (told : List Bool)] H) ?_ ?_
  · refine wpF_region ?_
    refine wpL_q (U := NoB) rfl (q_move (v := (Value.slice none 0 0)) rfl a49_14) ?_
    refine wpL_q (U := NoB) rfl (q_move (v := vk) rfl a49_3) ?_
    have hS50 : St H0 NoB (fun b => S b ∧ b < H0.size) [rowE 4 (Value.slice none 0 0) ([] : List Bool), rowE 22 v40 (is.set (((-(nth p 0)) - 1).toNat) (t.take n) : List (List Int)), rdE vp (p : List Int), rdE vt (t : List Int), rdE vi (is : List (List Int)), rdE vk (told : List Bool)] H48 := hS48.row0 4
    have hS51 : St H0 NoB (fun b => S b ∧ b < H0.size) [rowE 4 (Value.slice none 0 0) ([] : List Bool), rowE 22 v40 (is.set (((-(nth p 0)) - 1).toNat) (t.take n) : List (List Int)), rdE vp (p : List Int), rdE vt (t : List Int), rdE vi (is : List (List Int)), rdE vk (told : List Bool)] H48 := hS50
    refine wpL_o rfl ?_
    refine e_append rfl Try.underlying32 em_Bool_4 rfl rfl hS51 (hS51.rdS 5 rfl) (fun _ h => h) (by have hb : GoT.bytes Bool = 1 := rfl; simp [hb]; omega) (by decide) (fun v52 H53 hS54 hxx => ?_)
    replace hS54 : St H0 NoB (fun b => S b ∧ b < H0.size) [rowE 4 v52 (told : List Bool), rowE 22 v40 (is.set (((-(nth p 0)) - 1).toNat) (t.take n) : List (List Int)), rdE vp (p : List Int), rdE vt (t : List Int), rdE vi (is : List (List Int)), rdE vk (told : List Bool)] H53 := by simpa using hS54
    refine wpL_q (U := NoB) rfl (q_assign (v := v52) rfl rfl) ?_
    exact ⟨v52, a49_0, a49_1, a49_2, a49_3, a49_10, a49_12, a49_13, rfl, hS54⟩
  rintro f55 H55 ⟨v52, a55_0, a55_1, a55_2, a55_3, a55_10, a55_12, a55_13, a55_14, hS55⟩
  clear a49_0 a49_1 a49_10 a49_12 a49_13 a49_14 a49_2 a49_3
  refine wpF_seq ?_
  refine wpF_cut (fun f H => f 0 = vp ∧ f 1 = vt ∧ f 2 = vi ∧ f 3 = vk ∧ f 10 = I ((-(nth p 0)) - 1) ∧ f 12 = I ((n : Int)) ∧ f 13 = v40 ∧ f 14 = v52 ∧ St H0 NoB (fun b => S b ∧ b < H0.size) [rowE 4 v52 (told.set (((-(nth p 0)) - 1).toNat) true : List Bool), rowE 22 v40 (is.set (((-(nth p 0)) - 1).toNat) (t.take n) : List (List Int)), rdE vp (p : List Int), rdE vt (t : List Int), rdE vi (is : List (List Int)), rdE vk (told : List Bool)] H) ?_ ?_
  · refine wpF_region ?_
    refine wpL_q (U := NoB) rfl (q_move (v := v52) rfl a55_14) ?_
    refine wpL_q (U := NoB) rfl (q_move (v := I ((-(nth p 0)) - 1)) rfl a55_10) ?_
    refine wpL_q (U := NoB) rfl (q_indexRd (k := ((-(nth p 0)) - 1).toNat) rfl Try.underlying32 el_Bool_4 rfl rfl (hS55.rowl 0 rfl) (by omega) (by omega)) ?_
    have hS56 : St H0 NoB (fun b => S b ∧ b < H0.size) [rowE 4 v52 (told : List Bool), rowE 22 v40 (is.set (((-(nth p 0)) - 1).toNat) (t.take n) : List (List Int)), rdE vp (p : List Int), rdE vt (t : List Int), rdE vi (is : List (List Int)), rdE vk (told : List Bool)] H55 := hS55
    refine wpL_o rfl ?_
    refine e_rowSet (k := ((-(nth p 0)) - 1).toNat) (u := B (true)) rfl rfl rfl rfl Try.sizeOf4 (by first | (simp; omega) | omega) hS56 (Rd.bool.2 rfl) (fun H57 hS58 hxx => ?_)
    replace hS58 : St H0 NoB (fun b => S b ∧ b < H0.size) [rowE 4 v52 (told.set (((-(nth p 0)) - 1).toNat) true : List Bool), rowE 22 v40 (is.set (((-(nth p 0)) - 1).toNat) (t.take n) : List (List Int)), rdE vp (p : List Int), rdE vt (t : List Int), rdE vi (is : List (List Int)), rdE vk (told : List Bool)] H57 := hS58
    exact ⟨a55_0, a55_1, a55_2, a55_3, a55_10, a55_12, a55_13, a55_14, hS58⟩
  rintro f59 H59 ⟨a59_0, a59_1, a59_2, a59_3, a59_10, a59_12, a59_13, a59_14, hS59⟩
  clear a55_0 a55_1 a55_10 a55_12 a55_13 a55_14 a55_2 a55_3
  refine wpF_seq ?_
  have hS60 : St H0 NoB (fun b => S b ∧ b < H0.size) [rdE v40 (is.set (((-(nth p 0)) - 1).toNat) (t.take n) : List (List Int)), rowE 4 v52 (told.set (((-(nth p 0)) - 1).toNat) true : List Bool), rdE vp (p : List Int), rdE vt (t : List Int), rdE vi (is : List (List Int)), rdE vk (told : List Bool)] H59 := St.fin (hS59.front 1 rfl)
  have hS61 : St H0 NoB (fun b => S b ∧ b < H0.size) [rdE v52 (told.set (((-(nth p 0)) - 1).toNat) true : List Bool), rdE v40 (is.set (((-(nth p 0)) - 1).toNat) (t.take n) : List (List Int)), rdE vp (p : List Int), rdE vt (t : List Int), rdE vi (is : List (List Int)), rdE vk (told : List Bool)] H59 := St.fin (hS60.front 1 rfl)
  refine wpF_cut (fun f H => ∃ (r62o7 : Value), ∃ (y62o7 : List (List Int)), (∀ l, fitR (p.drop 1) (t.drop n) (is.set (((-(nth p 0)) - 1).toNat) (t.take n)) (told.set (((-(nth p 0)) - 1).toNat) true) = some l → y62o7 = l) ∧ f 0 = vp ∧ f 1 = vt ∧ f 2 = vi ∧ f 3 = vk ∧ f 10 = I ((-(nth p 0)) - 1) ∧ f 12 = I ((n : Int)) ∧ f 15 = r62o7 ∧ f 16 = B ((fitR (p.drop 1) (t.drop n) (is.set (((-(nth p 0)) - 1).toNat) (t.take n)) (told.set (((-(nth p 0)) - 1).toNat) true)).isSome) ∧ St H0 NoB (fun b => S b ∧ b < H0.size) [rdE r62o7 (y62o7 : List (List Int)), rdE vp (p : List Int), rdE vt (t : List Int), rdE vi (is : List (List Int)), rdE vk (told : List Bool)] H) ?_ ?_
  · refine wpF_drawn [] [] (fun _ _ => False) (by kernel_rfl) (by kernel_rfl) ?_
    refine wpR_q 0 (by kernel_rfl) rfl (quietAt rfl rfl (q_move (v := vp) rfl a59_0)) ?_
    have hS62o1 : St H0 NoB (fun b => S b ∧ b < H0.size) [rdE (sliceV 1 vp 1 p.length) (p.drop 1 : List Int), rdE v52 (told.set (((-(nth p 0)) - 1).toNat) true : List Bool), rdE v40 (is.set (((-(nth p 0)) - 1).toNat) (t.take n) : List (List Int)), rdE vp (p : List Int), rdE vt (t : List Int), rdE vi (is : List (List Int)), rdE vk (told : List Bool)] H59 := hS61.rd (Rd.list.2 (sliceV_lo (k := 1) (Rd.list.1 (hS61.rdS 2 rfl)) (by omega)))
    refine wpR_q 1 (by kernel_rfl) rfl (quietAt rfl rfl (q_sliceRd (k := 1) (m := p.length) rfl Try.underlying22 el_Int_3 rfl (hS61.rdl 2 rfl) (lo1 rfl (by omega)) hi0 (by omega) (by omega))) ?_
    refine wpR_q 2 (by kernel_rfl) rfl (quietAt rfl rfl (q_move (v := vt) rfl a59_1)) ?_
    refine wpR_q 3 (by kernel_rfl) rfl (quietAt rfl rfl (q_move (v := I ((n : Int))) rfl a59_12)) ?_
    have hS62o4 : St H0 NoB (fun b => S b ∧ b < H0.size) [rdE (sliceV 1 vt n t.length) (t.drop n : List Int), rdE (sliceV 1 vp 1 p.length) (p.drop 1 : List Int), rdE v52 (told.set (((-(nth p 0)) - 1).toNat) true : List Bool), rdE v40 (is.set (((-(nth p 0)) - 1).toNat) (t.take n) : List (List Int)), rdE vp (p : List Int), rdE vt (t : List Int), rdE vi (is : List (List Int)), rdE vk (told : List Bool)] H59 := hS62o1.rd (Rd.list.2 (sliceV_lo (k := n) (Rd.list.1 (hS62o1.rdS 4 rfl)) (by omega)))
    refine wpR_q 4 (by kernel_rfl) rfl (quietAt rfl rfl (q_sliceRd (k := n) (m := t.length) rfl Try.underlying22 el_Int_3 rfl (hS62o1.rdl 4 rfl) (lo1 rfl (by omega)) hi0 (by omega) (by omega))) ?_
    refine wpR_q 5 (by kernel_rfl) rfl (quietAt rfl rfl (q_move (v := v40) rfl a59_13)) ?_
    refine wpR_q 6 (by kernel_rfl) rfl (quietAt rfl rfl (q_move (v := v52) rfl a59_14)) ?_
    refine wpR_n [7] (by kernel_rfl) ?_
    refine List.forall_mem_cons.2 ⟨?_, List.forall_mem_nil _⟩
    refine exE rfl rfl ?_
    refine e_call rfl Try.call18 (arr4 (v0 := (sliceV 1 vp 1 p.length)) (v1 := (sliceV 1 vt n t.length)) (v2 := v40) (v3 := v52) rfl rfl rfl rfl) (ih _ (by simp only [List.length_drop]; omega) ((sliceV 1 vp 1 p.length)) ((sliceV 1 vt n t.length)) v40 v52 (p.drop 1) (t.drop n) (is.set (((-(nth p 0)) - 1).toNat) (t.take n)) (told.set (((-(nth p 0)) - 1).toNat) true) _ (hS62o4.rdS 1 rfl) (hS62o4.rdS 0 rfl) (hS62o4.rdS 3 rfl) (hS62o4.rdS 2 rfl) (by simpa using hil) (by simpa using htl) hm3 (fun q hq => hm q (List.mem_of_mem_drop hq)) rfl) ?_
    rintro _ H62o7 ⟨hxx, r62o7, y62o7, rfl, hrr62o7, hyr62o7⟩
    have hS62o7 : St H0 NoB (fun b => S b ∧ b < H0.size) [rdE r62o7 (y62o7 : List (List Int)), rdE (sliceV 1 vt n t.length) (t.drop n : List Int), rdE (sliceV 1 vp 1 p.length) (p.drop 1 : List Int), rdE v52 (told.set (((-(nth p 0)) - 1).toNat) true : List Bool), rdE v40 (is.set (((-(nth p 0)) - 1).toNat) (t.take n) : List (List Int)), rdE vp (p : List Int), rdE vt (t : List Int), rdE vi (is : List (List Int)), rdE vk (told : List Bool)] H62o7 := hS62o4.res hxx hrr62o7
    refine ⟨Ext.mono hxx (fun _ h => h.elim), ?_⟩
    refine wpR_q 8 (by kernel_rfl) rfl (quietAt rfl rfl (q_move (v := Value.tuple #[r62o7, B ((fitR (p.drop 1) (t.drop n) (is.set (((-(nth p 0)) - 1).toNat) (t.take n)) (told.set (((-(nth p 0)) - 1).toNat) true)).isSome)]) rfl rfl)) ?_
    refine wpR_q 9 (by kernel_rfl) rfl (quietAt rfl rfl (q_extract (vs := #[r62o7, B ((fitR (p.drop 1) (t.drop n) (is.set (((-(nth p 0)) - 1).toNat) (t.take n)) (told.set (((-(nth p 0)) - 1).toNat) true)).isSome)]) (v := r62o7) rfl rfl rfl)) ?_
    refine wpR_q 10 (by kernel_rfl) rfl (quietAt rfl rfl (q_extract (vs := #[r62o7, B ((fitR (p.drop 1) (t.drop n) (is.set (((-(nth p 0)) - 1).toNat) (t.take n)) (told.set (((-(nth p 0)) - 1).toNat) true)).isSome)]) (v := B ((fitR (p.drop 1) (t.drop n) (is.set (((-(nth p 0)) - 1).toNat) (t.take n)) (told.set (((-(nth p 0)) - 1).toNat) true)).isSome)) rfl rfl rfl)) ?_
    refine wpR_q 11 (by kernel_rfl) rfl (quietAt rfl rfl (q_assign (v := r62o7) rfl rfl)) ?_
    refine wpR_q 12 (by kernel_rfl) rfl (quietAt rfl rfl (q_assign (v := B ((fitR (p.drop 1) (t.drop n) (is.set (((-(nth p 0)) - 1).toNat) (t.take n)) (told.set (((-(nth p 0)) - 1).toNat) true)).isSome)) rfl rfl)) ?_
    refine wpR_end (by kernel_rfl) ?_
    exact ⟨r62o7, y62o7, hyr62o7, a59_0, a59_1, a59_2, a59_3, a59_10, a59_12, rfl, rfl, (hS62o7.drop (List.Sublist.cons_cons _ (List.Sublist.cons _ (List.Sublist.cons _ (List.Sublist.cons _ (List.Sublist.cons _ (List.Sublist.cons_cons _ (List.Sublist.cons_cons _ (List.Sublist.cons_cons _ (List.Sublist.cons_cons _ (List.Sublist.slnil)))))))))))⟩
  rintro f63 H63 ⟨r62o7, y62o7, hyr62o7, a63_0, a63_1, a63_2, a63_3, a63_10, a63_12, a63_15, a63_16, hS63⟩
  clear a59_0 a59_1 a59_10 a59_12 a59_13 a59_14 a59_2 a59_3
  refine wpF_seq ?_
  refine wpF_cut (fun f H => f 0 = vp ∧ f 1 = vt ∧ f 2 = vi ∧ f 3 = vk ∧ f 10 = I ((-(nth p 0)) - 1) ∧ f 12 = I ((n : Int)) ∧ f 15 = r62o7 ∧ f 120 = B ((fitR (p.drop 1) (t.drop n) (is.set (((-(nth p 0)) - 1).toNat) (t.take n)) (told.set (((-(nth p 0)) - 1).toNat) true)).isSome) ∧ H63 = H) ?_ ?_
  · refine wpF_region ?_
    refine wpL_q (U := NoB) rfl (q_move (v := B ((fitR (p.drop 1) (t.drop n) (is.set (((-(nth p 0)) - 1).toNat) (t.take n)) (told.set (((-(nth p 0)) - 1).toNat) true)).isSome)) rfl a63_16) ?_
    exact ⟨a63_0, a63_1, a63_2, a63_3, a63_10, a63_12, a63_15, rfl, rfl⟩
  rintro f64 _ ⟨a64_0, a64_1, a64_2, a64_3, a64_10, a64_12, a64_15, a64_120, rfl⟩
  clear a63_0 a63_1 a63_10 a63_12 a63_15 a63_16 a63_2 a63_3
  refine wpF_cond a64_120 (fun hfound => ?t68) (fun hfound => ?e68)
  case e68 =>
    refine wpF_skip ?_
    refine wpF_cut (fun f H => f 0 = vp ∧ f 1 = vt ∧ f 2 = vi ∧ f 3 = vk ∧ f 10 = I ((-(nth p 0)) - 1) ∧ f 12 = I ((n : Int) + 1) ∧ H63 = H) ?_ ?_
    · refine wpF_region ?_
      refine wpL_q (U := NoB) rfl (q_move (v := I ((n : Int))) rfl a64_12) ?_
      refine wpL_q (U := NoB) rfl (q_add rfl rfl rfl (by constructor <;> omega)) ?_
      refine wpL_q (U := NoB) rfl (q_assign (v := I ((n : Int) + 1)) rfl rfl) ?_
      exact ⟨a64_0, a64_1, a64_2, a64_3, a64_10, rfl, rfl⟩
    rintro f67 _ ⟨a67_0, a67_1, a67_2, a67_3, a67_10, a67_12, rfl⟩
    clear a64_0 a64_1 a64_10 a64_12 a64_120 a64_15 a64_2 a64_3
    refine ⟨_, ?_, n + 1, rfl, (by omega), (all_succ hloop (by simpa using hfound)), a67_0, a67_1, a67_2, a67_3, a67_10, (Eq.trans a67_12 (congrArg I (by omega))), (hS63.drop (List.Sublist.cons _ (List.Sublist.cons_cons _ (List.Sublist.cons_cons _ (List.Sublist.cons_cons _ (List.Sublist.cons_cons _ (List.Sublist.slnil)))))))⟩
    omega
  refine wpF_seq ?_
  refine wpF_cut (fun f H => f 8 = r62o7 ∧ f 9 = B (true) ∧ H63 = H) ?_ ?_
  · refine wpF_region ?_
    refine wpL_q (U := NoB) rfl (q_move (v := r62o7) rfl a64_15) ?_
    refine wpL_q (U := NoB) rfl (q_assign (v := r62o7) rfl rfl) ?_
    refine wpL_q (U := NoB) rfl (q_assign (v := B (true)) rfl rfl) ?_
    exact ⟨rfl, rfl, rfl⟩
  rintro f66 _ ⟨a66_8, a66_9, rfl⟩
  clear a64_0 a64_1 a64_10 a64_12 a64_120 a64_15 a64_2 a64_3
  refine wpF_ret ?_
  refine ⟨_, resT a66_8 (resT a66_9 resN), hS63.frame, ?_⟩
  show ∃ rx y, (Value.tuple #[r62o7, B (true)]) = Value.tuple #[rx, B (fitR p t is told).isSome] ∧ Rd (fun b => S b ∧ b < H0.size) H63 rx y ∧ ∀ l, fitR p t is told = some l → y = l
  obtain ⟨y, hy⟩ := Option.isSome_iff_exists.1 hfound
  have heq := fitR_found hlen hneg htold hloop (by omega) hy
  exact ⟨r62o7, y62o7, by rw [heq]; rfl, (hS63.result (hS63.rdS 0 rfl)), by rw [heq]; intro l hl; cases hl; exact hyr62o7 y hy⟩

set_option maxRecDepth 100000 in
theorem RopeFits_L {H0 : Heap} (vp vt : Value) (p t : List Int) (rp : Rd NoB H0 vp p) (rt : Rd NoB H0 vt t) : CallsH Try.prog 3 #[vp, vt] H0 (fun rv_ H' => Ext NoB H0 H' ∧ rv_ = B true) := by
  have hsp := (Rd.list.1 rp).small
  have hst := (Rd.list.1 rt).small
  have hS0 : St H0 NoB NoB [rdE vp (p : List Int), rdE vt (t : List Int)] H0 := St.arg (St.arg (St.start (fun _ h => h.elim)) (Bl0.nil) rt (fun _ h => h)) (Bl0.cons (Bl0.nil)) rp (fun _ h => h)
  refine callsH_of_wpF (args := [vp, vt]) (rs := [.tmp 4]) Try.func3 rfl Try.ntmps3 Try.results3 (by kernel_rfl) (Nat.le_of_ble_eq_true rfl) ?_
  have a0_0 : argF [vp, vt] 0 = vp := rfl
  have a0_1 : argF [vp, vt] 1 = vt := rfl
  generalize argF [vp, vt] = f0 at *
  refine wpF_seq ?_
  refine wpF_cut (fun f H => f 0 = vp ∧ f 1 = vt ∧ H0 = H) ?_ ?_
  · refine wpF_region ?_
    refine wpL_q (U := NoB) rfl (q_assign (v := B (false)) rfl rfl) ?_
    exact ⟨a0_0, a0_1, rfl⟩
  rintro f1 _ ⟨a1_0, a1_1, rfl⟩
  clear a0_0 a0_1
  refine wpF_seq ?_
  refine wpF_seq ?_
  refine wpF_cut (fun f H => f 0 = vp ∧ f 1 = vt ∧ f 21 = B (decide ((10 < (p.length : Int)) ∨ (40 < (t.length : Int)))) ∧ H0 = H) ?_ ?_
  · refine wpF_region ?_
    refine wpL_q (U := NoB) rfl (q_move (v := vp) rfl a1_0) ?_
    refine wpL_q (U := NoB) rfl (q_lenRd rfl Try.underlying22 rfl (hS0.rdl 0 rfl)) ?_
    refine wpL_q (U := NoB) rfl (q_gtr rfl rfl rfl) ?_
    refine wpL_q (U := NoB) rfl (q_move (v := B (decide (10 < (p.length : Int)))) rfl rfl) ?_
    by_cases hg2 : 10 < (p.length : Int)
    · have hb3 := Eq.trans rfl (congrArg B (decide_eq_true hg2))
      refine wpL_gs rfl rfl rfl hb3 rfl ?_
      refine wpL_gs rfl rfl rfl hb3 rfl ?_
      refine wpL_gs rfl rfl rfl hb3 rfl ?_
      refine wpL_q (U := NoB) rfl (q_pickT (v := B (true)) rfl hb3 rfl) ?_
      exact ⟨a1_0, a1_1, (Eq.trans rfl (congrArg B ((decide_eq_true (Or.inl hg2)).symm))), rfl⟩
    · have hb4 := Eq.trans rfl (congrArg B (decide_eq_false hg2))
      refine wpL_gq (U := NoB) rfl rfl rfl hb4 (q_move (v := vt) rfl a1_1) ?_
      refine wpL_gq (U := NoB) rfl rfl rfl hb4 (q_lenRd rfl Try.underlying22 rfl (hS0.rdl 1 rfl)) ?_
      refine wpL_gq (U := NoB) rfl rfl rfl hb4 (q_gtr rfl rfl rfl) ?_
      refine wpL_q (U := NoB) rfl (q_pickF (v := B (decide (40 < (t.length : Int)))) rfl hb4 rfl) ?_
      exact ⟨a1_0, a1_1, (Eq.trans rfl (congrArg B (decide_congr_of ((Iff.rfl).trans (((or_iff_right hg2).trans Iff.rfl)).symm)))), rfl⟩
  rintro f5 _ ⟨a5_0, a5_1, a5_21, rfl⟩
  clear a1_0 a1_1
  refine wpF_condP a5_21 (fun hbig => ?t122) (fun hbig => ?e122)
  case t122 =>
    refine wpF_seq ?_
    refine wpF_cut (fun f H => f 4 = B (true) ∧ H0 = H) ?_ ?_
    · refine wpF_region ?_
      refine wpL_q (U := NoB) rfl (q_assign (v := B (true)) rfl rfl) ?_
      exact ⟨rfl, rfl⟩
    rintro f7 _ ⟨a7_4, rfl⟩
    clear a5_0 a5_1 a5_21
    refine wpF_ret ?_
    refine ⟨_, resT a7_4 resN, hS0.frame, ?_⟩
    show (B (true)) = B true
    rfl
  refine wpF_skip ?_
  refine wpF_seq ?_
  refine wpF_cut (fun f H => ∃ (g8 : Nat), f 0 = vp ∧ f 1 = vt ∧ f 5 = PT g8 0 ∧ St H0 NoB NoB [blkE g8 (.cells #[I (0), I (0)] 24), rdE vp (p : List Int), rdE vt (t : List Int)] H) ?_ ?_
  · refine wpF_region ?_
    refine wpL_q (U := NoB) rfl (q_build (v := Value.agg #[I (0), I (0)]) rfl par0 (fun w => by kernel_rfl)) ?_
    refine wpL_o rfl ?_
    refine e_alloc rfl Try.zeroValue24 hS0 (fun g8 H9 hS10 hxx => ?_)
    replace hS10 : St H0 NoB NoB [blkE g8 (.cells #[I (0), I (0)] 24), rdE vp (p : List Int), rdE vt (t : List Int)] H9 := hS10
    refine wpL_o rfl ?_
    refine e_storeBlkA (cs' := #[I (0), I (0)]) rfl rfl rfl Try.sizeOf24 rfl rfl (List.forall_mem_cons.2 ⟨rfl, List.forall_mem_cons.2 ⟨rfl, List.forall_mem_nil _⟩⟩) hS10 (fun H11 hS12 hxx => ?_)
    replace hS12 : St H0 NoB NoB [blkE g8 (.cells #[I (0), I (0)] 24), rdE vp (p : List Int), rdE vt (t : List Int)] H11 := hS12
    exact ⟨g8, a5_0, a5_1, rfl, hS12⟩
  rintro f13 H13 ⟨g8, a13_0, a13_1, a13_5, hS13⟩
  clear a5_0 a5_1 a5_21
  refine wpF_seq ?_
  refine wpF_seq ?_
  refine wpF_cut (fun f H => f 0 = vp ∧ f 1 = vt ∧ f 5 = PT g8 0 ∧ f 30 = B (decide ((8 < (p.length : Int)) ∨ (30 < (t.length : Int)))) ∧ H13 = H) ?_ ?_
  · refine wpF_region ?_
    refine wpL_q (U := NoB) rfl (q_move (v := vp) rfl a13_0) ?_
    refine wpL_q (U := NoB) rfl (q_lenRd rfl Try.underlying22 rfl (hS13.rdl 1 rfl)) ?_
    refine wpL_q (U := NoB) rfl (q_gtr rfl rfl rfl) ?_
    refine wpL_q (U := NoB) rfl (q_move (v := B (decide (8 < (p.length : Int)))) rfl rfl) ?_
    by_cases hg14 : 8 < (p.length : Int)
    · have hb15 := Eq.trans rfl (congrArg B (decide_eq_true hg14))
      refine wpL_gs rfl rfl rfl hb15 rfl ?_
      refine wpL_gs rfl rfl rfl hb15 rfl ?_
      refine wpL_gs rfl rfl rfl hb15 rfl ?_
      refine wpL_q (U := NoB) rfl (q_pickT (v := B (true)) rfl hb15 rfl) ?_
      exact ⟨a13_0, a13_1, a13_5, (Eq.trans rfl (congrArg B ((decide_eq_true (Or.inl hg14)).symm))), rfl⟩
    · have hb16 := Eq.trans rfl (congrArg B (decide_eq_false hg14))
      refine wpL_gq (U := NoB) rfl rfl rfl hb16 (q_move (v := vt) rfl a13_1) ?_
      refine wpL_gq (U := NoB) rfl rfl rfl hb16 (q_lenRd rfl Try.underlying22 rfl (hS13.rdl 2 rfl)) ?_
      refine wpL_gq (U := NoB) rfl rfl rfl hb16 (q_gtr rfl rfl rfl) ?_
      refine wpL_q (U := NoB) rfl (q_pickF (v := B (decide (30 < (t.length : Int)))) rfl hb16 rfl) ?_
      exact ⟨a13_0, a13_1, a13_5, (Eq.trans rfl (congrArg B (decide_congr_of ((Iff.rfl).trans (((or_iff_right hg14).trans Iff.rfl)).symm)))), rfl⟩
  rintro f17 _ ⟨a17_0, a17_1, a17_5, a17_30, rfl⟩
  clear a13_0 a13_1 a13_5
  refine wpF_cut (fun f H => ∃ (c : Int), ∃ (a : Int), (FitA p t 0 c a 0) ∧ f 0 = vp ∧ f 1 = vt ∧ f 5 = PT g8 0 ∧ St H0 NoB NoB [blkE g8 (.cells #[I (c), I (a)] 24), rdE vp (p : List Int), rdE vt (t : List Int)] H) ?_ ?_
  · refine wpF_condP a17_30 (fun hmany => ?t26) (fun hmany => ?e26)
    case e26 =>
      refine wpF_skip ?_
      exact ⟨0, 0, (.inl ⟨rfl, rfl, hmany, fun j hj => absurd hj (Nat.not_lt_zero j), rfl⟩), a17_0, a17_1, a17_5, hS13⟩
    refine wpF_cut (fun f H => f 0 = vp ∧ f 1 = vt ∧ f 5 = PT g8 0 ∧ St H0 NoB NoB [blkE g8 (.cells #[I (2), I (0)] 24), rdE vp (p : List Int), rdE vt (t : List Int)] H) ?_ ?_
    · refine wpF_region ?_
      refine wpL_o rfl ?_
      refine e_call rfl Try.call15 (arr2 (v0 := I (2)) (v1 := I (0)) rfl rfl) (fault_L 2 0) ?_
      rintro _ H20 ⟨hxx, rfl⟩
      have hS21 : St H0 NoB NoB [blkE g8 (.cells #[I (0), I (0)] 24), rdE vp (p : List Int), rdE vt (t : List Int)] H20 := hS13.ext hxx
      refine wpL_o rfl ?_
      refine e_storeBlkA (cs' := #[I (2), I (0)]) rfl a17_5 rfl Try.sizeOf24 rfl rfl (List.forall_mem_cons.2 ⟨rfl, List.forall_mem_cons.2 ⟨rfl, List.forall_mem_nil _⟩⟩) hS21 (fun H23 hS24 hxx => ?_)
      replace hS24 : St H0 NoB NoB [blkE g8 (.cells #[I (2), I (0)] 24), rdE vp (p : List Int), rdE vt (t : List Int)] H23 := hS24
      exact ⟨a17_0, a17_1, a17_5, hS24⟩
    rintro f25 H25 ⟨a25_0, a25_1, a25_5, hS25⟩
    clear a17_0 a17_1 a17_30 a17_5
    exact ⟨2, 0, (.inr ⟨by decide, fitFault_big hmany⟩), a25_0, a25_1, a25_5, hS25⟩
  rintro f18 H18 ⟨c, a, hw, a18_0, a18_1, a18_5, hS18⟩
  clear a17_0 a17_1 a17_30 a17_5
  refine wpF_seq ?_
  refine wpF_cut (fun f H => f 0 = vp ∧ f 1 = vt ∧ f 5 = PT g8 0 ∧ f 6 = I (0) ∧ H18 = H) ?_ ?_
  · refine wpF_region ?_
    refine wpL_q (U := NoB) rfl (q_assign (v := I (0)) rfl rfl) ?_
    exact ⟨a18_0, a18_1, a18_5, rfl, rfl⟩
  rintro f27 _ ⟨a27_0, a27_1, a27_5, a27_6, rfl⟩
  clear a18_0 a18_1 a18_5
  refine wpF_seq ?_
  refine wpF_seq ?_
  refine wpF_cut (fun f H => f 0 = vp ∧ f 1 = vt ∧ f 5 = PT g8 0 ∧ f 6 = I (0) ∧ f 7 = I (0) ∧ H18 = H) ?_ ?_
  · refine wpF_region ?_
    refine wpL_q (U := NoB) rfl (q_assign (v := I (0)) rfl rfl) ?_
    exact ⟨a27_0, a27_1, a27_5, a27_6, rfl, rfl⟩
  rintro f28 _ ⟨a28_0, a28_1, a28_5, a28_6, a28_7, rfl⟩
  clear a27_0 a27_1 a27_5 a27_6
  refine wpF_block ?_
  refine wpF_loop (fun mz f H => ∃ (k : Nat), ∃ (c1 : Int), ∃ (a1 : Int), ∃ (q : Int), mz = p.length - k ∧ (k ≤ p.length) ∧ (FitA p t k c1 a1 q) ∧ f 0 = vp ∧ f 1 = vt ∧ f 5 = PT g8 0 ∧ f 6 = I (q) ∧ f 7 = I ((k : Int)) ∧ St H0 NoB NoB [blkE g8 (.cells #[I (c1), I (a1)] 24), rdE vp (p : List Int), rdE vt (t : List Int)] H) (p.length - 0) ?_ ?_
  · exact ⟨0, c, a, 0, rfl, Nat.zero_le _, hw, a28_0, a28_1, a28_5, a28_6, (Eq.trans a28_7 (congrArg I (by omega))), hS18⟩
  intro m29 f29 H29 hI29
  obtain ⟨k, c1, a1, q, hm29, hk, hw, a29_0, a29_1, a29_5, a29_6, a29_7, hS29⟩ := hI29
  clear a28_0 a28_1 a28_5 a28_6 a28_7
  refine wpF_seq ?_
  refine wpF_seq ?_
  refine wpF_cut (fun f H => f 0 = vp ∧ f 1 = vt ∧ f 5 = PT g8 0 ∧ f 6 = I (q) ∧ f 7 = I ((k : Int)) ∧ f 40 = B (decide (((k : Int) < (p.length : Int)) ∧ (c1 = 0))) ∧ H29 = H) ?_ ?_
  · refine wpF_region ?_
    refine wpL_q (U := NoB) rfl (q_move (v := I ((k : Int))) rfl a29_7) ?_
    refine wpL_q (U := NoB) rfl (q_move (v := vp) rfl a29_0) ?_
    refine wpL_q (U := NoB) rfl (q_lenRd rfl Try.underlying22 rfl (hS29.rdl 1 rfl)) ?_
    refine wpL_q (U := NoB) rfl (q_lss rfl rfl rfl) ?_
    refine wpL_q (U := NoB) rfl (q_move (v := B (decide ((k : Int) < (p.length : Int)))) rfl rfl) ?_
    by_cases hg30 : (k : Int) < (p.length : Int)
    · have hb31 := Eq.trans rfl (congrArg B (decide_eq_true hg30))
      refine wpL_gq (U := NoB) rfl rfl rfl hb31 (q_fieldAddr rfl Try.underlying24 rfl Try.sizeOf3 a29_5) ?_
      refine wpL_gq (U := NoB) rfl rfl rfl hb31 (q_loadBlk rfl rfl Try.isAgg3 (hS29.blk 0 rfl) rfl (fun h => h)) ?_
      refine wpL_gq (U := NoB) rfl rfl rfl hb31 (q_eql rfl rfl rfl) ?_
      refine wpL_q (U := NoB) rfl (q_pickT (v := B (decide (c1 = 0))) rfl hb31 rfl) ?_
      exact ⟨a29_0, a29_1, a29_5, a29_6, a29_7, (Eq.trans rfl (congrArg B (decide_congr_of ((Iff.rfl).trans (((and_iff_right hg30).trans Iff.rfl)).symm)))), rfl⟩
    · have hb32 := Eq.trans rfl (congrArg B (decide_eq_false hg30))
      refine wpL_gs rfl rfl rfl hb32 rfl ?_
      refine wpL_gs rfl rfl rfl hb32 rfl ?_
      refine wpL_gs rfl rfl rfl hb32 rfl ?_
      refine wpL_q (U := NoB) rfl (q_pickF (v := B (false)) rfl hb32 rfl) ?_
      exact ⟨a29_0, a29_1, a29_5, a29_6, a29_7, (Eq.trans rfl (congrArg B ((decide_eq_false (fun h => hg30 h.1)).symm))), rfl⟩
  rintro f33 _ ⟨a33_0, a33_1, a33_5, a33_6, a33_7, a33_40, rfl⟩
  clear a29_0 a29_1 a29_5 a29_6 a29_7
  refine wpF_condP a33_40 (fun hlt => ?t121) (fun hlt => ?e121)
  case t121 =>
    have hc0 := hlt.2
    refine wpF_skip ?_
    refine wpF_seq ?_
    refine wpF_block ?_
    refine wpF_seq ?_
    refine wpF_cut (fun f H => f 0 = vp ∧ f 1 = vt ∧ f 5 = PT g8 0 ∧ f 6 = I (q) ∧ f 7 = I ((k : Int)) ∧ f 48 = B (decide (¬ ((-3) ≤ (nth p k) ∧ (nth p k) ≤ 11))) ∧ St H0 NoB NoB [blkE g8 (.cells #[I (c1), I (a1)] 24), rdE vp (p : List Int), rdE vt (t : List Int)] H) ?_ ?_
    · refine wpF_region ?_
      refine wpL_q (U := NoB) rfl (q_move (v := vp) rfl a33_0) ?_
      refine wpL_q (U := NoB) rfl (q_move (v := I ((k : Int))) rfl a33_7) ?_
      refine wpL_q (U := NoB) rfl (q_indexRd (k := k) rfl Try.underlying22 el_Int_3 rfl rfl (hS29.rdl 1 rfl) (by omega) (by omega)) ?_
      refine wpL_q (U := NoB) rfl (q_loadInt (k := k) rfl rfl el_Int_3 (hS29.rdl 1 rfl) (by omega) (fun _ h => h)) ?_
      refine wpL_o rfl ?_
      refine e_call rfl Try.call16 (arr3 (v0 := I (nth p k)) (v1 := I (-3)) (v2 := I (11)) rfl rfl rfl) (in_L (nth p k) (-3) 11) ?_
      rintro _ H35 ⟨hxx, rfl⟩
      have hS36 : St H0 NoB NoB [blkE g8 (.cells #[I (c1), I (a1)] 24), rdE vp (p : List Int), rdE vt (t : List Int)] H35 := hS29.ext hxx
      refine wpL_q (U := NoB) rfl (q_notP rfl rfl) ?_
      exact ⟨a33_0, a33_1, a33_5, a33_6, a33_7, rfl, hS36⟩
    rintro f38 H38 ⟨a38_0, a38_1, a38_5, a38_6, a38_7, a38_48, hS38⟩
    clear a33_0 a33_1 a33_40 a33_5 a33_6 a33_7
    refine wpF_condP a38_48 (fun hin => ?t53) (fun hin => ?e53)
    case t53 =>
      refine wpF_cut (fun f H => f 0 = vp ∧ f 1 = vt ∧ f 5 = PT g8 0 ∧ f 6 = I (q) ∧ f 7 = I ((k : Int)) ∧ St H0 NoB NoB [blkE g8 (.cells #[I (3), I ((k : Int))] 24), rdE vp (p : List Int), rdE vt (t : List Int)] H) ?_ ?_
      · refine wpF_region ?_
        refine wpL_q (U := NoB) rfl (q_move (v := I ((k : Int))) rfl a38_7) ?_
        refine wpL_o rfl ?_
        refine e_call rfl Try.call15 (arr2 (v0 := I (3)) (v1 := I ((k : Int))) rfl rfl) (fault_L 3 (k : Int)) ?_
        rintro _ H40 ⟨hxx, rfl⟩
        have hS41 : St H0 NoB NoB [blkE g8 (.cells #[I (c1), I (a1)] 24), rdE vp (p : List Int), rdE vt (t : List Int)] H40 := hS38.ext hxx
        refine wpL_o rfl ?_
        refine e_storeBlkA (cs' := #[I (3), I ((k : Int))]) rfl a38_5 rfl Try.sizeOf24 rfl rfl (List.forall_mem_cons.2 ⟨rfl, List.forall_mem_cons.2 ⟨rfl, List.forall_mem_nil _⟩⟩) hS41 (fun H43 hS44 hxx => ?_)
        replace hS44 : St H0 NoB NoB [blkE g8 (.cells #[I (3), I ((k : Int))] 24), rdE vp (p : List Int), rdE vt (t : List Int)] H43 := hS44
        exact ⟨a38_0, a38_1, a38_5, a38_6, a38_7, hS44⟩
      rintro f45 H45 ⟨a45_0, a45_1, a45_5, a45_6, a45_7, hS45⟩
      clear a38_0 a38_1 a38_48 a38_5 a38_6 a38_7
      refine wpF_cut (fun f H => f 0 = vp ∧ f 1 = vt ∧ f 5 = PT g8 0 ∧ f 6 = I (q) ∧ f 7 = I ((k : Int) + 1) ∧ H45 = H) ?_ ?_
      · refine wpF_region ?_
        refine wpL_q (U := NoB) rfl (q_move (v := I ((k : Int))) rfl a45_7) ?_
        refine wpL_q (U := NoB) rfl (q_add rfl rfl rfl (by constructor <;> omega)) ?_
        refine wpL_q (U := NoB) rfl (q_assign (v := I ((k : Int) + 1)) rfl rfl) ?_
        exact ⟨a45_0, a45_1, a45_5, a45_6, rfl, rfl⟩
      rintro f46 _ ⟨a46_0, a46_1, a46_5, a46_6, a46_7, rfl⟩
      clear a45_0 a45_1 a45_5 a45_6 a45_7
      refine ⟨_, ?_, k + 1, 3, (k : Int), q, rfl, (by omega), (by have hw2 := hw; rw [hc0] at hw2; exact hw2.bad (by omega) hin _), a46_0, a46_1, a46_5, a46_6, (Eq.trans a46_7 (congrArg I (by omega))), hS45⟩
      omega
    refine wpF_seq ?_
    refine wpF_cut (fun f H => f 0 = vp ∧ f 1 = vt ∧ f 5 = PT g8 0 ∧ f 6 = I (q) ∧ f 7 = I ((k : Int)) ∧ f 57 = B (decide (q < (-(nth p k)))) ∧ H38 = H) ?_ ?_
    · refine wpF_region ?_
      refine wpL_q (U := NoB) rfl (q_move (v := vp) rfl a38_0) ?_
      refine wpL_q (U := NoB) rfl (q_move (v := I ((k : Int))) rfl a38_7) ?_
      refine wpL_q (U := NoB) rfl (q_indexRd (k := k) rfl Try.underlying22 el_Int_3 rfl rfl (hS38.rdl 1 rfl) (by omega) (by omega)) ?_
      refine wpL_q (U := NoB) rfl (q_loadInt (k := k) rfl rfl el_Int_3 (hS38.rdl 1 rfl) (by omega) (fun _ h => h)) ?_
      refine wpL_q (U := NoB) rfl (q_neg rfl rfl (by constructor <;> omega)) ?_
      refine wpL_q (U := NoB) rfl (q_move (v := I (q)) rfl a38_6) ?_
      refine wpL_q (U := NoB) rfl (q_gtr rfl rfl rfl) ?_
      exact ⟨a38_0, a38_1, a38_5, a38_6, a38_7, rfl, rfl⟩
    rintro f47 _ ⟨a47_0, a47_1, a47_5, a47_6, a47_7, a47_57, rfl⟩
    clear a38_0 a38_1 a38_48 a38_5 a38_6 a38_7
    refine wpF_condP a47_57 (fun hgt => ?t52) (fun hgt => ?e52)
    case e52 =>
      refine wpF_skip ?_
      refine wpF_cut (fun f H => f 0 = vp ∧ f 1 = vt ∧ f 5 = PT g8 0 ∧ f 6 = I (q) ∧ f 7 = I ((k : Int) + 1) ∧ H38 = H) ?_ ?_
      · refine wpF_region ?_
        refine wpL_q (U := NoB) rfl (q_move (v := I ((k : Int))) rfl a47_7) ?_
        refine wpL_q (U := NoB) rfl (q_add rfl rfl rfl (by constructor <;> omega)) ?_
        refine wpL_q (U := NoB) rfl (q_assign (v := I ((k : Int) + 1)) rfl rfl) ?_
        exact ⟨a47_0, a47_1, a47_5, a47_6, rfl, rfl⟩
      rintro f51 _ ⟨a51_0, a51_1, a51_5, a51_6, a51_7, rfl⟩
      clear a47_0 a47_1 a47_5 a47_57 a47_6 a47_7
      refine ⟨_, ?_, k + 1, c1, a1, q, rfl, (by omega), (by have hw2 := hw; rw [hc0] at hw2 ⊢; exact hw2.good (by omega) (by omega) (by omega)), a51_0, a51_1, a51_5, a51_6, (Eq.trans a51_7 (congrArg I (by omega))), hS38⟩
      omega
    refine wpF_cut (fun f H => f 0 = vp ∧ f 1 = vt ∧ f 5 = PT g8 0 ∧ f 6 = I (-(nth p k)) ∧ f 7 = I ((k : Int)) ∧ H38 = H) ?_ ?_
    · refine wpF_region ?_
      refine wpL_q (U := NoB) rfl (q_move (v := vp) rfl a47_0) ?_
      refine wpL_q (U := NoB) rfl (q_move (v := I ((k : Int))) rfl a47_7) ?_
      refine wpL_q (U := NoB) rfl (q_indexRd (k := k) rfl Try.underlying22 el_Int_3 rfl rfl (hS38.rdl 1 rfl) (by omega) (by omega)) ?_
      refine wpL_q (U := NoB) rfl (q_loadInt (k := k) rfl rfl el_Int_3 (hS38.rdl 1 rfl) (by omega) (fun _ h => h)) ?_
      refine wpL_q (U := NoB) rfl (q_neg rfl rfl (by constructor <;> omega)) ?_
      refine wpL_q (U := NoB) rfl (q_assign (v := I (-(nth p k))) rfl rfl) ?_
      exact ⟨a47_0, a47_1, a47_5, rfl, a47_7, rfl⟩
    rintro f49 _ ⟨a49_0, a49_1, a49_5, a49_6, a49_7, rfl⟩
    clear a47_0 a47_1 a47_5 a47_57 a47_6 a47_7
    refine wpF_cut (fun f H => f 0 = vp ∧ f 1 = vt ∧ f 5 = PT g8 0 ∧ f 6 = I (-(nth p k)) ∧ f 7 = I ((k : Int) + 1) ∧ H38 = H) ?_ ?_
    · refine wpF_region ?_
      refine wpL_q (U := NoB) rfl (q_move (v := I ((k : Int))) rfl a49_7) ?_
      refine wpL_q (U := NoB) rfl (q_add rfl rfl rfl (by constructor <;> omega)) ?_
      refine wpL_q (U := NoB) rfl (q_assign (v := I ((k : Int) + 1)) rfl rfl) ?_
      exact ⟨a49_0, a49_1, a49_5, a49_6, rfl, rfl⟩
    rintro f50 _ ⟨a50_0, a50_1, a50_5, a50_6, a50_7, rfl⟩
    clear a49_0 a49_1 a49_5 a49_6 a49_7
    refine ⟨_, ?_, k + 1, c1, a1, -(nth p k), rfl, (by omega), (by have hw2 := hw; rw [hc0] at hw2 ⊢; exact hw2.good (by omega) (by omega) (by omega)), a50_0, a50_1, a50_5, (Eq.trans a50_6 (congrArg I (by omega))), (Eq.trans a50_7 (congrArg I (by omega))), hS38⟩
    omega
  have hwb := hw.done hk hlt
  refine wpF_exit ?_
  refine atX_here ?_
  refine wpF_seq ?_
  refine wpF_seq ?_
  refine wpF_cut (fun f H => f 0 = vp ∧ f 1 = vt ∧ f 5 = PT g8 0 ∧ f 6 = I (q) ∧ f 8 = I (0) ∧ H29 = H) ?_ ?_
  · refine wpF_region ?_
    refine wpL_q (U := NoB) rfl (q_assign (v := I (0)) rfl rfl) ?_
    exact ⟨a33_0, a33_1, a33_5, a33_6, rfl, rfl⟩
  rintro f54 _ ⟨a54_0, a54_1, a54_5, a54_6, a54_8, rfl⟩
  clear a33_0 a33_1 a33_40 a33_5 a33_6 a33_7
  refine wpF_block ?_
  refine wpF_loop (fun mz f H => ∃ (k2 : Nat), ∃ (c2 : Int), ∃ (a2 : Int), mz = t.length - k2 ∧ (k2 ≤ t.length) ∧ (FitB p t k2 c2 a2 q) ∧ f 0 = vp ∧ f 1 = vt ∧ f 5 = PT g8 0 ∧ f 6 = I (q) ∧ f 8 = I ((k2 : Int)) ∧ St H0 NoB NoB [blkE g8 (.cells #[I (c2), I (a2)] 24), rdE vp (p : List Int), rdE vt (t : List Int)] H) (t.length - 0) ?_ ?_
  · exact ⟨0, c1, a1, rfl, Nat.zero_le _, hwb, a54_0, a54_1, a54_5, a54_6, (Eq.trans a54_8 (congrArg I (by omega))), hS29⟩
  intro m55 f55 H55 hI55
  obtain ⟨k2, c2, a2, hm55, hk2, hwb, a55_0, a55_1, a55_5, a55_6, a55_8, hS55⟩ := hI55
  clear a54_0 a54_1 a54_5 a54_6 a54_8
  refine wpF_seq ?_
  refine wpF_seq ?_
  refine wpF_cut (fun f H => f 0 = vp ∧ f 1 = vt ∧ f 5 = PT g8 0 ∧ f 6 = I (q) ∧ f 8 = I ((k2 : Int)) ∧ f 71 = B (decide (((k2 : Int) < (t.length : Int)) ∧ (c2 = 0))) ∧ H55 = H) ?_ ?_
  · refine wpF_region ?_
    refine wpL_q (U := NoB) rfl (q_move (v := I ((k2 : Int))) rfl a55_8) ?_
    refine wpL_q (U := NoB) rfl (q_move (v := vt) rfl a55_1) ?_
    refine wpL_q (U := NoB) rfl (q_lenRd rfl Try.underlying22 rfl (hS55.rdl 2 rfl)) ?_
    refine wpL_q (U := NoB) rfl (q_lss rfl rfl rfl) ?_
    refine wpL_q (U := NoB) rfl (q_move (v := B (decide ((k2 : Int) < (t.length : Int)))) rfl rfl) ?_
    by_cases hg56 : (k2 : Int) < (t.length : Int)
    · have hb57 := Eq.trans rfl (congrArg B (decide_eq_true hg56))
      refine wpL_gq (U := NoB) rfl rfl rfl hb57 (q_fieldAddr rfl Try.underlying24 rfl Try.sizeOf3 a55_5) ?_
      refine wpL_gq (U := NoB) rfl rfl rfl hb57 (q_loadBlk rfl rfl Try.isAgg3 (hS55.blk 0 rfl) rfl (fun h => h)) ?_
      refine wpL_gq (U := NoB) rfl rfl rfl hb57 (q_eql rfl rfl rfl) ?_
      refine wpL_q (U := NoB) rfl (q_pickT (v := B (decide (c2 = 0))) rfl hb57 rfl) ?_
      exact ⟨a55_0, a55_1, a55_5, a55_6, a55_8, (Eq.trans rfl (congrArg B (decide_congr_of ((Iff.rfl).trans (((and_iff_right hg56).trans Iff.rfl)).symm)))), rfl⟩
    · have hb58 := Eq.trans rfl (congrArg B (decide_eq_false hg56))
      refine wpL_gs rfl rfl rfl hb58 rfl ?_
      refine wpL_gs rfl rfl rfl hb58 rfl ?_
      refine wpL_gs rfl rfl rfl hb58 rfl ?_
      refine wpL_q (U := NoB) rfl (q_pickF (v := B (false)) rfl hb58 rfl) ?_
      exact ⟨a55_0, a55_1, a55_5, a55_6, a55_8, (Eq.trans rfl (congrArg B ((decide_eq_false (fun h => hg56 h.1)).symm))), rfl⟩
  rintro f59 _ ⟨a59_0, a59_1, a59_5, a59_6, a59_8, a59_71, rfl⟩
  clear a55_0 a55_1 a55_5 a55_6 a55_8
  refine wpF_condP a59_71 (fun hlt2 => ?t120) (fun hlt2 => ?e120)
  case t120 =>
    have hc0 := hlt2.2
    refine wpF_skip ?_
    refine wpF_seq ?_
    refine wpF_block ?_
    refine wpF_seq ?_
    refine wpF_cut (fun f H => f 0 = vp ∧ f 1 = vt ∧ f 5 = PT g8 0 ∧ f 6 = I (q) ∧ f 8 = I ((k2 : Int)) ∧ f 79 = B (decide (¬ (0 ≤ (nth t k2) ∧ (nth t k2) ≤ 11))) ∧ St H0 NoB NoB [blkE g8 (.cells #[I (c2), I (a2)] 24), rdE vp (p : List Int), rdE vt (t : List Int)] H) ?_ ?_
    · refine wpF_region ?_
      refine wpL_q (U := NoB) rfl (q_move (v := vt) rfl a59_1) ?_
      refine wpL_q (U := NoB) rfl (q_move (v := I ((k2 : Int))) rfl a59_8) ?_
      refine wpL_q (U := NoB) rfl (q_indexRd (k := k2) rfl Try.underlying22 el_Int_3 rfl rfl (hS55.rdl 2 rfl) (by omega) (by omega)) ?_
      refine wpL_q (U := NoB) rfl (q_loadInt (k := k2) rfl rfl el_Int_3 (hS55.rdl 2 rfl) (by omega) (fun _ h => h)) ?_
      refine wpL_o rfl ?_
      refine e_call rfl Try.call16 (arr3 (v0 := I (nth t k2)) (v1 := I (0)) (v2 := I (11)) rfl rfl rfl) (in_L (nth t k2) 0 11) ?_
      rintro _ H61 ⟨hxx, rfl⟩
      have hS62 : St H0 NoB NoB [blkE g8 (.cells #[I (c2), I (a2)] 24), rdE vp (p : List Int), rdE vt (t : List Int)] H61 := hS55.ext hxx
      refine wpL_q (U := NoB) rfl (q_notP rfl rfl) ?_
      exact ⟨a59_0, a59_1, a59_5, a59_6, a59_8, rfl, hS62⟩
    rintro f64 H64 ⟨a64_0, a64_1, a64_5, a64_6, a64_8, a64_79, hS64⟩
    clear a59_0 a59_1 a59_5 a59_6 a59_71 a59_8
    refine wpF_condP a64_79 (fun hin => ?t74) (fun hin => ?e74)
    case e74 =>
      refine wpF_skip ?_
      refine wpF_cut (fun f H => f 0 = vp ∧ f 1 = vt ∧ f 5 = PT g8 0 ∧ f 6 = I (q) ∧ f 8 = I ((k2 : Int) + 1) ∧ H64 = H) ?_ ?_
      · refine wpF_region ?_
        refine wpL_q (U := NoB) rfl (q_move (v := I ((k2 : Int))) rfl a64_8) ?_
        refine wpL_q (U := NoB) rfl (q_add rfl rfl rfl (by constructor <;> omega)) ?_
        refine wpL_q (U := NoB) rfl (q_assign (v := I ((k2 : Int) + 1)) rfl rfl) ?_
        exact ⟨a64_0, a64_1, a64_5, a64_6, rfl, rfl⟩
      rintro f73 _ ⟨a73_0, a73_1, a73_5, a73_6, a73_8, rfl⟩
      clear a64_0 a64_1 a64_5 a64_6 a64_79 a64_8
      refine ⟨_, ?_, k2 + 1, c2, a2, rfl, (by omega), (by have hw2 := hwb; rw [hc0] at hw2 ⊢; exact hw2.good (by omega)), a73_0, a73_1, a73_5, a73_6, (Eq.trans a73_8 (congrArg I (by omega))), hS64⟩
      omega
    refine wpF_cut (fun f H => f 0 = vp ∧ f 1 = vt ∧ f 5 = PT g8 0 ∧ f 6 = I (q) ∧ f 8 = I ((k2 : Int)) ∧ St H0 NoB NoB [blkE g8 (.cells #[I (3), I ((p.length : Int) + (k2 : Int))] 24), rdE vp (p : List Int), rdE vt (t : List Int)] H) ?_ ?_
    · refine wpF_region ?_
      refine wpL_q (U := NoB) rfl (q_move (v := vp) rfl a64_0) ?_
      refine wpL_q (U := NoB) rfl (q_lenRd rfl Try.underlying22 rfl (hS64.rdl 1 rfl)) ?_
      refine wpL_q (U := NoB) rfl (q_move (v := I ((k2 : Int))) rfl a64_8) ?_
      refine wpL_q (U := NoB) rfl (q_add rfl rfl rfl (by constructor <;> omega)) ?_
      refine wpL_o rfl ?_
      refine e_call rfl Try.call15 (arr2 (v0 := I (3)) (v1 := I ((p.length : Int) + (k2 : Int))) rfl rfl) (fault_L 3 ((p.length : Int) + (k2 : Int))) ?_
      rintro _ H66 ⟨hxx, rfl⟩
      have hS67 : St H0 NoB NoB [blkE g8 (.cells #[I (c2), I (a2)] 24), rdE vp (p : List Int), rdE vt (t : List Int)] H66 := hS64.ext hxx
      refine wpL_o rfl ?_
      refine e_storeBlkA (cs' := #[I (3), I ((p.length : Int) + (k2 : Int))]) rfl a64_5 rfl Try.sizeOf24 rfl rfl (List.forall_mem_cons.2 ⟨rfl, List.forall_mem_cons.2 ⟨rfl, List.forall_mem_nil _⟩⟩) hS67 (fun H69 hS70 hxx => ?_)
      replace hS70 : St H0 NoB NoB [blkE g8 (.cells #[I (3), I ((p.length : Int) + (k2 : Int))] 24), rdE vp (p : List Int), rdE vt (t : List Int)] H69 := hS70
      exact ⟨a64_0, a64_1, a64_5, a64_6, a64_8, hS70⟩
    rintro f71 H71 ⟨a71_0, a71_1, a71_5, a71_6, a71_8, hS71⟩
    clear a64_0 a64_1 a64_5 a64_6 a64_79 a64_8
    refine wpF_cut (fun f H => f 0 = vp ∧ f 1 = vt ∧ f 5 = PT g8 0 ∧ f 6 = I (q) ∧ f 8 = I ((k2 : Int) + 1) ∧ H71 = H) ?_ ?_
    · refine wpF_region ?_
      refine wpL_q (U := NoB) rfl (q_move (v := I ((k2 : Int))) rfl a71_8) ?_
      refine wpL_q (U := NoB) rfl (q_add rfl rfl rfl (by constructor <;> omega)) ?_
      refine wpL_q (U := NoB) rfl (q_assign (v := I ((k2 : Int) + 1)) rfl rfl) ?_
      exact ⟨a71_0, a71_1, a71_5, a71_6, rfl, rfl⟩
    rintro f72 _ ⟨a72_0, a72_1, a72_5, a72_6, a72_8, rfl⟩
    clear a71_0 a71_1 a71_5 a71_6 a71_8
    refine ⟨_, ?_, k2 + 1, 3, (p.length : Int) + (k2 : Int), rfl, (by omega), (by have hw2 := hwb; rw [hc0] at hw2; exact hw2.bad (by omega) hin), a72_0, a72_1, a72_5, a72_6, (Eq.trans a72_8 (congrArg I (by omega))), (show St H0 NoB NoB [blkE g8 (.cells #[I (3), I (((p.length : Int) + (k2 : Int)))] 24), rdE vp (p : List Int), rdE vt (t : List Int)] H71 from hS71)⟩
    omega
  have hff := hwb.done hk2 hlt2
  refine wpF_exit ?_
  refine atX_here ?_
  refine wpF_seq ?_
  refine wpF_cut (fun f H => ∃ (r75 : Value), ∃ (g79 : Nat), f 0 = vp ∧ f 1 = vt ∧ f 5 = PT g8 0 ∧ f 6 = I (q) ∧ f 9 = r75 ∧ f 10 = B ((ropeAll p t).2.1) ∧ f 11 = PT g79 0 ∧ St H0 NoB NoB [blkE g79 (.cells #[I ((ropeAll p t).2.2.1), I ((ropeAll p t).2.2.2)] 24), rdE r75 ((ropeAll p t).1 : List (List Int)), blkE g8 (.cells #[I (c2), I (a2)] 24), rdE vp (p : List Int), rdE vt (t : List Int)] H) ?_ ?_
  · refine wpF_region ?_
    refine wpL_q (U := NoB) rfl (q_move (v := vp) rfl a59_0) ?_
    refine wpL_q (U := NoB) rfl (q_move (v := vt) rfl a59_1) ?_
    refine wpL_o rfl ?_
    refine e_call rfl Try.call17 (arr2 (v0 := vp) (v1 := vt) rfl rfl) (rope_Fit vp vt p t (hS55.rdS 1 rfl) (hS55.rdS 2 rfl)) ?_
    rintro _ H76 ⟨hxx, r75, rfl, hrr75⟩
    have hS77 : St H0 NoB NoB [rdE r75 ((ropeAll p t).1 : List (List Int)), blkE g8 (.cells #[I (c2), I (a2)] 24), rdE vp (p : List Int), rdE vt (t : List Int)] H76 := hS55.res hxx hrr75
    refine wpL_q (U := NoB) rfl (q_move (v := Value.tuple #[r75, B ((ropeAll p t).2.1), Value.agg #[I ((ropeAll p t).2.2.1), I ((ropeAll p t).2.2.2)]]) rfl rfl) ?_
    refine wpL_q (U := NoB) rfl (q_extract (vs := #[r75, B ((ropeAll p t).2.1), Value.agg #[I ((ropeAll p t).2.2.1), I ((ropeAll p t).2.2.2)]]) (v := r75) rfl rfl rfl) ?_
    refine wpL_q (U := NoB) rfl (q_extract (vs := #[r75, B ((ropeAll p t).2.1), Value.agg #[I ((ropeAll p t).2.2.1), I ((ropeAll p t).2.2.2)]]) (v := B ((ropeAll p t).2.1)) rfl rfl rfl) ?_
    refine wpL_q (U := NoB) rfl (q_extract (vs := #[r75, B ((ropeAll p t).2.1), Value.agg #[I ((ropeAll p t).2.2.1), I ((ropeAll p t).2.2.2)]]) (v := Value.agg #[I ((ropeAll p t).2.2.1), I ((ropeAll p t).2.2.2)]) rfl rfl rfl) ?_
    refine wpL_o rfl ?_
    refine e_alloc rfl Try.zeroValue24 hS77 (fun g79 H80 hS81 hxx => ?_)
    replace hS81 : St H0 NoB NoB [blkE g79 (.cells #[I (0), I (0)] 24), rdE r75 ((ropeAll p t).1 : List (List Int)), blkE g8 (.cells #[I (c2), I (a2)] 24), rdE vp (p : List Int), rdE vt (t : List Int)] H80 := hS81
    refine wpL_q (U := NoB) rfl (q_assign (v := r75) rfl rfl) ?_
    refine wpL_q (U := NoB) rfl (q_assign (v := B ((ropeAll p t).2.1)) rfl rfl) ?_
    refine wpL_o rfl ?_
    refine e_storeBlkA (cs' := #[I ((ropeAll p t).2.2.1), I ((ropeAll p t).2.2.2)]) rfl rfl rfl Try.sizeOf24 rfl rfl (List.forall_mem_cons.2 ⟨rfl, List.forall_mem_cons.2 ⟨rfl, List.forall_mem_nil _⟩⟩) hS81 (fun H82 hS83 hxx => ?_)
    replace hS83 : St H0 NoB NoB [blkE g79 (.cells #[I ((ropeAll p t).2.2.1), I ((ropeAll p t).2.2.2)] 24), rdE r75 ((ropeAll p t).1 : List (List Int)), blkE g8 (.cells #[I (c2), I (a2)] 24), rdE vp (p : List Int), rdE vt (t : List Int)] H82 := hS83
    exact ⟨r75, g79, a59_0, a59_1, a59_5, a59_6, rfl, rfl, rfl, hS83⟩
  rintro f84 H84 ⟨r75, g79, a84_0, a84_1, a84_5, a84_6, a84_9, a84_10, a84_11, hS84⟩
  clear a59_0 a59_1 a59_5 a59_6 a59_71 a59_8
  refine wpF_seq ?_
  refine wpF_seq ?_
  refine wpF_cut (fun f H => f 0 = vp ∧ f 1 = vt ∧ f 5 = PT g8 0 ∧ f 6 = I (q) ∧ f 9 = r75 ∧ f 10 = B ((ropeAll p t).2.1) ∧ f 94 = B (decide (¬ (((ropeAll p t).2.2.1) = c2 ∧ ((ropeAll p t).2.2.2) = a2))) ∧ H84 = H) ?_ ?_
  · refine wpF_region ?_
    refine wpL_q (U := NoB) rfl (q_loadBlkA rfl a84_11 Try.isAgg24 Try.sizeOf24 rfl (hS84.blk 0 rfl) (fun h => h)) ?_
    refine wpL_q (U := NoB) rfl (q_loadBlkA rfl a84_5 Try.isAgg24 Try.sizeOf24 rfl (hS84.blk 2 rfl) (fun h => h)) ?_
    refine wpL_q (U := NoB) rfl (q_neqF2 rfl Try.eqGuardType24 (fl24 _ _ _ _) rfl rfl) ?_
    exact ⟨a84_0, a84_1, a84_5, a84_6, a84_9, a84_10, rfl, rfl⟩
  rintro f85 _ ⟨a85_0, a85_1, a85_5, a85_6, a85_9, a85_10, a85_94, rfl⟩
  clear a84_0 a84_1 a84_10 a84_11 a84_5 a84_6 a84_9
  refine wpF_condP a85_94 (fun hne => ?t119) (fun hne => ?e119)
  case t119 =>
    refine wpF_seq ?_
    refine wpF_cut (fun f H => f 4 = B (false) ∧ H84 = H) ?_ ?_
    · refine wpF_region ?_
      refine wpL_q (U := NoB) rfl (q_assign (v := B (false)) rfl rfl) ?_
      exact ⟨rfl, rfl⟩
    rintro f87 _ ⟨a87_4, rfl⟩
    clear a85_0 a85_1 a85_10 a85_5 a85_6 a85_9 a85_94
    refine wpF_ret ?_
    refine ⟨_, resT a87_4 resN, hS84.frame, ?_⟩
    show (B (false)) = B true
    exfalso
    refine hne ?_
    have h := ropeAll_fault (p := p) (t := t)
    rw [hff.1] at h
    rw [h]
    exact ⟨rfl, rfl⟩
  refine wpF_skip ?_
  refine wpF_seq ?_
  refine wpF_seq ?_
  refine wpF_cut (fun f H => f 0 = vp ∧ f 1 = vt ∧ f 6 = I (q) ∧ f 9 = r75 ∧ f 10 = B ((ropeAll p t).2.1) ∧ f 97 = B (decide (c2 ≠ 0)) ∧ H84 = H) ?_ ?_
  · refine wpF_region ?_
    refine wpL_q (U := NoB) rfl (q_fieldAddr rfl Try.underlying24 rfl Try.sizeOf3 a85_5) ?_
    refine wpL_q (U := NoB) rfl (q_loadBlk rfl rfl Try.isAgg3 (hS84.blk 2 rfl) rfl (fun h => h)) ?_
    refine wpL_q (U := NoB) rfl (q_neq rfl rfl rfl) ?_
    exact ⟨a85_0, a85_1, a85_6, a85_9, a85_10, rfl, rfl⟩
  rintro f88 _ ⟨a88_0, a88_1, a88_6, a88_9, a88_10, a88_97, rfl⟩
  clear a85_0 a85_1 a85_10 a85_5 a85_6 a85_9 a85_94
  refine wpF_condP a88_97 (fun hc => ?t118) (fun hc => ?e118)
  case t118 =>
    refine wpF_seq ?_
    refine wpF_cut (fun f H => f 4 = B (decide (((((ropeAll p t).1).length : Int) = 0) ∧ ((!((ropeAll p t).2.1)) = true))) ∧ H84 = H) ?_ ?_
    · refine wpF_region ?_
      refine wpL_q (U := NoB) rfl (q_move (v := r75) rfl a88_9) ?_
      refine wpL_q (U := NoB) rfl (q_lenRd rfl Try.underlying27 rfl (hS84.rdl 1 rfl)) ?_
      refine wpL_q (U := NoB) rfl (q_eql rfl rfl rfl) ?_
      refine wpL_q (U := NoB) rfl (q_move (v := B (decide ((((ropeAll p t).1).length : Int) = 0))) rfl rfl) ?_
      by_cases hg90 : (((ropeAll p t).1).length : Int) = 0
      · have hb91 := Eq.trans rfl (congrArg B (decide_eq_true hg90))
        refine wpL_gq (U := NoB) rfl rfl rfl hb91 (q_move (v := B ((ropeAll p t).2.1)) rfl a88_10) ?_
        refine wpL_gq (U := NoB) rfl rfl rfl hb91 (q_not rfl rfl) ?_
        refine wpL_q (U := NoB) rfl (q_pickT (v := B (!((ropeAll p t).2.1))) rfl hb91 rfl) ?_
        refine wpL_q (U := NoB) rfl (q_assign (v := B (!((ropeAll p t).2.1))) rfl rfl) ?_
        exact ⟨(Eq.trans rfl (congrArg B (bool_congr_of ((Iff.rfl).trans (((and_iff_right hg90).trans Iff.rfl)).symm)))), rfl⟩
      · have hb92 := Eq.trans rfl (congrArg B (decide_eq_false hg90))
        refine wpL_gs rfl rfl rfl hb92 rfl ?_
        refine wpL_gs rfl rfl rfl hb92 rfl ?_
        refine wpL_q (U := NoB) rfl (q_pickF (v := B (false)) rfl hb92 rfl) ?_
        refine wpL_q (U := NoB) rfl (q_assign (v := B (false)) rfl rfl) ?_
        exact ⟨(Eq.trans rfl (congrArg B ((decide_eq_false (fun h => hg90 h.1)).symm))), rfl⟩
    rintro f93 _ ⟨a93_4, rfl⟩
    clear a88_0 a88_1 a88_10 a88_6 a88_9 a88_97
    refine wpF_ret ?_
    refine ⟨_, resT a93_4 resN, hS84.frame, ?_⟩
    show (B (decide (((((ropeAll p t).1).length : Int) = 0) ∧ ((!((ropeAll p t).2.1)) = true)))) = B true
    have h := ropeAll_bad hff.1 hc
    rw [h]
    rfl
  have hc20 : c2 = 0 := by omega
  obtain ⟨hq, hm3, ha0⟩ := hff.2 hc20
  have hf0 : fitFault p t = (0, 0) := by rw [hff.1, hc20, ha0]
  have hq0 := mostL_nonneg p
  refine wpF_skip ?_
  refine wpF_seq ?_
  refine wpF_cut (fun f H => ∃ (r94o6 : Value), ∃ (y94o6 : List (List Int)), (∀ l, fitR p t (List.replicate ((q).toNat) []) (List.replicate ((q).toNat) false) = some l → y94o6 = l) ∧ f 9 = r75 ∧ f 10 = B ((ropeAll p t).2.1) ∧ f 12 = r94o6 ∧ f 13 = B ((fitR p t (List.replicate ((q).toNat) []) (List.replicate ((q).toNat) false)).isSome) ∧ St H0 NoB NoB [rdE r94o6 (y94o6 : List (List Int)), blkE g79 (.cells #[I ((ropeAll p t).2.2.1), I ((ropeAll p t).2.2.2)] 24), rdE r75 ((ropeAll p t).1 : List (List Int)), blkE g8 (.cells #[I (c2), I (a2)] 24), rdE vp (p : List Int), rdE vt (t : List Int)] H) ?_ ?_
  · refine wpF_drawn [] [] (fun _ _ => False) (by kernel_rfl) (by kernel_rfl) ?_
    refine wpR_q 0 (by kernel_rfl) rfl (quietAt rfl rfl (q_move (v := vp) rfl a88_0)) ?_
    refine wpR_q 1 (by kernel_rfl) rfl (quietAt rfl rfl (q_move (v := vt) rfl a88_1)) ?_
    refine wpR_q 2 (by kernel_rfl) rfl (quietAt rfl rfl (q_move (v := I (q)) rfl a88_6)) ?_
    refine wpR_q 4 (by kernel_rfl) rfl (quietAt rfl rfl (q_move (v := I (q)) rfl a88_6)) ?_
    refine wpR_n [3, 5] (by kernel_rfl) ?_
    refine List.forall_mem_cons.2 ⟨?_, List.forall_mem_cons.2 ⟨?_, List.forall_mem_nil _⟩⟩
    · refine exE rfl rfl ?_
      refine e_makeSlice (n := (q).toNat) (x0 := ([] : List Int)) rfl Try.underlying27 Try.zeroValue22 em_LInt_22 Try.sizeOf22 rfl rfl (by omega) (fun _ _ => rdNil) hS84 (by have hb : GoT.bytes (List Int) = 24 := rfl; rw [hb]; omega) (by omega) (fun v94o3 H94o3 hS94o3 hxx => ?_)
      replace hS94o3 : St H0 NoB NoB [rowE 22 v94o3 (List.replicate ((q).toNat) [] : List (List Int)), blkE g79 (.cells #[I ((ropeAll p t).2.2.1), I ((ropeAll p t).2.2.2)] 24), rdE r75 ((ropeAll p t).1 : List (List Int)), blkE g8 (.cells #[I (c2), I (a2)] 24), rdE vp (p : List Int), rdE vt (t : List Int)] H94o3 := hS94o3
      refine ⟨Ext.mono hxx (fun _ h => h.elim), ?_⟩
      refine wpR_n [5] (by kernel_rfl) ?_
      refine List.forall_mem_cons.2 ⟨?_, List.forall_mem_nil _⟩
      refine exE rfl rfl ?_
      refine e_makeSlice (n := (q).toNat) (x0 := (false : Bool)) rfl Try.underlying32 Try.zeroValue4 em_Bool_4 Try.sizeOf4 rfl rfl (by omega) (fun _ _ => Rd.bool.2 rfl) hS94o3 (by have hb : GoT.bytes Bool = 1 := rfl; rw [hb]; omega) (by omega) (fun v94o5 H94o5 hS94o5 hxx => ?_)
      replace hS94o5 : St H0 NoB NoB [rowE 4 v94o5 (List.replicate ((q).toNat) false : List Bool), rowE 22 v94o3 (List.replicate ((q).toNat) [] : List (List Int)), blkE g79 (.cells #[I ((ropeAll p t).2.2.1), I ((ropeAll p t).2.2.2)] 24), rdE r75 ((ropeAll p t).1 : List (List Int)), blkE g8 (.cells #[I (c2), I (a2)] 24), rdE vp (p : List Int), rdE vt (t : List Int)] H94o5 := hS94o5
      refine ⟨Ext.mono hxx (fun _ h => h.elim), ?_⟩
      refine wpR_n [6] (by kernel_rfl) ?_
      refine List.forall_mem_cons.2 ⟨?_, List.forall_mem_nil _⟩
      have hS94o6 : St H0 NoB NoB [rdE v94o3 (List.replicate ((q).toNat) [] : List (List Int)), rowE 4 v94o5 (List.replicate ((q).toNat) false : List Bool), blkE g79 (.cells #[I ((ropeAll p t).2.2.1), I ((ropeAll p t).2.2.2)] 24), rdE r75 ((ropeAll p t).1 : List (List Int)), blkE g8 (.cells #[I (c2), I (a2)] 24), rdE vp (p : List Int), rdE vt (t : List Int)] H94o5 := St.fin (hS94o5.front 1 rfl)
      have hS94o6x2 : St H0 NoB NoB [rdE v94o5 (List.replicate ((q).toNat) false : List Bool), rdE v94o3 (List.replicate ((q).toNat) [] : List (List Int)), blkE g79 (.cells #[I ((ropeAll p t).2.2.1), I ((ropeAll p t).2.2.2)] 24), rdE r75 ((ropeAll p t).1 : List (List Int)), blkE g8 (.cells #[I (c2), I (a2)] 24), rdE vp (p : List Int), rdE vt (t : List Int)] H94o5 := St.fin (hS94o6.front 1 rfl)
      refine exE rfl rfl ?_
      refine e_call rfl Try.call18 (arr4 (v0 := vp) (v1 := vt) (v2 := v94o3) (v3 := v94o5) rfl rfl rfl rfl) (Fit_R _ vp vt v94o3 v94o5 p t (List.replicate ((q).toNat) []) (List.replicate ((q).toNat) false) _ (hS94o6x2.rdS 5 rfl) (hS94o6x2.rdS 6 rfl) (hS94o6x2.rdS 1 rfl) (hS94o6x2.rdS 0 rfl) (List.length_replicate ..) (List.length_replicate ..) (by omega) (fun z hz => by have := mostL_ge p z hz; omega) rfl) ?_
      rintro _ H94o6 ⟨hxx, r94o6, y94o6, rfl, hrr94o6, hyr94o6⟩
      have hS94o6x3 : St H0 NoB NoB [rdE r94o6 (y94o6 : List (List Int)), rdE v94o5 (List.replicate ((q).toNat) false : List Bool), rdE v94o3 (List.replicate ((q).toNat) [] : List (List Int)), blkE g79 (.cells #[I ((ropeAll p t).2.2.1), I ((ropeAll p t).2.2.2)] 24), rdE r75 ((ropeAll p t).1 : List (List Int)), blkE g8 (.cells #[I (c2), I (a2)] 24), rdE vp (p : List Int), rdE vt (t : List Int)] H94o6 := hS94o6x2.res hxx hrr94o6
      refine ⟨Ext.mono hxx (fun _ h => h.elim), ?_⟩
      refine wpR_q 7 (by kernel_rfl) rfl (quietAt rfl rfl (q_move (v := Value.tuple #[r94o6, B ((fitR p t (List.replicate ((q).toNat) []) (List.replicate ((q).toNat) false)).isSome)]) rfl rfl)) ?_
      refine wpR_q 8 (by kernel_rfl) rfl (quietAt rfl rfl (q_extract (vs := #[r94o6, B ((fitR p t (List.replicate ((q).toNat) []) (List.replicate ((q).toNat) false)).isSome)]) (v := r94o6) rfl rfl rfl)) ?_
      refine wpR_q 9 (by kernel_rfl) rfl (quietAt rfl rfl (q_extract (vs := #[r94o6, B ((fitR p t (List.replicate ((q).toNat) []) (List.replicate ((q).toNat) false)).isSome)]) (v := B ((fitR p t (List.replicate ((q).toNat) []) (List.replicate ((q).toNat) false)).isSome)) rfl rfl rfl)) ?_
      refine wpR_q 10 (by kernel_rfl) rfl (quietAt rfl rfl (q_assign (v := r94o6) rfl rfl)) ?_
      refine wpR_q 11 (by kernel_rfl) rfl (quietAt rfl rfl (q_assign (v := B ((fitR p t (List.replicate ((q).toNat) []) (List.replicate ((q).toNat) false)).isSome)) rfl rfl)) ?_
      refine wpR_end (by kernel_rfl) ?_
      exact ⟨r94o6, y94o6, hyr94o6, a88_9, a88_10, rfl, rfl, (hS94o6x3.drop (List.Sublist.cons_cons _ (List.Sublist.cons _ (List.Sublist.cons _ (List.Sublist.cons_cons _ (List.Sublist.cons_cons _ (List.Sublist.cons_cons _ (List.Sublist.cons_cons _ (List.Sublist.cons_cons _ (List.Sublist.slnil))))))))))⟩
    · refine exE rfl rfl ?_
      refine e_makeSlice (n := (q).toNat) (x0 := (false : Bool)) rfl Try.underlying32 Try.zeroValue4 em_Bool_4 Try.sizeOf4 rfl rfl (by omega) (fun _ _ => Rd.bool.2 rfl) hS84 (by have hb : GoT.bytes Bool = 1 := rfl; rw [hb]; omega) (by omega) (fun v94o5 H94o5 hS94o5 hxx => ?_)
      replace hS94o5 : St H0 NoB NoB [rowE 4 v94o5 (List.replicate ((q).toNat) false : List Bool), blkE g79 (.cells #[I ((ropeAll p t).2.2.1), I ((ropeAll p t).2.2.2)] 24), rdE r75 ((ropeAll p t).1 : List (List Int)), blkE g8 (.cells #[I (c2), I (a2)] 24), rdE vp (p : List Int), rdE vt (t : List Int)] H94o5 := hS94o5
      refine ⟨Ext.mono hxx (fun _ h => h.elim), ?_⟩
      refine wpR_n [3] (by kernel_rfl) ?_
      refine List.forall_mem_cons.2 ⟨?_, List.forall_mem_nil _⟩
      refine exE rfl rfl ?_
      refine e_makeSlice (n := (q).toNat) (x0 := ([] : List Int)) rfl Try.underlying27 Try.zeroValue22 em_LInt_22 Try.sizeOf22 rfl rfl (by omega) (fun _ _ => rdNil) hS94o5 (by have hb : GoT.bytes (List Int) = 24 := rfl; rw [hb]; omega) (by omega) (fun v94o3 H94o3 hS94o3 hxx => ?_)
      replace hS94o3 : St H0 NoB NoB [rowE 22 v94o3 (List.replicate ((q).toNat) [] : List (List Int)), rowE 4 v94o5 (List.replicate ((q).toNat) false : List Bool), blkE g79 (.cells #[I ((ropeAll p t).2.2.1), I ((ropeAll p t).2.2.2)] 24), rdE r75 ((ropeAll p t).1 : List (List Int)), blkE g8 (.cells #[I (c2), I (a2)] 24), rdE vp (p : List Int), rdE vt (t : List Int)] H94o3 := hS94o3
      refine ⟨Ext.mono hxx (fun _ h => h.elim), ?_⟩
      refine wpR_n [6] (by kernel_rfl) ?_
      refine List.forall_mem_cons.2 ⟨?_, List.forall_mem_nil _⟩
      have hS94o6 : St H0 NoB NoB [rdE v94o3 (List.replicate ((q).toNat) [] : List (List Int)), rowE 4 v94o5 (List.replicate ((q).toNat) false : List Bool), blkE g79 (.cells #[I ((ropeAll p t).2.2.1), I ((ropeAll p t).2.2.2)] 24), rdE r75 ((ropeAll p t).1 : List (List Int)), blkE g8 (.cells #[I (c2), I (a2)] 24), rdE vp (p : List Int), rdE vt (t : List Int)] H94o3 := St.fin hS94o3
      have hS94o6x2 : St H0 NoB NoB [rdE v94o5 (List.replicate ((q).toNat) false : List Bool), rdE v94o3 (List.replicate ((q).toNat) [] : List (List Int)), blkE g79 (.cells #[I ((ropeAll p t).2.2.1), I ((ropeAll p t).2.2.2)] 24), rdE r75 ((ropeAll p t).1 : List (List Int)), blkE g8 (.cells #[I (c2), I (a2)] 24), rdE vp (p : List Int), rdE vt (t : List Int)] H94o3 := St.fin (hS94o6.front 1 rfl)
      refine exE rfl rfl ?_
      refine e_call rfl Try.call18 (arr4 (v0 := vp) (v1 := vt) (v2 := v94o3) (v3 := v94o5) rfl rfl rfl rfl) (Fit_R _ vp vt v94o3 v94o5 p t (List.replicate ((q).toNat) []) (List.replicate ((q).toNat) false) _ (hS94o6x2.rdS 5 rfl) (hS94o6x2.rdS 6 rfl) (hS94o6x2.rdS 1 rfl) (hS94o6x2.rdS 0 rfl) (List.length_replicate ..) (List.length_replicate ..) (by omega) (fun z hz => by have := mostL_ge p z hz; omega) rfl) ?_
      rintro _ H94o6 ⟨hxx, r94o6, y94o6, rfl, hrr94o6, hyr94o6⟩
      have hS94o6x3 : St H0 NoB NoB [rdE r94o6 (y94o6 : List (List Int)), rdE v94o5 (List.replicate ((q).toNat) false : List Bool), rdE v94o3 (List.replicate ((q).toNat) [] : List (List Int)), blkE g79 (.cells #[I ((ropeAll p t).2.2.1), I ((ropeAll p t).2.2.2)] 24), rdE r75 ((ropeAll p t).1 : List (List Int)), blkE g8 (.cells #[I (c2), I (a2)] 24), rdE vp (p : List Int), rdE vt (t : List Int)] H94o6 := hS94o6x2.res hxx hrr94o6
      refine ⟨Ext.mono hxx (fun _ h => h.elim), ?_⟩
      refine wpR_q 7 (by kernel_rfl) rfl (quietAt rfl rfl (q_move (v := Value.tuple #[r94o6, B ((fitR p t (List.replicate ((q).toNat) []) (List.replicate ((q).toNat) false)).isSome)]) rfl rfl)) ?_
      refine wpR_q 8 (by kernel_rfl) rfl (quietAt rfl rfl (q_extract (vs := #[r94o6, B ((fitR p t (List.replicate ((q).toNat) []) (List.replicate ((q).toNat) false)).isSome)]) (v := r94o6) rfl rfl rfl)) ?_
      refine wpR_q 9 (by kernel_rfl) rfl (quietAt rfl rfl (q_extract (vs := #[r94o6, B ((fitR p t (List.replicate ((q).toNat) []) (List.replicate ((q).toNat) false)).isSome)]) (v := B ((fitR p t (List.replicate ((q).toNat) []) (List.replicate ((q).toNat) false)).isSome)) rfl rfl rfl)) ?_
      refine wpR_q 10 (by kernel_rfl) rfl (quietAt rfl rfl (q_assign (v := r94o6) rfl rfl)) ?_
      refine wpR_q 11 (by kernel_rfl) rfl (quietAt rfl rfl (q_assign (v := B ((fitR p t (List.replicate ((q).toNat) []) (List.replicate ((q).toNat) false)).isSome)) rfl rfl)) ?_
      refine wpR_end (by kernel_rfl) ?_
      exact ⟨r94o6, y94o6, hyr94o6, a88_9, a88_10, rfl, rfl, (hS94o6x3.drop (List.Sublist.cons_cons _ (List.Sublist.cons _ (List.Sublist.cons _ (List.Sublist.cons_cons _ (List.Sublist.cons_cons _ (List.Sublist.cons_cons _ (List.Sublist.cons_cons _ (List.Sublist.cons_cons _ (List.Sublist.slnil))))))))))⟩
  rintro f95 H95 ⟨r94o6, y94o6, hyr94o6, a95_9, a95_10, a95_12, a95_13, hS95⟩
  clear a88_0 a88_1 a88_10 a88_6 a88_9 a88_97
  have hEq : (ropeAll p t).2.1 = (fitR p t (List.replicate q.toNat []) (List.replicate q.toNat false)).isSome := by rw [hq]; exact ropeAll_ok hf0
  have hNo : (ropeAll p t).2.1 = false → (ropeAll p t).1.length = 0 := fun h => by rw [ropeAll_list hf0]; rw [ropeAll_ok hf0] at h; cases hr : refFit p t with | none => rfl | some l => rw [hr] at h; cases h
  have hYes : (ropeAll p t).2.1 = true → (ropeAll p t).1 = y94o6 := fun h => by rw [ropeAll_ok hf0] at h; obtain ⟨l, hl⟩ := Option.isSome_iff_exists.1 h; rw [ropeAll_list hf0, hl]; exact (hyr94o6 l (by rw [hq]; exact hl)).symm
  refine wpF_seq ?_
  refine wpF_cut (fun f H => f 4 = B (true) ∧ St H0 NoB NoB [rdE r94o6 (y94o6 : List (List Int)), blkE g79 (.cells #[I ((ropeAll p t).2.2.1), I ((ropeAll p t).2.2.2)] 24), rdE r75 ((ropeAll p t).1 : List (List Int)), blkE g8 (.cells #[I (c2), I (a2)] 24), rdE vp (p : List Int), rdE vt (t : List Int)] H) ?_ ?_
  · refine wpF_region ?_
    refine wpL_q (U := NoB) rfl (q_move (v := B ((ropeAll p t).2.1)) rfl a95_10) ?_
    refine wpL_q (U := NoB) rfl (q_move (v := B ((fitR p t (List.replicate ((q).toNat) []) (List.replicate ((q).toNat) false)).isSome)) rfl a95_13) ?_
    refine wpL_q (U := NoB) rfl (q_eqlB rfl Try.underlying4 rfl rfl) ?_
    refine wpL_q (U := NoB) rfl (q_move (v := B (decide (((ropeAll p t).2.1) = ((fitR p t (List.replicate ((q).toNat) []) (List.replicate ((q).toNat) false)).isSome)))) rfl rfl) ?_
    by_cases hg96 : ((ropeAll p t).2.1) = ((fitR p t (List.replicate ((q).toNat) []) (List.replicate ((q).toNat) false)).isSome)
    · have hb97 := Eq.trans rfl (congrArg B (decide_eq_true hg96))
      refine wpL_gq (U := NoB) rfl rfl rfl hb97 (q_move (v := B ((ropeAll p t).2.1)) rfl a95_10) ?_
      refine wpL_gq (U := NoB) rfl rfl rfl hb97 (q_not rfl rfl) ?_
      refine wpL_gq (U := NoB) rfl rfl rfl hb97 (q_move (v := B (!((ropeAll p t).2.1))) rfl rfl) ?_
      by_cases hg99 : (!((ropeAll p t).2.1)) = true
      · have hb100 := Eq.trans rfl (congrArg B hg99)
        refine wpL_gq (U := NoB) rfl rfl rfl hb100 (q_move (v := r75) rfl a95_9) ?_
        refine wpL_gq (U := NoB) rfl rfl rfl hb100 (q_lenRd rfl Try.underlying27 rfl (hS95.rdl 2 rfl)) ?_
        refine wpL_gq (U := NoB) rfl rfl rfl hb100 (q_eql rfl rfl rfl) ?_
        refine wpL_gq (U := NoB) rfl rfl rfl hb97 (q_pickT (v := B (decide ((((ropeAll p t).1).length : Int) = 0))) rfl hb100 rfl) ?_
        refine wpL_gq (U := NoB) rfl rfl rfl hb97 (q_move (v := B (decide ((((ropeAll p t).1).length : Int) = 0))) rfl rfl) ?_
        by_cases hg102 : (((ropeAll p t).1).length : Int) = 0
        · have hb103 := Eq.trans rfl (congrArg B (decide_eq_true hg102))
          refine wpL_gs rfl rfl rfl hb103 rfl ?_
          refine wpL_gs rfl rfl rfl hb103 rfl ?_
          refine wpL_gs' rfl rfl rfl rfl ?_
          refine wpL_gs' rfl rfl rfl rfl ?_
          refine wpL_gs' rfl rfl rfl rfl ?_
          refine wpL_gs rfl rfl rfl hb103 rfl ?_
          refine wpL_gq (U := NoB) rfl rfl rfl hb97 (q_pickT (v := B (true)) rfl hb103 rfl) ?_
          refine wpL_q (U := NoB) rfl (q_pickT (v := B (true)) rfl hb97 rfl) ?_
          refine wpL_q (U := NoB) rfl (q_assign (v := B (true)) rfl rfl) ?_
          exact ⟨rfl, hS95⟩
        · have hb104 := Eq.trans rfl (congrArg B (decide_eq_false hg102))
          refine wpL_gq (U := NoB) rfl rfl rfl hb104 (q_move (v := B ((ropeAll p t).2.1)) rfl a95_10) ?_
          refine wpL_gq (U := NoB) rfl rfl rfl hb104 (q_move (v := B ((ropeAll p t).2.1)) rfl rfl) ?_
          by_cases hg105 : ((ropeAll p t).2.1) = true
          · have hb106 := Eq.trans rfl (congrArg B hg105)
            refine wpL_gq (U := NoB) rfl rfl rfl hb106 (q_move (v := r75) rfl a95_9) ?_
            refine wpL_gq (U := NoB) rfl rfl rfl hb106 (q_move (v := r94o6) rfl a95_12) ?_
            refine wpL_go rfl rfl rfl hb106 ?_
            refine e_call rfl Try.call19 (arr2 (v0 := r75) (v1 := r94o6) rfl rfl) (rows_L r75 r94o6 _ _ (hS95.rdN 2 rfl) (hS95.rdN 0 rfl)) ?_
            rintro _ H108 ⟨hxx, rfl⟩
            have hS109 : St H0 NoB NoB [rdE r94o6 (y94o6 : List (List Int)), blkE g79 (.cells #[I ((ropeAll p t).2.2.1), I ((ropeAll p t).2.2.2)] 24), rdE r75 ((ropeAll p t).1 : List (List Int)), blkE g8 (.cells #[I (c2), I (a2)] 24), rdE vp (p : List Int), rdE vt (t : List Int)] H108 := hS95.ext hxx
            refine wpL_gq (U := NoB) rfl rfl rfl hb104 (q_pickT (v := B (decide (((ropeAll p t).1) = y94o6))) rfl hb106 rfl) ?_
            refine wpL_gq (U := NoB) rfl rfl rfl hb97 (q_pickF (v := B (decide (((ropeAll p t).1) = y94o6))) rfl hb104 rfl) ?_
            refine wpL_q (U := NoB) rfl (q_pickT (v := B (decide (((ropeAll p t).1) = y94o6))) rfl hb97 rfl) ?_
            refine wpL_q (U := NoB) rfl (q_assign (v := B (decide (((ropeAll p t).1) = y94o6))) rfl rfl) ?_
            exact ⟨(Eq.trans rfl (congrArg B (decide_eq_true (hYes (by simp_all))))), hS109⟩
          · have hb107 := Eq.trans rfl (congrArg B (Bool.eq_false_iff.2 hg105))
            refine wpL_gs rfl rfl rfl hb107 rfl ?_
            refine wpL_gs rfl rfl rfl hb107 rfl ?_
            refine wpL_gs rfl rfl rfl hb107 rfl ?_
            refine wpL_gq (U := NoB) rfl rfl rfl hb104 (q_pickF (v := B (false)) rfl hb107 rfl) ?_
            refine wpL_gq (U := NoB) rfl rfl rfl hb97 (q_pickF (v := B (false)) rfl hb104 rfl) ?_
            refine wpL_q (U := NoB) rfl (q_pickT (v := B (false)) rfl hb97 rfl) ?_
            refine wpL_q (U := NoB) rfl (q_assign (v := B (false)) rfl rfl) ?_
            exact ⟨(Eq.trans rfl (congrArg B (by exfalso; have e1 := hEq; have e2 := hNo; simp_all))), hS95⟩
      · have hb101 := Eq.trans rfl (congrArg B (Bool.eq_false_iff.2 hg99))
        refine wpL_gs rfl rfl rfl hb101 rfl ?_
        refine wpL_gs rfl rfl rfl hb101 rfl ?_
        refine wpL_gs rfl rfl rfl hb101 rfl ?_
        refine wpL_gq (U := NoB) rfl rfl rfl hb97 (q_pickF (v := B (false)) rfl hb101 rfl) ?_
        refine wpL_gq (U := NoB) rfl rfl rfl hb97 (q_move (v := B (false)) rfl rfl) ?_
        refine wpL_gq (U := NoB) rfl rfl rfl rfl (q_move (v := B ((ropeAll p t).2.1)) rfl a95_10) ?_
        refine wpL_gq (U := NoB) rfl rfl rfl rfl (q_move (v := B ((ropeAll p t).2.1)) rfl rfl) ?_
        by_cases hg111 : ((ropeAll p t).2.1) = true
        · have hb112 := Eq.trans rfl (congrArg B hg111)
          refine wpL_gq (U := NoB) rfl rfl rfl hb112 (q_move (v := r75) rfl a95_9) ?_
          refine wpL_gq (U := NoB) rfl rfl rfl hb112 (q_move (v := r94o6) rfl a95_12) ?_
          refine wpL_go rfl rfl rfl hb112 ?_
          refine e_call rfl Try.call19 (arr2 (v0 := r75) (v1 := r94o6) rfl rfl) (rows_L r75 r94o6 _ _ (hS95.rdN 2 rfl) (hS95.rdN 0 rfl)) ?_
          rintro _ H114 ⟨hxx, rfl⟩
          have hS115 : St H0 NoB NoB [rdE r94o6 (y94o6 : List (List Int)), blkE g79 (.cells #[I ((ropeAll p t).2.2.1), I ((ropeAll p t).2.2.2)] 24), rdE r75 ((ropeAll p t).1 : List (List Int)), blkE g8 (.cells #[I (c2), I (a2)] 24), rdE vp (p : List Int), rdE vt (t : List Int)] H114 := hS95.ext hxx
          refine wpL_gq (U := NoB) rfl rfl rfl rfl (q_pickT (v := B (decide (((ropeAll p t).1) = y94o6))) rfl hb112 rfl) ?_
          refine wpL_gq (U := NoB) rfl rfl rfl hb97 (q_pickF (v := B (decide (((ropeAll p t).1) = y94o6))) rfl rfl rfl) ?_
          refine wpL_q (U := NoB) rfl (q_pickT (v := B (decide (((ropeAll p t).1) = y94o6))) rfl hb97 rfl) ?_
          refine wpL_q (U := NoB) rfl (q_assign (v := B (decide (((ropeAll p t).1) = y94o6))) rfl rfl) ?_
          exact ⟨(Eq.trans rfl (congrArg B (decide_eq_true (hYes (by simp_all))))), hS115⟩
        · have hb113 := Eq.trans rfl (congrArg B (Bool.eq_false_iff.2 hg111))
          refine wpL_gs rfl rfl rfl hb113 rfl ?_
          refine wpL_gs rfl rfl rfl hb113 rfl ?_
          refine wpL_gs rfl rfl rfl hb113 rfl ?_
          refine wpL_gq (U := NoB) rfl rfl rfl rfl (q_pickF (v := B (false)) rfl hb113 rfl) ?_
          refine wpL_gq (U := NoB) rfl rfl rfl hb97 (q_pickF (v := B (false)) rfl rfl rfl) ?_
          refine wpL_q (U := NoB) rfl (q_pickT (v := B (false)) rfl hb97 rfl) ?_
          refine wpL_q (U := NoB) rfl (q_assign (v := B (false)) rfl rfl) ?_
          exact ⟨(Eq.trans rfl (congrArg B (by exfalso; have e1 := hEq; have e2 := hNo; simp_all))), hS95⟩
    · have hb98 := Eq.trans rfl (congrArg B (decide_eq_false hg96))
      refine wpL_gs rfl rfl rfl hb98 rfl ?_
      refine wpL_gs rfl rfl rfl hb98 rfl ?_
      refine wpL_gs rfl rfl rfl hb98 rfl ?_
      refine wpL_gs' rfl rfl rfl rfl ?_
      refine wpL_gs' rfl rfl rfl rfl ?_
      refine wpL_gs' rfl rfl rfl rfl ?_
      refine wpL_gs rfl rfl rfl hb98 rfl ?_
      refine wpL_gs rfl rfl rfl hb98 rfl ?_
      refine wpL_gs' rfl rfl rfl rfl ?_
      refine wpL_gs' rfl rfl rfl rfl ?_
      refine wpL_gs' rfl rfl rfl rfl ?_
      refine wpL_gs' rfl rfl rfl rfl ?_
      refine wpL_gs' rfl rfl rfl rfl ?_
      refine wpL_gs' rfl rfl rfl rfl ?_
      refine wpL_gs rfl rfl rfl hb98 rfl ?_
      refine wpL_q (U := NoB) rfl (q_pickF (v := B (false)) rfl hb98 rfl) ?_
      refine wpL_q (U := NoB) rfl (q_assign (v := B (false)) rfl rfl) ?_
      exact ⟨(Eq.trans rfl (congrArg B (by exfalso; have e1 := hEq; have e2 := hNo; simp_all))), hS95⟩
  rintro f117 H117 ⟨a117_4, hS117⟩
  clear a95_10 a95_12 a95_13 a95_9
  refine wpF_ret ?_
  refine ⟨_, resT a117_4 resN, hS117.frame, ?_⟩
  show (B (true)) = B true
  rfl

end Go.Um
