import Derived.Test.YtfgibfbgklkgbaaProg
import Derived.Test.YtfgibfbgklkgbaaUmLook
import Derived.Test.YtfgibfbgklkgbaaUmClip
import Derived.Test.YtfgibfbgklkgbaaLoopPlain
import Derived.Test.YtfgibfbgklkgbaaLoopSmall
import Derived.Test.YtfgibfbgklkgbaaUmSub
namespace Go.Um
open Go.Proofs
open GoT (sz ag rdc)
open KeyT (kv)

theorem el_Int_3_LoopC1 : ElT Try.prog Int 3 := ⟨Try.isAgg3, Try.sizeOf3⟩
theorem el_LInt_32_LoopC1 : ElT Try.prog (List Int) 32 := ⟨Try.isAgg32, Try.sizeOf32⟩
theorem el_LRow_34_LoopC1 : ElT Try.prog LRow 34 := ⟨Try.isAgg34, Try.sizeOf34⟩
theorem em_Int_3_LoopC1 : ElemOk Try.prog Int 3 := ⟨Try.t3, (.int .i64 0), by kernel_rfl, by kernel_rfl, by kernel_rfl, by kernel_rfl, by kernel_rfl⟩

set_option maxRecDepth 100000 in
theorem in_R {H0 : Heap} (n lo hi : Int)  : CallsH Try.prog 44 #[I (n), I (lo), I (hi)] H0 (fun rv_ H' => Ext NoB H0 H' ∧ rv_ = B (decide (lo ≤ n ∧ n ≤ hi))) := by
  have hS0 : St H0 NoB NoB [] H0 := St.start (fun _ h => h.elim)
  refine callsH_of_wpF (args := [I (n), I (lo), I (hi)]) (rs := [.tmp 6]) Try.func44 rfl Try.ntmps44 Try.results44 (by kernel_rfl) (Nat.le_of_ble_eq_true rfl) ?_
  have a0_0 : argF [I (n), I (lo), I (hi)] 0 = I (n) := rfl
  have a0_1 : argF [I (n), I (lo), I (hi)] 1 = I (lo) := rfl
  have a0_2 : argF [I (n), I (lo), I (hi)] 2 = I (hi) := rfl
  generalize argF [I (n), I (lo), I (hi)] = f0 at *
  refine wpF_seq ?_
  refine wpF_cut (fun f H => f 0 = I (n) ∧ f 1 = I (lo) ∧ f 2 = I (hi) ∧ H0 = H) ?_ ?_
  · refine wpF_region ?_
    refine wpL_q (U := NoB) rfl (q_assign (v := B (false)) rfl rfl) ?_
    exact ⟨a0_0, a0_1, a0_2, rfl⟩
  rintro f1 _ ⟨a1_0, a1_1, a1_2, rfl⟩
  clear a0_0 a0_1 a0_2
  refine wpF_seq ?_
  refine wpF_cut (fun f H => f 6 = B (decide ((lo ≤ n) ∧ (n ≤ hi))) ∧ H0 = H) ?_ ?_
  · refine wpF_region ?_
    refine wpL_q (U := NoB) rfl (q_move (v := I (n)) rfl a1_0) ?_
    refine wpL_q (U := NoB) rfl (q_move (v := I (lo)) rfl a1_1) ?_
    refine wpL_q (U := NoB) rfl (q_geq rfl rfl rfl) ?_
    refine wpL_q (U := NoB) rfl (q_move (v := B (decide (lo ≤ n))) rfl rfl) ?_
    by_cases hg2 : lo ≤ n
    · have hb3 := Eq.trans rfl (congrArg B (decide_eq_true hg2))
      refine wpL_gq (U := NoB) rfl rfl rfl hb3 (q_move (v := I (n)) rfl a1_0) ?_
      refine wpL_gq (U := NoB) rfl rfl rfl hb3 (q_move (v := I (hi)) rfl a1_2) ?_
      refine wpL_gq (U := NoB) rfl rfl rfl hb3 (q_leq rfl rfl rfl) ?_
      refine wpL_q (U := NoB) rfl (q_pickT (v := B (decide (n ≤ hi))) rfl hb3 rfl) ?_
      refine wpL_q (U := NoB) rfl (q_assign (v := B (decide (n ≤ hi))) rfl rfl) ?_
      exact ⟨(Eq.trans rfl (congrArg B (decide_congr_of ((Iff.rfl).trans (((and_iff_right hg2).trans Iff.rfl)).symm)))), rfl⟩
    · have hb4 := Eq.trans rfl (congrArg B (decide_eq_false hg2))
      refine wpL_gs rfl rfl rfl hb4 rfl ?_
      refine wpL_gs rfl rfl rfl hb4 rfl ?_
      refine wpL_gs rfl rfl rfl hb4 rfl ?_
      refine wpL_q (U := NoB) rfl (q_pickF (v := B (false)) rfl hb4 rfl) ?_
      refine wpL_q (U := NoB) rfl (q_assign (v := B (false)) rfl rfl) ?_
      exact ⟨(Eq.trans rfl (congrArg B ((decide_eq_false (fun h => hg2 h.1)).symm))), rfl⟩
  rintro f5 _ ⟨a5_6, rfl⟩
  clear a1_0 a1_1 a1_2
  refine wpF_ret ?_
  refine ⟨_, resT a5_6 resN, hS0.frame, ?_⟩
  show (B (decide ((lo ≤ n) ∧ (n ≤ hi)))) = B (decide (lo ≤ n ∧ n ≤ hi))
  exact congrArg B (by simp)

set_option maxRecDepth 100000 in
theorem in_L {H0 : Heap} (n lo hi : Int)  : CallsH Try.prog 12 #[I (n), I (lo), I (hi)] H0 (fun rv_ H' => Ext NoB H0 H' ∧ rv_ = B (decide (lo ≤ n ∧ n ≤ hi))) := by
  have hS0 : St H0 NoB NoB [] H0 := St.start (fun _ h => h.elim)
  refine callsH_of_wpF (args := [I (n), I (lo), I (hi)]) (rs := [.tmp 6]) Try.func12 rfl Try.ntmps12 Try.results12 (by kernel_rfl) (Nat.le_of_ble_eq_true rfl) ?_
  have a0_0 : argF [I (n), I (lo), I (hi)] 0 = I (n) := rfl
  have a0_1 : argF [I (n), I (lo), I (hi)] 1 = I (lo) := rfl
  have a0_2 : argF [I (n), I (lo), I (hi)] 2 = I (hi) := rfl
  generalize argF [I (n), I (lo), I (hi)] = f0 at *
  refine wpF_seq ?_
  refine wpF_cut (fun f H => f 0 = I (n) ∧ f 1 = I (lo) ∧ f 2 = I (hi) ∧ H0 = H) ?_ ?_
  · refine wpF_region ?_
    refine wpL_q (U := NoB) rfl (q_assign (v := B (false)) rfl rfl) ?_
    exact ⟨a0_0, a0_1, a0_2, rfl⟩
  rintro f1 _ ⟨a1_0, a1_1, a1_2, rfl⟩
  clear a0_0 a0_1 a0_2
  refine wpF_seq ?_
  refine wpF_cut (fun f H => f 6 = B (decide ((lo ≤ n) ∧ (n ≤ hi))) ∧ H0 = H) ?_ ?_
  · refine wpF_region ?_
    refine wpL_q (U := NoB) rfl (q_move (v := I (n)) rfl a1_0) ?_
    refine wpL_q (U := NoB) rfl (q_move (v := I (lo)) rfl a1_1) ?_
    refine wpL_q (U := NoB) rfl (q_geq rfl rfl rfl) ?_
    refine wpL_q (U := NoB) rfl (q_move (v := B (decide (lo ≤ n))) rfl rfl) ?_
    by_cases hg2 : lo ≤ n
    · have hb3 := Eq.trans rfl (congrArg B (decide_eq_true hg2))
      refine wpL_gq (U := NoB) rfl rfl rfl hb3 (q_move (v := I (n)) rfl a1_0) ?_
      refine wpL_gq (U := NoB) rfl rfl rfl hb3 (q_move (v := I (hi)) rfl a1_2) ?_
      refine wpL_gq (U := NoB) rfl rfl rfl hb3 (q_leq rfl rfl rfl) ?_
      refine wpL_q (U := NoB) rfl (q_pickT (v := B (decide (n ≤ hi))) rfl hb3 rfl) ?_
      refine wpL_q (U := NoB) rfl (q_assign (v := B (decide (n ≤ hi))) rfl rfl) ?_
      exact ⟨(Eq.trans rfl (congrArg B (decide_congr_of ((Iff.rfl).trans (((and_iff_right hg2).trans Iff.rfl)).symm)))), rfl⟩
    · have hb4 := Eq.trans rfl (congrArg B (decide_eq_false hg2))
      refine wpL_gs rfl rfl rfl hb4 rfl ?_
      refine wpL_gs rfl rfl rfl hb4 rfl ?_
      refine wpL_gs rfl rfl rfl hb4 rfl ?_
      refine wpL_q (U := NoB) rfl (q_pickF (v := B (false)) rfl hb4 rfl) ?_
      refine wpL_q (U := NoB) rfl (q_assign (v := B (false)) rfl rfl) ?_
      exact ⟨(Eq.trans rfl (congrArg B ((decide_eq_false (fun h => hg2 h.1)).symm))), rfl⟩
  rintro f5 _ ⟨a5_6, rfl⟩
  clear a1_0 a1_1 a1_2
  refine wpF_ret ?_
  refine ⟨_, resT a5_6 resN, hS0.frame, ?_⟩
  show (B (decide ((lo ≤ n) ∧ (n ≤ hi)))) = B (decide (lo ≤ n ∧ n ≤ hi))
  exact congrArg B (by simp)

set_option maxRecDepth 100000 in
theorem fault_R {H0 : Heap} (c a : Int)  : CallsH Try.prog 65 #[I (c), I (a)] H0 (fun rv_ H' => Ext NoB H0 H' ∧ rv_ = Value.agg #[I c, I a]) := by
  have hS0 : St H0 NoB NoB [] H0 := St.start (fun _ h => h.elim)
  refine callsH_of_wpF (args := [I (c), I (a)]) (rs := [.cell 4 27]) Try.func65 rfl Try.ntmps65 Try.results65 (by kernel_rfl) (Nat.le_of_ble_eq_true rfl) ?_
  have a0_0 : argF [I (c), I (a)] 0 = I (c) := rfl
  have a0_1 : argF [I (c), I (a)] 1 = I (a) := rfl
  generalize argF [I (c), I (a)] = f0 at *
  refine wpF_seq ?_
  refine wpF_cut (fun f H => ∃ (g1 : Nat), f 0 = I (c) ∧ f 1 = I (a) ∧ f 4 = PT g1 0 ∧ St H0 NoB NoB [blkE g1 (.cells #[I (0), I (0)] 27)] H) ?_ ?_
  · refine wpF_region ?_
    refine wpL_o rfl ?_
    refine e_alloc rfl Try.zeroValue27 hS0 (fun g1 H2 hS3 hxx => ?_)
    replace hS3 : St H0 NoB NoB [blkE g1 (.cells #[I (0), I (0)] 27)] H2 := hS3
    exact ⟨g1, a0_0, a0_1, rfl, hS3⟩
  rintro f4 H4 ⟨g1, a4_0, a4_1, a4_4, hS4⟩
  clear a0_0 a0_1
  refine wpF_seq ?_
  refine wpF_cut (fun f H => f 4 = PT g1 0 ∧ St H0 NoB NoB [blkE g1 (.cells #[I (c), I (a)] 27)] H) ?_ ?_
  · refine wpF_region ?_
    refine wpL_q (U := NoB) rfl (q_move (v := I (c)) rfl a4_0) ?_
    refine wpL_q (U := NoB) rfl (q_move (v := I (a)) rfl a4_1) ?_
    refine wpL_q (U := NoB) rfl (q_build (v := Value.agg #[I (c), I (a)]) rfl (par2 (v0 := I (c)) (v1 := I (a)) rfl rfl) (fun w => by kernel_rfl)) ?_
    refine wpL_o rfl ?_
    refine e_storeBlkA (cs' := #[I (c), I (a)]) rfl a4_4 rfl Try.sizeOf27 rfl rfl (List.forall_mem_cons.2 ⟨rfl, List.forall_mem_cons.2 ⟨rfl, List.forall_mem_nil _⟩⟩) hS4 (fun H5 hS6 hxx => ?_)
    replace hS6 : St H0 NoB NoB [blkE g1 (.cells #[I (c), I (a)] 27)] H5 := hS6
    exact ⟨a4_4, hS6⟩
  rintro f7 H7 ⟨a7_4, hS7⟩
  clear a4_0 a4_1 a4_4
  refine wpF_ret ?_
  refine ⟨_, resC a7_4 (loadV_blkA Try.isAgg27 Try.sizeOf27 rfl (hS7.blk 0 rfl)) (resN), hS7.frame, ?_⟩
  show (Value.agg #[I (c), I (a)]) = Value.agg #[I c, I a]
  rfl

set_option maxRecDepth 100000 in
theorem fault_L {H0 : Heap} (c a : Int)  : CallsH Try.prog 13 #[I (c), I (a)] H0 (fun rv_ H' => Ext NoB H0 H' ∧ rv_ = Value.agg #[I c, I a]) := by
  have hS0 : St H0 NoB NoB [] H0 := St.start (fun _ h => h.elim)
  refine callsH_of_wpF (args := [I (c), I (a)]) (rs := [.cell 4 27]) Try.func13 rfl Try.ntmps13 Try.results13 (by kernel_rfl) (Nat.le_of_ble_eq_true rfl) ?_
  have a0_0 : argF [I (c), I (a)] 0 = I (c) := rfl
  have a0_1 : argF [I (c), I (a)] 1 = I (a) := rfl
  generalize argF [I (c), I (a)] = f0 at *
  refine wpF_seq ?_
  refine wpF_cut (fun f H => ∃ (g1 : Nat), f 0 = I (c) ∧ f 1 = I (a) ∧ f 4 = PT g1 0 ∧ St H0 NoB NoB [blkE g1 (.cells #[I (0), I (0)] 27)] H) ?_ ?_
  · refine wpF_region ?_
    refine wpL_o rfl ?_
    refine e_alloc rfl Try.zeroValue27 hS0 (fun g1 H2 hS3 hxx => ?_)
    replace hS3 : St H0 NoB NoB [blkE g1 (.cells #[I (0), I (0)] 27)] H2 := hS3
    exact ⟨g1, a0_0, a0_1, rfl, hS3⟩
  rintro f4 H4 ⟨g1, a4_0, a4_1, a4_4, hS4⟩
  clear a0_0 a0_1
  refine wpF_seq ?_
  refine wpF_cut (fun f H => f 4 = PT g1 0 ∧ St H0 NoB NoB [blkE g1 (.cells #[I (c), I (a)] 27)] H) ?_ ?_
  · refine wpF_region ?_
    refine wpL_q (U := NoB) rfl (q_move (v := I (c)) rfl a4_0) ?_
    refine wpL_q (U := NoB) rfl (q_move (v := I (a)) rfl a4_1) ?_
    refine wpL_q (U := NoB) rfl (q_build (v := Value.agg #[I (c), I (a)]) rfl (par2 (v0 := I (c)) (v1 := I (a)) rfl rfl) (fun w => by kernel_rfl)) ?_
    refine wpL_o rfl ?_
    refine e_storeBlkA (cs' := #[I (c), I (a)]) rfl a4_4 rfl Try.sizeOf27 rfl rfl (List.forall_mem_cons.2 ⟨rfl, List.forall_mem_cons.2 ⟨rfl, List.forall_mem_nil _⟩⟩) hS4 (fun H5 hS6 hxx => ?_)
    replace hS6 : St H0 NoB NoB [blkE g1 (.cells #[I (c), I (a)] 27)] H5 := hS6
    exact ⟨a4_4, hS6⟩
  rintro f7 H7 ⟨a7_4, hS7⟩
  clear a4_0 a4_1 a4_4
  refine wpF_ret ?_
  refine ⟨_, resC a7_4 (loadV_blkA Try.isAgg27 Try.sizeOf27 rfl (hS7.blk 0 rfl)) (resN), hS7.frame, ?_⟩
  show (Value.agg #[I (c), I (a)]) = Value.agg #[I c, I a]
  rfl

set_option maxRecDepth 100000 in
theorem Ints {H0 : Heap} (va vb : Value) (a b : List Int) (ra : Rd NoB H0 va a) (rb : Rd NoB H0 vb b) : CallsH Try.prog 39 #[va, vb] H0 (fun rv_ H' => Ext NoB H0 H' ∧ rv_ = B (decide (a = b))) := by
  have hsm := (Rd.list.1 ra).small
  have hS0 : St H0 NoB NoB [rdE va a, rdE vb b] H0 := St.arg (St.arg (St.start (fun _ h => h.elim)) (Bl0.nil) rb (fun _ h => h)) (Bl0.cons (Bl0.nil)) ra (fun _ h => h)
  refine callsH_of_wpF (args := [va, vb]) (rs := [.tmp 4]) Try.func39 rfl Try.ntmps39 Try.results39 (by kernel_rfl) (Nat.le_of_ble_eq_true rfl) ?_
  have a0_0 : argF [va, vb] 0 = va := rfl
  have a0_1 : argF [va, vb] 1 = vb := rfl
  generalize argF [va, vb] = f0 at *
  refine wpF_seq ?_
  refine wpF_cut (fun f H => f 0 = va ∧ f 1 = vb ∧ H0 = H) ?_ ?_
  · refine wpF_region ?_
    refine wpL_q (U := NoB) rfl (q_assign (v := B (false)) rfl rfl) ?_
    exact ⟨a0_0, a0_1, rfl⟩
  rintro f1 _ ⟨a1_0, a1_1, rfl⟩
  clear a0_0 a0_1
  refine wpF_seq ?_
  refine wpF_seq ?_
  refine wpF_cut (fun f H => f 0 = va ∧ f 1 = vb ∧ f 10 = B (decide ((a.length : Int) ≠ (b.length : Int))) ∧ H0 = H) ?_ ?_
  · refine wpF_region ?_
    refine wpL_q (U := NoB) rfl (q_move (v := va) rfl a1_0) ?_
    refine wpL_q (U := NoB) rfl (q_lenRd rfl Try.underlying32 rfl (hS0.rdl 0 rfl)) ?_
    refine wpL_q (U := NoB) rfl (q_move (v := vb) rfl a1_1) ?_
    refine wpL_q (U := NoB) rfl (q_lenRd rfl Try.underlying32 rfl (hS0.rdl 1 rfl)) ?_
    refine wpL_q (U := NoB) rfl (q_neq rfl rfl rfl) ?_
    exact ⟨a1_0, a1_1, rfl, rfl⟩
  rintro f2 _ ⟨a2_0, a2_1, a2_10, rfl⟩
  clear a1_0 a1_1
  refine wpF_condP a2_10 (fun hlen => ?t17) (fun hlen => ?e17)
  case t17 =>
    refine wpF_seq ?_
    refine wpF_cut (fun f H => f 4 = B (false) ∧ H0 = H) ?_ ?_
    · refine wpF_region ?_
      refine wpL_q (U := NoB) rfl (q_assign (v := B (false)) rfl rfl) ?_
      exact ⟨rfl, rfl⟩
    rintro f4 _ ⟨a4_4, rfl⟩
    clear a2_0 a2_1 a2_10
    refine wpF_ret ?_
    refine ⟨_, resT a4_4 resN, hS0.frame, ?_⟩
    show (B (false)) = B (decide (a = b))
    exact congrArg B (by simp; intro h; subst h; simp at hlen)
  refine wpF_skip ?_
  refine wpF_seq ?_
  refine wpF_seq ?_
  refine wpF_cut (fun f H => f 0 = va ∧ f 1 = vb ∧ f 5 = I (0) ∧ H0 = H) ?_ ?_
  · refine wpF_region ?_
    refine wpL_q (U := NoB) rfl (q_assign (v := I (0)) rfl rfl) ?_
    exact ⟨a2_0, a2_1, rfl, rfl⟩
  rintro f5 _ ⟨a5_0, a5_1, a5_5, rfl⟩
  clear a2_0 a2_1 a2_10
  refine wpF_block ?_
  refine wpF_loop (fun mz f H => ∃ (k : Nat), mz = a.length - k ∧ (k ≤ a.length) ∧ (a.take k = b.take k) ∧ f 0 = va ∧ f 1 = vb ∧ f 5 = I ((k : Int)) ∧ H0 = H) (a.length - 0) ?_ ?_
  · exact ⟨0, rfl, Nat.zero_le _, rfl, a5_0, a5_1, (Eq.trans a5_5 (congrArg I (by omega))), rfl⟩
  intro m6 f6 H6 hI6
  obtain ⟨k, hm6, hk, hpre, a6_0, a6_1, a6_5, rfl⟩ := hI6
  clear a5_0 a5_1 a5_5
  refine wpF_seq ?_
  refine wpF_seq ?_
  refine wpF_cut (fun f H => f 0 = va ∧ f 1 = vb ∧ f 5 = I ((k : Int)) ∧ f 14 = B (decide ((k : Int) < (a.length : Int))) ∧ H0 = H) ?_ ?_
  · refine wpF_region ?_
    refine wpL_q (U := NoB) rfl (q_move (v := I ((k : Int))) rfl a6_5) ?_
    refine wpL_q (U := NoB) rfl (q_move (v := va) rfl a6_0) ?_
    refine wpL_q (U := NoB) rfl (q_lenRd rfl Try.underlying32 rfl (hS0.rdl 0 rfl)) ?_
    refine wpL_q (U := NoB) rfl (q_lss rfl rfl rfl) ?_
    exact ⟨a6_0, a6_1, a6_5, rfl, rfl⟩
  rintro f7 _ ⟨a7_0, a7_1, a7_5, a7_14, rfl⟩
  clear a6_0 a6_1 a6_5
  refine wpF_condP a7_14 (fun hlt => ?t16) (fun hlt => ?e16)
  case e16 =>
    refine wpF_exit ?_
    refine atX_here ?_
    refine wpF_seq ?_
    refine wpF_cut (fun f H => f 4 = B (true) ∧ H0 = H) ?_ ?_
    · refine wpF_region ?_
      refine wpL_q (U := NoB) rfl (q_assign (v := B (true)) rfl rfl) ?_
      exact ⟨rfl, rfl⟩
    rintro f15 _ ⟨a15_4, rfl⟩
    clear a7_0 a7_1 a7_14 a7_5
    refine wpF_ret ?_
    refine ⟨_, resT a15_4 resN, hS0.frame, ?_⟩
    show (B (true)) = B (decide (a = b))
    exact congrArg B (by simp; exact take_all hpre (by omega) (by omega))
  refine wpF_skip ?_
  refine wpF_seq ?_
  refine wpF_block ?_
  refine wpF_seq ?_
  refine wpF_cut (fun f H => f 0 = va ∧ f 1 = vb ∧ f 5 = I ((k : Int)) ∧ f 25 = B (decide ((nth a k) ≠ (nth b k))) ∧ H0 = H) ?_ ?_
  · refine wpF_drawn [] [] (fun _ _ => False) (by kernel_rfl) (by kernel_rfl) ?_
    refine wpR_q 0 (by kernel_rfl) rfl (quietAt rfl rfl (q_move (v := va) rfl a7_0)) ?_
    refine wpR_q 1 (by kernel_rfl) rfl (quietAt rfl rfl (q_move (v := I ((k : Int))) rfl a7_5)) ?_
    refine wpR_q 2 (by kernel_rfl) rfl (quietAt rfl rfl (q_indexRd (k := k) rfl Try.underlying32 el_Int_3_LoopC1 rfl rfl (hS0.rdl 0 rfl) (by omega) (by omega))) ?_
    refine wpR_q 3 (by kernel_rfl) rfl (quietAt rfl rfl (q_loadInt (k := k) rfl rfl el_Int_3_LoopC1 (hS0.rdl 0 rfl) (by omega) (labU_sub [] rfl (List.forall_mem_nil _)))) ?_
    refine wpR_q 4 (by kernel_rfl) rfl (quietAt rfl rfl (q_move (v := vb) rfl a7_1)) ?_
    refine wpR_q 5 (by kernel_rfl) rfl (quietAt rfl rfl (q_move (v := I ((k : Int))) rfl a7_5)) ?_
    refine wpR_q 6 (by kernel_rfl) rfl (quietAt rfl rfl (q_indexRd (k := k) rfl Try.underlying32 el_Int_3_LoopC1 rfl rfl (hS0.rdl 1 rfl) (by omega) (by omega))) ?_
    refine wpR_q 7 (by kernel_rfl) rfl (quietAt rfl rfl (q_loadInt (k := k) rfl rfl el_Int_3_LoopC1 (hS0.rdl 1 rfl) (by omega) (labU_sub [] rfl (List.forall_mem_nil _)))) ?_
    refine wpR_q 8 (by kernel_rfl) rfl (quietAt rfl rfl (q_neq rfl rfl rfl)) ?_
    refine wpR_end (by kernel_rfl) ?_
    exact ⟨a7_0, a7_1, a7_5, rfl, rfl⟩
  rintro f10 _ ⟨a10_0, a10_1, a10_5, a10_25, rfl⟩
  clear a7_0 a7_1 a7_14 a7_5
  refine wpF_condP a10_25 (fun hne => ?t14) (fun hne => ?e14)
  case t14 =>
    refine wpF_seq ?_
    refine wpF_cut (fun f H => f 4 = B (false) ∧ H0 = H) ?_ ?_
    · refine wpF_region ?_
      refine wpL_q (U := NoB) rfl (q_assign (v := B (false)) rfl rfl) ?_
      exact ⟨rfl, rfl⟩
    rintro f12 _ ⟨a12_4, rfl⟩
    clear a10_0 a10_1 a10_25 a10_5
    refine wpF_ret ?_
    refine ⟨_, resT a12_4 resN, hS0.frame, ?_⟩
    show (B (false)) = B (decide (a = b))
    exact congrArg B (by simp; intro h; subst h; simp at hne)
  refine wpF_skip ?_
  refine wpF_cut (fun f H => f 0 = va ∧ f 1 = vb ∧ f 5 = I ((k : Int) + 1) ∧ H0 = H) ?_ ?_
  · refine wpF_region ?_
    refine wpL_q (U := NoB) rfl (q_move (v := I ((k : Int))) rfl a10_5) ?_
    refine wpL_q (U := NoB) rfl (q_add rfl rfl rfl (by constructor <;> omega)) ?_
    refine wpL_q (U := NoB) rfl (q_assign (v := I ((k : Int) + 1)) rfl rfl) ?_
    exact ⟨a10_0, a10_1, rfl, rfl⟩
  rintro f13 _ ⟨a13_0, a13_1, a13_5, rfl⟩
  clear a10_0 a10_1 a10_25 a10_5
  refine ⟨_, ?_, k + 1, rfl, (by omega), (take_same hpre (by omega) (by omega) (by simpa using hne)), a13_0, a13_1, (Eq.trans a13_5 (congrArg I (by omega))), rfl⟩
  omega

set_option maxRecDepth 100000 in
theorem Equal {H0 : Heap} (va vb : Value) (a b : List Int) (ra : Rd NoB H0 va a) (rb : Rd NoB H0 vb b) : CallsH Try.prog 62 #[va, vb] H0 (fun rv_ H' => Ext NoB H0 H' ∧ rv_ = B (decide (a = b))) := by
  have hsm := (Rd.list.1 ra).small
  have hS0 : St H0 NoB NoB [rdE va a, rdE vb b] H0 := St.arg (St.arg (St.start (fun _ h => h.elim)) (Bl0.nil) rb (fun _ h => h)) (Bl0.cons (Bl0.nil)) ra (fun _ h => h)
  refine callsH_of_wpF (args := [va, vb]) (rs := [.tmp 4]) Try.func62 rfl Try.ntmps62 Try.results62 (by kernel_rfl) (Nat.le_of_ble_eq_true rfl) ?_
  have a0_0 : argF [va, vb] 0 = va := rfl
  have a0_1 : argF [va, vb] 1 = vb := rfl
  generalize argF [va, vb] = f0 at *
  refine wpF_seq ?_
  refine wpF_cut (fun f H => f 0 = va ∧ f 1 = vb ∧ H0 = H) ?_ ?_
  · refine wpF_region ?_
    refine wpL_q (U := NoB) rfl (q_assign (v := B (false)) rfl rfl) ?_
    exact ⟨a0_0, a0_1, rfl⟩
  rintro f1 _ ⟨a1_0, a1_1, rfl⟩
  clear a0_0 a0_1
  refine wpF_seq ?_
  refine wpF_seq ?_
  refine wpF_cut (fun f H => f 0 = va ∧ f 1 = vb ∧ f 10 = B (decide ((a.length : Int) ≠ (b.length : Int))) ∧ H0 = H) ?_ ?_
  · refine wpF_region ?_
    refine wpL_q (U := NoB) rfl (q_move (v := va) rfl a1_0) ?_
    refine wpL_q (U := NoB) rfl (q_lenRd rfl Try.underlying32 rfl (hS0.rdl 0 rfl)) ?_
    refine wpL_q (U := NoB) rfl (q_move (v := vb) rfl a1_1) ?_
    refine wpL_q (U := NoB) rfl (q_lenRd rfl Try.underlying32 rfl (hS0.rdl 1 rfl)) ?_
    refine wpL_q (U := NoB) rfl (q_neq rfl rfl rfl) ?_
    exact ⟨a1_0, a1_1, rfl, rfl⟩
  rintro f2 _ ⟨a2_0, a2_1, a2_10, rfl⟩
  clear a1_0 a1_1
  refine wpF_condP a2_10 (fun hlen => ?t18) (fun hlen => ?e18)
  case t18 =>
    refine wpF_seq ?_
    refine wpF_cut (fun f H => f 4 = B (false) ∧ H0 = H) ?_ ?_
    · refine wpF_region ?_
      refine wpL_q (U := NoB) rfl (q_assign (v := B (false)) rfl rfl) ?_
      exact ⟨rfl, rfl⟩
    rintro f4 _ ⟨a4_4, rfl⟩
    clear a2_0 a2_1 a2_10
    refine wpF_ret ?_
    refine ⟨_, resT a4_4 resN, hS0.frame, ?_⟩
    show (B (false)) = B (decide (a = b))
    exact congrArg B (by simp; intro h; subst h; simp at hlen)
  refine wpF_skip ?_
  refine wpF_seq ?_
  refine wpF_seq ?_
  refine wpF_cut (fun f H => f 0 = va ∧ f 1 = vb ∧ f 12 = I ((a.length : Int)) ∧ f 13 = I (0) ∧ H0 = H) ?_ ?_
  · refine wpF_region ?_
    refine wpL_q (U := NoB) rfl (q_move (v := va) rfl a2_0) ?_
    refine wpL_q (U := NoB) rfl (q_lenRd rfl Try.underlying32 rfl (hS0.rdl 0 rfl)) ?_
    refine wpL_q (U := NoB) rfl (q_move (v := I (0)) rfl rfl) ?_
    exact ⟨a2_0, a2_1, rfl, rfl, rfl⟩
  rintro f5 _ ⟨a5_0, a5_1, a5_12, a5_13, rfl⟩
  clear a2_0 a2_1 a2_10
  refine wpF_block ?_
  refine wpF_loop (fun mz f H => ∃ (k : Nat), mz = a.length - k ∧ (k ≤ a.length) ∧ (a.take k = b.take k) ∧ f 0 = va ∧ f 1 = vb ∧ f 12 = I ((a.length : Int)) ∧ f 13 = I ((k : Int)) ∧ H0 = H) (a.length - 0) ?_ ?_
  · exact ⟨0, rfl, Nat.zero_le _, rfl, a5_0, a5_1, a5_12, (Eq.trans a5_13 (congrArg I (by omega))), rfl⟩
  intro m6 f6 H6 hI6
  obtain ⟨k, hm6, hk, hpre, a6_0, a6_1, a6_12, a6_13, rfl⟩ := hI6
  clear a5_0 a5_1 a5_12 a5_13
  refine wpF_seq ?_
  refine wpF_cut (fun f H => f 0 = va ∧ f 1 = vb ∧ f 12 = I ((a.length : Int)) ∧ f 13 = I ((k : Int)) ∧ f 14 = B (decide ((k : Int) < (a.length : Int))) ∧ H0 = H) ?_ ?_
  · refine wpF_region ?_
    refine wpL_q (U := NoB) rfl (q_lss rfl a6_13 a6_12) ?_
    exact ⟨a6_0, a6_1, a6_12, a6_13, rfl, rfl⟩
  rintro f7 _ ⟨a7_0, a7_1, a7_12, a7_13, a7_14, rfl⟩
  clear a6_0 a6_1 a6_12 a6_13
  refine wpF_seq ?_
  refine wpF_condP a7_14 (fun hlt => ?t17) (fun hlt => ?e17)
  case e17 =>
    refine wpF_exit ?_
    refine atX_here ?_
    refine wpF_seq ?_
    refine wpF_cut (fun f H => f 4 = B (true) ∧ H0 = H) ?_ ?_
    · refine wpF_region ?_
      refine wpL_q (U := NoB) rfl (q_assign (v := B (true)) rfl rfl) ?_
      exact ⟨rfl, rfl⟩
    rintro f16 _ ⟨a16_4, rfl⟩
    clear a7_0 a7_1 a7_12 a7_13 a7_14
    refine wpF_ret ?_
    refine ⟨_, resT a16_4 resN, hS0.frame, ?_⟩
    show (B (true)) = B (decide (a = b))
    exact congrArg B (by simp; exact take_all hpre (by omega) (by omega))
  refine wpF_skip ?_
  refine wpF_seq ?_
  refine wpF_block ?_
  refine wpF_seq ?_
  refine wpF_cut (fun f H => f 0 = va ∧ f 1 = vb ∧ f 5 = I ((k : Int)) ∧ f 12 = I ((a.length : Int)) ∧ f 13 = I ((k : Int)) ∧ H0 = H) ?_ ?_
  · refine wpF_region ?_
    refine wpL_q (U := NoB) rfl (q_move (v := I ((k : Int))) rfl a7_13) ?_
    refine wpL_q (U := NoB) rfl (q_assign (v := I ((k : Int))) rfl rfl) ?_
    exact ⟨a7_0, a7_1, rfl, a7_12, a7_13, rfl⟩
  rintro f9 _ ⟨a9_0, a9_1, a9_5, a9_12, a9_13, rfl⟩
  clear a7_0 a7_1 a7_12 a7_13 a7_14
  refine wpF_seq ?_
  refine wpF_cut (fun f H => f 0 = va ∧ f 1 = vb ∧ f 12 = I ((a.length : Int)) ∧ f 13 = I ((k : Int)) ∧ f 24 = B (decide ((nth a k) ≠ (nth b k))) ∧ H0 = H) ?_ ?_
  · refine wpF_drawn [] [] (fun _ _ => False) (by kernel_rfl) (by kernel_rfl) ?_
    refine wpR_q 0 (by kernel_rfl) rfl (quietAt rfl rfl (q_move (v := va) rfl a9_0)) ?_
    refine wpR_q 1 (by kernel_rfl) rfl (quietAt rfl rfl (q_move (v := I ((k : Int))) rfl a9_5)) ?_
    refine wpR_q 2 (by kernel_rfl) rfl (quietAt rfl rfl (q_indexRd (k := k) rfl Try.underlying32 el_Int_3_LoopC1 rfl rfl (hS0.rdl 0 rfl) (by omega) (by omega))) ?_
    refine wpR_q 3 (by kernel_rfl) rfl (quietAt rfl rfl (q_loadInt (k := k) rfl rfl el_Int_3_LoopC1 (hS0.rdl 0 rfl) (by omega) (labU_sub [] rfl (List.forall_mem_nil _)))) ?_
    refine wpR_q 4 (by kernel_rfl) rfl (quietAt rfl rfl (q_move (v := vb) rfl a9_1)) ?_
    refine wpR_q 5 (by kernel_rfl) rfl (quietAt rfl rfl (q_move (v := I ((k : Int))) rfl a9_5)) ?_
    refine wpR_q 6 (by kernel_rfl) rfl (quietAt rfl rfl (q_indexRd (k := k) rfl Try.underlying32 el_Int_3_LoopC1 rfl rfl (hS0.rdl 1 rfl) (by omega) (by omega))) ?_
    refine wpR_q 7 (by kernel_rfl) rfl (quietAt rfl rfl (q_loadInt (k := k) rfl rfl el_Int_3_LoopC1 (hS0.rdl 1 rfl) (by omega) (labU_sub [] rfl (List.forall_mem_nil _)))) ?_
    refine wpR_q 8 (by kernel_rfl) rfl (quietAt rfl rfl (q_neq rfl rfl rfl)) ?_
    refine wpR_end (by kernel_rfl) ?_
    exact ⟨a9_0, a9_1, a9_12, a9_13, rfl, rfl⟩
  rintro f11 _ ⟨a11_0, a11_1, a11_12, a11_13, a11_24, rfl⟩
  clear a9_0 a9_1 a9_12 a9_13 a9_5
  refine wpF_condP a11_24 (fun hne => ?t15) (fun hne => ?e15)
  case e15 =>
    refine wpF_skip ?_
    refine wpF_cut (fun f H => f 0 = va ∧ f 1 = vb ∧ f 12 = I ((a.length : Int)) ∧ f 13 = I ((k : Int) + 1) ∧ H0 = H) ?_ ?_
    · refine wpF_region ?_
      refine wpL_q (U := NoB) rfl (q_add rfl a11_13 rfl (by constructor <;> omega)) ?_
      refine wpL_q (U := NoB) rfl (q_move (v := I ((k : Int) + 1)) rfl rfl) ?_
      exact ⟨a11_0, a11_1, a11_12, rfl, rfl⟩
    rintro f14 _ ⟨a14_0, a14_1, a14_12, a14_13, rfl⟩
    clear a11_0 a11_1 a11_12 a11_13 a11_24
    refine ⟨_, ?_, k + 1, rfl, (by omega), (take_same hpre (by omega) (by omega) (by simpa using hne)), a14_0, a14_1, a14_12, (Eq.trans a14_13 (congrArg I (by omega))), rfl⟩
    omega
  refine wpF_seq ?_
  refine wpF_cut (fun f H => f 4 = B (false) ∧ H0 = H) ?_ ?_
  · refine wpF_region ?_
    refine wpL_q (U := NoB) rfl (q_assign (v := B (false)) rfl rfl) ?_
    exact ⟨rfl, rfl⟩
  rintro f13 _ ⟨a13_4, rfl⟩
  clear a11_0 a11_1 a11_12 a11_13 a11_24
  refine wpF_ret ?_
  refine ⟨_, resT a13_4 resN, hS0.frame, ?_⟩
  show (B (false)) = B (decide (a = b))
  exact congrArg B (by simp; intro h; subst h; simp at hne)

set_option maxRecDepth 100000 in
theorem Clone {H0 : Heap} {S : Nat → Prop} (va : Value) (a : List Int) (ra : Rd S H0 va a) : CallsH Try.prog 53 #[va] H0 (fun rv_ H' => Ext NoB H0 H' ∧ Rd (fun b => S b ∧ b < H0.size) H' rv_ a) := by
  have hby := (Rd.list.1 ra).bound
  have hS0 : St H0 NoB (fun b => S b ∧ b < H0.size) [rdE va a] H0 := St.arg (St.start (fun _ h => h.2)) (Bl0.nil) ra (fun _ h => h.1)
  refine callsH_of_wpF (args := [va]) (rs := [.tmp 2]) Try.func53 rfl Try.ntmps53 Try.results53 (by kernel_rfl) (Nat.le_of_ble_eq_true rfl) ?_
  have a0_0 : argF [va] 0 = va := rfl
  generalize argF [va] = f0 at *
  refine wpF_seq ?_
  refine wpF_cut (fun f H => f 0 = va ∧ H0 = H) ?_ ?_
  · refine wpF_region ?_
    refine wpL_q (U := NoB) rfl (q_assign (v := (Value.slice none 0 0)) rfl rfl) ?_
    exact ⟨a0_0, rfl⟩
  rintro f1 _ ⟨a1_0, rfl⟩
  clear a0_0
  refine wpF_seq ?_
  refine wpF_seq ?_
  refine wpF_cut (fun f H => f 0 = va ∧ f 4 = B (isNil va) ∧ H0 = H) ?_ ?_
  · refine wpF_region ?_
    refine wpL_q (U := NoB) rfl (q_move (v := va) rfl a1_0) ?_
    refine wpL_q (U := NoB) rfl (q_nilS rfl Try.underlying32 rfl ((hS0.rdl 0 rfl))) ?_
    exact ⟨a1_0, rfl, rfl⟩
  rintro f2 _ ⟨a2_0, a2_4, rfl⟩
  clear a1_0
  refine wpF_cond a2_4 (fun hnil => ?t14) (fun hnil => ?e14)
  case t14 =>
    refine wpF_seq ?_
    refine wpF_cut (fun f H => f 2 = (Value.slice none 0 0) ∧ H0 = H) ?_ ?_
    · refine wpF_region ?_
      refine wpL_q (U := NoB) rfl (q_assign (v := (Value.slice none 0 0)) rfl rfl) ?_
      exact ⟨rfl, rfl⟩
    rintro f4 _ ⟨a4_2, rfl⟩
    clear a2_0 a2_4
    refine wpF_ret ?_
    refine ⟨_, resT a4_2 resN, hS0.frame, ?_⟩
    show Rd (fun b => S b ∧ b < H0.size) H0 (Value.slice none 0 0) a
    rw [isNil_len (Rd.list.1 ra) hnil]
    exact rdNil
  refine wpF_skip ?_
  refine wpF_seq ?_
  refine wpF_cut (fun f H => ∃ (v9 : Value), f 2 = v9 ∧ St H0 NoB (fun b => S b ∧ b < H0.size) [rowE 3 v9 (a : List Int)] H) ?_ ?_
  · refine wpF_region ?_
    refine wpL_o rfl ?_
    refine e_buildSlice (vs := []) (xs := ([] : List Int)) rfl Try.underlying32 Try.zeroValue3 rfl Try.sizeOf3 par0 rfl hS0 (RdVs.nil) (by decide) (by decide) (fun v5 H6 hS7 hxx hvv5 => ?_)
    replace hS7 : St H0 NoB (fun b => S b ∧ b < H0.size) [rowE 3 v5 ([] : List Int), rdE va a] H6 := hS7
    refine wpL_q (U := NoB) rfl (q_move (v := va) rfl a2_0) ?_
    have hS8 : St H0 NoB (fun b => S b ∧ b < H0.size) [rowE 3 v5 ([] : List Int), rdE va a] H6 := hS7
    refine wpL_o rfl ?_
    refine e_append rfl Try.underlying32 em_Int_3_LoopC1 rfl rfl hS8 (hS8.rdS 1 rfl) (fun _ h => h) (by have : GoT.bytes Int = 8 := rfl; simp; omega) (by decide) (fun v9 H10 hS11 hxx => ?_)
    replace hS11 : St H0 NoB (fun b => S b ∧ b < H0.size) [rowE 3 v9 (a : List Int), rdE va a] H10 := by simpa using hS11
    refine wpL_q (U := NoB) rfl (q_assign (v := v9) rfl rfl) ?_
    exact ⟨v9, rfl, (hS11.drop (sk (sn (List.Sublist.slnil))))⟩
  rintro f12 H12 ⟨v9, a12_2, hS12⟩
  clear a2_0 a2_4
  refine wpF_ret ?_
  refine ⟨_, resT a12_2 resN, hS12.frame, ?_⟩
  show Rd (fun b => S b ∧ b < H0.size) H12 v9 a
  have hS13 : St H0 NoB (fun b => S b ∧ b < H0.size) [rdE v9 a] H12 := St.fin hS12
  exact (hS13.result (hS13.rdS 0 rfl))

set_option maxRecDepth 100000 in
theorem IndexFunc {H0 : Heap} (vs vf : Value) (l : List Int) (gp : Int → Bool) (rs : Rd NoB H0 vs l) (hf : ∀ x, x ∈ l → ∀ H, Ext NoB H0 H → FnH Try.prog vf #[I x] H (fun rv H' => Ext NoB H H' ∧ rv = B (gp x))) : CallsH Try.prog 75 #[vs, vf] H0 (fun rv_ H' => Ext NoB H0 H' ∧ rv_ = I (idxOf gp l)) := by
  have hsm := (Rd.list.1 rs).small
  have hS0 : St H0 NoB NoB [rdE vs l] H0 := St.arg (St.start (fun _ h => h.elim)) (Bl0.nil) rs (fun _ h => h)
  refine callsH_of_wpF (args := [vs, vf]) (rs := [.tmp 4]) Try.func75 rfl Try.ntmps75 Try.results75 (by kernel_rfl) (Nat.le_of_ble_eq_true rfl) ?_
  have a0_0 : argF [vs, vf] 0 = vs := rfl
  have a0_1 : argF [vs, vf] 1 = vf := rfl
  generalize argF [vs, vf] = f0 at *
  refine wpF_seq ?_
  refine wpF_cut (fun f H => f 0 = vs ∧ f 1 = vf ∧ H0 = H) ?_ ?_
  · refine wpF_region ?_
    refine wpL_q (U := NoB) rfl (q_assign (v := I (0)) rfl rfl) ?_
    exact ⟨a0_0, a0_1, rfl⟩
  rintro f1 _ ⟨a1_0, a1_1, rfl⟩
  clear a0_0 a0_1
  refine wpF_seq ?_
  refine wpF_seq ?_
  refine wpF_cut (fun f H => f 0 = vs ∧ f 1 = vf ∧ f 7 = I ((l.length : Int)) ∧ f 8 = I (0) ∧ H0 = H) ?_ ?_
  · refine wpF_region ?_
    refine wpL_q (U := NoB) rfl (q_move (v := vs) rfl a1_0) ?_
    refine wpL_q (U := NoB) rfl (q_lenRd rfl Try.underlying32 rfl (hS0.rdl 0 rfl)) ?_
    refine wpL_q (U := NoB) rfl (q_move (v := I (0)) rfl rfl) ?_
    exact ⟨a1_0, a1_1, rfl, rfl, rfl⟩
  rintro f2 _ ⟨a2_0, a2_1, a2_7, a2_8, rfl⟩
  clear a1_0 a1_1
  refine wpF_block ?_
  refine wpF_loop (fun mz f H => ∃ (k : Nat), mz = l.length - k ∧ (k ≤ l.length) ∧ (∀ j, j < k → gp (nth l j) = false) ∧ f 0 = vs ∧ f 1 = vf ∧ f 7 = I ((l.length : Int)) ∧ f 8 = I ((k : Int)) ∧ St H0 NoB NoB [rdE vs l] H) (l.length - 0) ?_ ?_
  · exact ⟨0, rfl, Nat.zero_le _, (fun j hj => absurd hj (Nat.not_lt_zero j)), a2_0, a2_1, a2_7, (Eq.trans a2_8 (congrArg I (by omega))), hS0⟩
  intro m3 f3 H3 hI3
  obtain ⟨k, hm3, hk, hno, a3_0, a3_1, a3_7, a3_8, hS3⟩ := hI3
  clear a2_0 a2_1 a2_7 a2_8
  refine wpF_seq ?_
  refine wpF_cut (fun f H => f 0 = vs ∧ f 1 = vf ∧ f 7 = I ((l.length : Int)) ∧ f 8 = I ((k : Int)) ∧ f 9 = B (decide ((k : Int) < (l.length : Int))) ∧ H3 = H) ?_ ?_
  · refine wpF_region ?_
    refine wpL_q (U := NoB) rfl (q_lss rfl a3_8 a3_7) ?_
    exact ⟨a3_0, a3_1, a3_7, a3_8, rfl, rfl⟩
  rintro f4 _ ⟨a4_0, a4_1, a4_7, a4_8, a4_9, rfl⟩
  clear a3_0 a3_1 a3_7 a3_8
  refine wpF_seq ?_
  refine wpF_condP a4_9 (fun hlt => ?t16) (fun hlt => ?e16)
  case e16 =>
    refine wpF_exit ?_
    refine atX_here ?_
    refine wpF_seq ?_
    refine wpF_cut (fun f H => f 4 = I (-1) ∧ H3 = H) ?_ ?_
    · refine wpF_region ?_
      refine wpL_q (U := NoB) rfl (q_assign (v := I (-1)) rfl rfl) ?_
      exact ⟨rfl, rfl⟩
    rintro f15 _ ⟨a15_4, rfl⟩
    clear a4_0 a4_1 a4_7 a4_8 a4_9
    refine wpF_ret ?_
    refine ⟨_, resT a15_4 resN, hS3.frame, ?_⟩
    show (I (-1)) = I (idxOf gp l)
    exact congrArg I (idxOf_no fun j hj => hno j (by omega)).symm
  refine wpF_skip ?_
  refine wpF_seq ?_
  refine wpF_block ?_
  refine wpF_seq ?_
  refine wpF_cut (fun f H => f 0 = vs ∧ f 1 = vf ∧ f 5 = I ((k : Int)) ∧ f 7 = I ((l.length : Int)) ∧ f 8 = I ((k : Int)) ∧ H3 = H) ?_ ?_
  · refine wpF_region ?_
    refine wpL_q (U := NoB) rfl (q_move (v := I ((k : Int))) rfl a4_8) ?_
    refine wpL_q (U := NoB) rfl (q_assign (v := I ((k : Int))) rfl rfl) ?_
    exact ⟨a4_0, a4_1, rfl, a4_7, a4_8, rfl⟩
  rintro f6 _ ⟨a6_0, a6_1, a6_5, a6_7, a6_8, rfl⟩
  clear a4_0 a4_1 a4_7 a4_8 a4_9
  refine wpF_seq ?_
  refine wpF_cut (fun f H => f 0 = vs ∧ f 1 = vf ∧ f 5 = I ((k : Int)) ∧ f 7 = I ((l.length : Int)) ∧ f 8 = I ((k : Int)) ∧ f 16 = B (gp (nth l k)) ∧ St H0 NoB NoB [rdE vs l] H) ?_ ?_
  · refine wpF_region ?_
    refine wpL_q (U := NoB) rfl (q_move (v := vf) rfl a6_1) ?_
    refine wpL_q (U := NoB) rfl (q_move (v := vs) rfl a6_0) ?_
    refine wpL_q (U := NoB) rfl (q_move (v := I ((k : Int))) rfl a6_5) ?_
    refine wpL_q (U := NoB) rfl (q_indexRd (k := k) rfl Try.underlying32 el_Int_3_LoopC1 rfl rfl (hS3.rdl 0 rfl) (by omega) (by omega)) ?_
    refine wpL_q (U := NoB) rfl (q_loadInt (k := k) rfl rfl el_Int_3_LoopC1 (hS3.rdl 0 rfl) (by omega) (fun _ h => h)) ?_
    refine wpL_o rfl ?_
    refine e_callF rfl rfl (arr1 (v0 := I (nth l k)) rfl) (hf _ (nth_mem (by omega)) _ hS3.frame) ?_
    rintro _ H7 ⟨hxx, rfl⟩
    have hS8 : St H0 NoB NoB [rdE vs l] H7 := hS3.ext hxx
    exact ⟨a6_0, a6_1, a6_5, a6_7, a6_8, rfl, hS8⟩
  rintro f10 H10 ⟨a10_0, a10_1, a10_5, a10_7, a10_8, a10_16, hS10⟩
  clear a6_0 a6_1 a6_5 a6_7 a6_8
  refine wpF_cond a10_16 (fun hg => ?t14) (fun hg => ?e14)
  case e14 =>
    refine wpF_skip ?_
    refine wpF_cut (fun f H => f 0 = vs ∧ f 1 = vf ∧ f 7 = I ((l.length : Int)) ∧ f 8 = I ((k : Int) + 1) ∧ H10 = H) ?_ ?_
    · refine wpF_region ?_
      refine wpL_q (U := NoB) rfl (q_add rfl a10_8 rfl (by constructor <;> omega)) ?_
      refine wpL_q (U := NoB) rfl (q_move (v := I ((k : Int) + 1)) rfl rfl) ?_
      exact ⟨a10_0, a10_1, a10_7, rfl, rfl⟩
    rintro f13 _ ⟨a13_0, a13_1, a13_7, a13_8, rfl⟩
    clear a10_0 a10_1 a10_16 a10_5 a10_7 a10_8
    refine ⟨_, ?_, k + 1, rfl, (by omega), (all_succ hno (by simpa using hg)), a13_0, a13_1, a13_7, (Eq.trans a13_8 (congrArg I (by omega))), hS10⟩
    omega
  refine wpF_seq ?_
  refine wpF_cut (fun f H => f 4 = I ((k : Int)) ∧ H10 = H) ?_ ?_
  · refine wpF_region ?_
    refine wpL_q (U := NoB) rfl (q_move (v := I ((k : Int))) rfl a10_5) ?_
    refine wpL_q (U := NoB) rfl (q_assign (v := I ((k : Int))) rfl rfl) ?_
    exact ⟨rfl, rfl⟩
  rintro f12 _ ⟨a12_4, rfl⟩
  clear a10_0 a10_1 a10_16 a10_5 a10_7 a10_8
  refine wpF_ret ?_
  refine ⟨_, resT a12_4 resN, hS10.frame, ?_⟩
  show (I ((k : Int))) = I (idxOf gp l)
  exact congrArg I (idxOf_at (by omega) hno (by simpa using hg)).symm

set_option maxRecDepth 100000 in
theorem ContainsFunc {H0 : Heap} (vs vf : Value) (l : List Int) (gp : Int → Bool) (rs : Rd NoB H0 vs l) (hf : ∀ x, x ∈ l → ∀ H, Ext NoB H0 H → FnH Try.prog vf #[I x] H (fun rv H' => Ext NoB H H' ∧ rv = B (gp x))) : CallsH Try.prog 70 #[vs, vf] H0 (fun rv_ H' => Ext NoB H0 H' ∧ rv_ = B (l.any gp)) := by
  have hS0 : St H0 NoB NoB [rdE vs l] H0 := St.arg (St.start (fun _ h => h.elim)) (Bl0.nil) rs (fun _ h => h)
  refine callsH_of_wpF (args := [vs, vf]) (rs := [.tmp 4]) Try.func70 rfl Try.ntmps70 Try.results70 (by kernel_rfl) (Nat.le_of_ble_eq_true rfl) ?_
  have a0_0 : argF [vs, vf] 0 = vs := rfl
  have a0_1 : argF [vs, vf] 1 = vf := rfl
  generalize argF [vs, vf] = f0 at *
  refine wpF_seq ?_
  refine wpF_cut (fun f H => f 0 = vs ∧ f 1 = vf ∧ H0 = H) ?_ ?_
  · refine wpF_region ?_
    refine wpL_q (U := NoB) rfl (q_assign (v := B (false)) rfl rfl) ?_
    exact ⟨a0_0, a0_1, rfl⟩
  rintro f1 _ ⟨a1_0, a1_1, rfl⟩
  clear a0_0 a0_1
  refine wpF_seq ?_
  refine wpF_cut (fun f H => f 4 = B (decide (0 ≤ (idxOf gp l))) ∧ St H0 NoB NoB [] H) ?_ ?_
  · refine wpF_region ?_
    refine wpL_q (U := NoB) rfl (q_move (v := vs) rfl a1_0) ?_
    refine wpL_q (U := NoB) rfl (q_move (v := vf) rfl a1_1) ?_
    refine wpL_o rfl ?_
    refine e_call rfl Try.call75 (arr2 (v0 := vs) (v1 := vf) rfl rfl) (IndexFunc vs vf l gp (hS0.rdN 0 rfl) (fun x hx H hE => hf x hx H (hS0.frame.trans hE))) ?_
    rintro _ H2 ⟨hxx, rfl⟩
    have hS3 : St H0 NoB NoB [rdE vs l] H2 := hS0.ext hxx
    refine wpL_q (U := NoB) rfl (q_geq rfl rfl rfl) ?_
    refine wpL_q (U := NoB) rfl (q_assign (v := B (decide (0 ≤ (idxOf gp l)))) rfl rfl) ?_
    exact ⟨rfl, (hS3.drop (sn (List.Sublist.slnil)))⟩
  rintro f5 H5 ⟨a5_4, hS5⟩
  clear a1_0 a1_1
  refine wpF_ret ?_
  refine ⟨_, resT a5_4 resN, hS5.frame, ?_⟩
  show (B (decide (0 ≤ (idxOf gp l)))) = B (l.any gp)
  exact congrArg B (bool_congr_of idxOf_any.symm).symm

set_option maxRecDepth 100000 in
theorem whole_L {H0 : Heap} (x : Int)  : CallsH Try.prog 48 #[I (x)] H0 (fun rv_ H' => Ext NoB H0 H' ∧ rv_ = B (whole x)) := by
  have hS0 : St H0 NoB NoB [] H0 := St.start (fun _ h => h.elim)
  refine callsH_of_wpF (args := [I (x)]) (rs := [.tmp 2]) Try.func48 rfl Try.ntmps48 Try.results48 (by kernel_rfl) (Nat.le_of_ble_eq_true rfl) ?_
  have a0_0 : argF [I (x)] 0 = I (x) := rfl
  generalize argF [I (x)] = f0 at *
  refine wpF_seq ?_
  refine wpF_cut (fun f H => f 0 = I (x) ∧ H0 = H) ?_ ?_
  · refine wpF_region ?_
    refine wpL_q (U := NoB) rfl (q_assign (v := B (false)) rfl rfl) ?_
    exact ⟨a0_0, rfl⟩
  rintro f1 _ ⟨a1_0, rfl⟩
  clear a0_0
  refine wpF_seq ?_
  refine wpF_cut (fun f H => f 2 = B (decide (((-1000000) ≤ x) ∧ (x ≤ 1000000))) ∧ H0 = H) ?_ ?_
  · refine wpF_region ?_
    refine wpL_q (U := NoB) rfl (q_move (v := I (x)) rfl a1_0) ?_
    refine wpL_q (U := NoB) rfl (q_geq rfl rfl rfl) ?_
    refine wpL_q (U := NoB) rfl (q_move (v := B (decide ((-1000000) ≤ x))) rfl rfl) ?_
    by_cases hg2 : (-1000000) ≤ x
    · have hb3 := Eq.trans rfl (congrArg B (decide_eq_true hg2))
      refine wpL_gq (U := NoB) rfl rfl rfl hb3 (q_move (v := I (x)) rfl a1_0) ?_
      refine wpL_gq (U := NoB) rfl rfl rfl hb3 (q_leq rfl rfl rfl) ?_
      refine wpL_q (U := NoB) rfl (q_pickT (v := B (decide (x ≤ 1000000))) rfl hb3 rfl) ?_
      refine wpL_q (U := NoB) rfl (q_assign (v := B (decide (x ≤ 1000000))) rfl rfl) ?_
      exact ⟨(Eq.trans rfl (congrArg B (decide_congr_of ((Iff.rfl).trans (((and_iff_right hg2).trans Iff.rfl)).symm)))), rfl⟩
    · have hb4 := Eq.trans rfl (congrArg B (decide_eq_false hg2))
      refine wpL_gs rfl rfl rfl hb4 rfl ?_
      refine wpL_gs rfl rfl rfl hb4 rfl ?_
      refine wpL_q (U := NoB) rfl (q_pickF (v := B (false)) rfl hb4 rfl) ?_
      refine wpL_q (U := NoB) rfl (q_assign (v := B (false)) rfl rfl) ?_
      exact ⟨(Eq.trans rfl (congrArg B ((decide_eq_false (fun h => hg2 h.1)).symm))), rfl⟩
  rintro f5 _ ⟨a5_2, rfl⟩
  clear a1_0
  refine wpF_ret ?_
  refine ⟨_, resT a5_2 resN, hS0.frame, ?_⟩
  show (B (decide (((-1000000) ≤ x) ∧ (x ≤ 1000000)))) = B (whole x)
  exact congrArg B (by simp [whole])

set_option maxRecDepth 100000 in
theorem outside_1 {H0 : Heap} (x : Int)  : CallsH Try.prog 71 #[I (x)] H0 (fun rv_ H' => Ext NoB H0 H' ∧ rv_ = B (!whole x)) := by
  have hS0 : St H0 NoB NoB [] H0 := St.start (fun _ h => h.elim)
  refine callsH_of_wpF (args := [I (x)]) (rs := [.tmp 2]) Try.func71 rfl Try.ntmps71 Try.results71 (by kernel_rfl) (Nat.le_of_ble_eq_true rfl) ?_
  have a0_0 : argF [I (x)] 0 = I (x) := rfl
  generalize argF [I (x)] = f0 at *
  refine wpF_seq ?_
  refine wpF_cut (fun f H => f 0 = I (x) ∧ H0 = H) ?_ ?_
  · refine wpF_region ?_
    refine wpL_q (U := NoB) rfl (q_assign (v := B (false)) rfl rfl) ?_
    exact ⟨a0_0, rfl⟩
  rintro f1 _ ⟨a1_0, rfl⟩
  clear a0_0
  refine wpF_seq ?_
  refine wpF_cut (fun f H => f 2 = B (!(whole x)) ∧ St H0 NoB NoB [] H) ?_ ?_
  · refine wpF_region ?_
    refine wpL_q (U := NoB) rfl (q_move (v := I (x)) rfl a1_0) ?_
    refine wpL_o rfl ?_
    refine e_call rfl Try.call48 (arr1 (v0 := I (x)) rfl) (whole_L x) ?_
    rintro _ H2 ⟨hxx, rfl⟩
    have hS3 : St H0 NoB NoB [] H2 := hS0.ext hxx
    refine wpL_q (U := NoB) rfl (q_not rfl rfl) ?_
    refine wpL_q (U := NoB) rfl (q_assign (v := B (!(whole x))) rfl rfl) ?_
    exact ⟨rfl, hS3⟩
  rintro f5 H5 ⟨a5_2, hS5⟩
  clear a1_0
  refine wpF_ret ?_
  refine ⟨_, resT a5_2 resN, hS5.frame, ?_⟩
  show (B (!(whole x))) = B (!whole x)
  rfl

set_option maxRecDepth 100000 in
theorem outside {H0 : Heap} (vl : Value) (l : List Int) (rl : Rd NoB H0 vl l) : CallsH Try.prog 47 #[vl] H0 (fun rv_ H' => Ext NoB H0 H' ∧ rv_ = B (outs l)) := by
  have hS0 : St H0 NoB NoB [rdE vl l] H0 := St.arg (St.start (fun _ h => h.elim)) (Bl0.nil) rl (fun _ h => h)
  refine callsH_of_wpF (args := [vl]) (rs := [.tmp 2]) Try.func47 rfl Try.ntmps47 Try.results47 (by kernel_rfl) (Nat.le_of_ble_eq_true rfl) ?_
  have a0_0 : argF [vl] 0 = vl := rfl
  generalize argF [vl] = f0 at *
  refine wpF_seq ?_
  refine wpF_cut (fun f H => f 0 = vl ∧ H0 = H) ?_ ?_
  · refine wpF_region ?_
    refine wpL_q (U := NoB) rfl (q_assign (v := B (false)) rfl rfl) ?_
    exact ⟨a0_0, rfl⟩
  rintro f1 _ ⟨a1_0, rfl⟩
  clear a0_0
  refine wpF_seq ?_
  refine wpF_cut (fun f H => f 2 = B (l.any (fun x => !whole x)) ∧ St H0 NoB NoB [] H) ?_ ?_
  · refine wpF_region ?_
    refine wpL_q (U := NoB) rfl (q_move (v := vl) rfl a1_0) ?_
    refine wpL_o rfl ?_
    refine e_call rfl Try.call70 (arr2 (v0 := vl) (v1 := Value.func (.func 71) #[] #[]) rfl rfl) (ContainsFunc vl (Value.func (.func 71) #[] #[]) l (fun x => !whole x) (hS0.rdN 0 rfl) (fun x hx H hE => ⟨_, _, rfl, Try.call71, outside_1 x⟩)) ?_
    rintro _ H2 ⟨hxx, rfl⟩
    have hS3 : St H0 NoB NoB [rdE vl l] H2 := hS0.ext hxx
    refine wpL_q (U := NoB) rfl (q_assign (v := B (l.any (fun x => !whole x))) rfl rfl) ?_
    exact ⟨rfl, (hS3.drop (sn (List.Sublist.slnil)))⟩
  rintro f5 H5 ⟨a5_2, hS5⟩
  clear a1_0
  refine wpF_ret ?_
  refine ⟨_, resT a5_2 resN, hS5.frame, ?_⟩
  show (B (l.any (fun x => !whole x))) = B (outs l)
  rfl

set_option maxRecDepth 100000 in
theorem Rows_L {H0 : Heap} (vl : Value) (l : List LRow) (n : Int) (rl : Rd NoB H0 vl l) : CallsH Try.prog 46 #[vl, I (n)] H0 (fun rv_ H' => Ext NoB H0 H' ∧ rv_ = I (rowsFault l n)) := by
  have hsl := (Rd.list.1 rl).small
  have hS0 : St H0 NoB NoB [rdE vl l] H0 := St.arg (St.start (fun _ h => h.elim)) (Bl0.nil) rl (fun _ h => h)
  refine callsH_of_wpF (args := [vl, I (n)]) (rs := [.tmp 4]) Try.func46 rfl Try.ntmps46 Try.results46 (by kernel_rfl) (Nat.le_of_ble_eq_true rfl) ?_
  have a0_0 : argF [vl, I (n)] 0 = vl := rfl
  have a0_1 : argF [vl, I (n)] 1 = I (n) := rfl
  generalize argF [vl, I (n)] = f0 at *
  refine wpF_seq ?_
  refine wpF_cut (fun f H => f 0 = vl ∧ f 1 = I (n) ∧ H0 = H) ?_ ?_
  · refine wpF_region ?_
    refine wpL_q (U := NoB) rfl (q_assign (v := I (0)) rfl rfl) ?_
    exact ⟨a0_0, a0_1, rfl⟩
  rintro f1 _ ⟨a1_0, a1_1, rfl⟩
  clear a0_0 a0_1
  refine wpF_seq ?_
  refine wpF_seq ?_
  refine wpF_cut (fun f H => f 0 = vl ∧ f 1 = I (n) ∧ f 9 = B (decide (40 < (l.length : Int))) ∧ H0 = H) ?_ ?_
  · refine wpF_region ?_
    refine wpL_q (U := NoB) rfl (q_move (v := vl) rfl a1_0) ?_
    refine wpL_q (U := NoB) rfl (q_lenRd rfl Try.underlying22 rfl (hS0.rdl 0 rfl)) ?_
    refine wpL_q (U := NoB) rfl (q_gtr rfl rfl rfl) ?_
    exact ⟨a1_0, a1_1, rfl, rfl⟩
  rintro f2 _ ⟨a2_0, a2_1, a2_9, rfl⟩
  clear a1_0 a1_1
  refine wpF_condP a2_9 (fun h1 => ?t47) (fun h1 => ?e47)
  case t47 =>
    refine wpF_seq ?_
    refine wpF_cut (fun f H => f 4 = I (2) ∧ H0 = H) ?_ ?_
    · refine wpF_region ?_
      refine wpL_q (U := NoB) rfl (q_assign (v := I (2)) rfl rfl) ?_
      exact ⟨rfl, rfl⟩
    rintro f4 _ ⟨a4_4, rfl⟩
    clear a2_0 a2_1 a2_9
    refine wpF_ret ?_
    refine ⟨_, resT a4_4 resN, hS0.frame, ?_⟩
    show (I (2)) = I (rowsFault l n)
    exact congrArg I (rowsFault_many h1).symm
  refine wpF_skip ?_
  refine wpF_seq ?_
  refine wpF_seq ?_
  refine wpF_cut (fun f H => f 1 = I (n) ∧ f 10 = vl ∧ f 11 = I ((l.length : Int)) ∧ f 12 = I (0) ∧ H0 = H) ?_ ?_
  · refine wpF_region ?_
    refine wpL_q (U := NoB) rfl (q_move (v := vl) rfl a2_0) ?_
    refine wpL_q (U := NoB) rfl (q_lenRd rfl Try.underlying22 rfl (hS0.rdl 0 rfl)) ?_
    refine wpL_q (U := NoB) rfl (q_move (v := I (0)) rfl rfl) ?_
    exact ⟨a2_1, rfl, rfl, rfl, rfl⟩
  rintro f5 _ ⟨a5_1, a5_10, a5_11, a5_12, rfl⟩
  clear a2_0 a2_1 a2_9
  refine wpF_block ?_
  refine wpF_loop (fun mz f H => ∃ (k : Nat), mz = l.length - k ∧ (k ≤ l.length) ∧ (∀ j, j < k → rowFault n (nth l j) = 0) ∧ f 1 = I (n) ∧ f 10 = vl ∧ f 11 = I ((l.length : Int)) ∧ f 12 = I ((k : Int)) ∧ St H0 NoB NoB [rdE vl l] H) (l.length - 0) ?_ ?_
  · exact ⟨0, rfl, Nat.zero_le _, (fun j hj => absurd hj (Nat.not_lt_zero j)), a5_1, a5_10, a5_11, (Eq.trans a5_12 (congrArg I (by omega))), hS0⟩
  intro m6 f6 H6 hI6
  obtain ⟨k, hm6, hk, hp, a6_1, a6_10, a6_11, a6_12, hS6⟩ := hI6
  clear a5_1 a5_10 a5_11 a5_12
  refine wpF_seq ?_
  refine wpF_cut (fun f H => f 1 = I (n) ∧ f 10 = vl ∧ f 11 = I ((l.length : Int)) ∧ f 12 = I ((k : Int)) ∧ f 13 = B (decide ((k : Int) < (l.length : Int))) ∧ H6 = H) ?_ ?_
  · refine wpF_region ?_
    refine wpL_q (U := NoB) rfl (q_lss rfl a6_12 a6_11) ?_
    exact ⟨a6_1, a6_10, a6_11, a6_12, rfl, rfl⟩
  rintro f7 _ ⟨a7_1, a7_10, a7_11, a7_12, a7_13, rfl⟩
  clear a6_1 a6_10 a6_11 a6_12
  refine wpF_seq ?_
  refine wpF_condP a7_13 (fun hlt => ?t46) (fun hlt => ?e46)
  case e46 =>
    refine wpF_exit ?_
    refine atX_here ?_
    refine wpF_seq ?_
    refine wpF_cut (fun f H => f 4 = I (0) ∧ H6 = H) ?_ ?_
    · refine wpF_region ?_
      refine wpL_q (U := NoB) rfl (q_assign (v := I (0)) rfl rfl) ?_
      exact ⟨rfl, rfl⟩
    rintro f45 _ ⟨a45_4, rfl⟩
    clear a7_1 a7_10 a7_11 a7_12 a7_13
    refine wpF_ret ?_
    refine ⟨_, resT a45_4 resN, hS6.frame, ?_⟩
    show (I (0)) = I (rowsFault l n)
    exact congrArg I (rowsFault_no h1 fun j hj => hp j (by omega)).symm
  refine wpF_skip ?_
  refine wpF_seq ?_
  refine wpF_block ?_
  refine wpF_seq ?_
  refine wpF_cut (fun f H => ∃ (u9n0 : Value), ∃ (g11 : Nat), (In64 (nth l k).Kind) ∧ (In64 (nth l k).To) ∧ f 1 = I (n) ∧ f 6 = PT g11 0 ∧ f 10 = vl ∧ f 11 = I ((l.length : Int)) ∧ f 12 = I ((k : Int)) ∧ St H0 NoB NoB [blkE g11 (.cells #[u9n0, I ((nth l k).Kind), I ((nth l k).To)] 34), rdE u9n0 ((nth l k).Of), rdE vl l] H) ?_ ?_
  · refine wpF_region ?_
    refine wpL_q (U := NoB) rfl (q_indexRd (k := k) rfl Try.underlying22 el_LRow_34_LoopC1 a7_10 a7_12 (hS6.rdl 0 rfl) (by omega) (by omega)) ?_
    obtain ⟨u9, huu9, hlu9⟩ := (Rd.list.1 (hS6.rdS 0 rfl)).elem k (by omega)
    obtain ⟨u9n0, rfl, hu90, hu91, hu92⟩ := Rd.lRow.1 huu9
    have hS10 : St H0 NoB NoB [rdE u9n0 ((nth l k).Of), rdE vl l] H6 := hS6.rd hu90
    refine wpL_q (U := NoB) rfl (q_loadE rfl rfl (hlu9 Try.prog 34 _ el_LRow_34_LoopC1 (fun _ h => False.elim h))) ?_
    refine wpL_o rfl ?_
    refine e_alloc rfl Try.zeroValue34 hS10 (fun g11 H12 hS13 hxx => ?_)
    replace hS13 : St H0 NoB NoB [blkE g11 (.cells #[(Value.slice none 0 0), I (0), I (0)] 34), rdE u9n0 ((nth l k).Of), rdE vl l] H12 := hS13
    refine wpL_o rfl ?_
    refine e_storeBlkA (cs' := #[u9n0, I ((nth l k).Kind), I ((nth l k).To)]) rfl rfl rfl Try.sizeOf34 rfl rfl (List.forall_mem_cons.2 ⟨(oneCell_rdL (hS13.rdl 1 rfl)), List.forall_mem_cons.2 ⟨rfl, List.forall_mem_cons.2 ⟨rfl, List.forall_mem_nil _⟩⟩⟩) hS13 (fun H14 hS15 hxx => ?_)
    replace hS15 : St H0 NoB NoB [blkE g11 (.cells #[u9n0, I ((nth l k).Kind), I ((nth l k).To)] 34), rdE u9n0 ((nth l k).Of), rdE vl l] H14 := hS15
    exact ⟨u9n0, g11, hu91, hu92, a7_1, rfl, a7_10, a7_11, a7_12, hS15⟩
  rintro f16 H16 ⟨u9n0, g11, hu91, hu92, a16_1, a16_6, a16_10, a16_11, a16_12, hS16⟩
  clear a7_1 a7_10 a7_11 a7_12 a7_13
  refine wpF_block ?_
  refine wpF_seq ?_
  refine wpF_cut (fun f H => f 1 = I (n) ∧ f 6 = PT g11 0 ∧ f 10 = vl ∧ f 11 = I ((l.length : Int)) ∧ f 12 = I ((k : Int)) ∧ f 16 = B (decide (((((nth l k).Kind) ≠ 1) ∧ (((nth l k).Kind) ≠ 2)) ∧ (((nth l k).Kind) ≠ 3))) ∧ H16 = H) ?_ ?_
  · refine wpF_region ?_
    refine wpL_q (U := NoB) rfl (q_fieldAddr rfl Try.underlying34 rfl Try.sizeOf3 a16_6) ?_
    refine wpL_q (U := NoB) rfl (q_loadBlk rfl rfl Try.isAgg3 (hS16.blk 0 rfl) rfl (fun h => h)) ?_
    refine wpL_q (U := NoB) rfl (q_neq rfl rfl rfl) ?_
    refine wpL_q (U := NoB) rfl (q_move (v := B (decide (((nth l k).Kind) ≠ 1))) rfl rfl) ?_
    by_cases hg17 : ((nth l k).Kind) ≠ 1
    · have hb18 := Eq.trans rfl (congrArg B (decide_eq_true hg17))
      refine wpL_gq (U := NoB) rfl rfl rfl hb18 (q_fieldAddr rfl Try.underlying34 rfl Try.sizeOf3 a16_6) ?_
      refine wpL_gq (U := NoB) rfl rfl rfl hb18 (q_loadBlk rfl rfl Try.isAgg3 (hS16.blk 0 rfl) rfl (fun h => h)) ?_
      refine wpL_gq (U := NoB) rfl rfl rfl hb18 (q_neq rfl rfl rfl) ?_
      refine wpL_q (U := NoB) rfl (q_pickT (v := B (decide (((nth l k).Kind) ≠ 2))) rfl hb18 rfl) ?_
      refine wpL_q (U := NoB) rfl (q_move (v := B (decide (((nth l k).Kind) ≠ 2))) rfl rfl) ?_
      by_cases hg20 : ((nth l k).Kind) ≠ 2
      · have hb21 := Eq.trans rfl (congrArg B (decide_eq_true hg20))
        refine wpL_gq (U := NoB) rfl rfl rfl hb21 (q_fieldAddr rfl Try.underlying34 rfl Try.sizeOf3 a16_6) ?_
        refine wpL_gq (U := NoB) rfl rfl rfl hb21 (q_loadBlk rfl rfl Try.isAgg3 (hS16.blk 0 rfl) rfl (fun h => h)) ?_
        refine wpL_gq (U := NoB) rfl rfl rfl hb21 (q_neq rfl rfl rfl) ?_
        refine wpL_q (U := NoB) rfl (q_pickT (v := B (decide (((nth l k).Kind) ≠ 3))) rfl hb21 rfl) ?_
        refine wpL_q (U := NoB) rfl (q_assign (v := B (decide (((nth l k).Kind) ≠ 3))) rfl rfl) ?_
        exact ⟨a16_1, a16_6, a16_10, a16_11, a16_12, (Eq.trans rfl (congrArg B (decide_congr_of ((Iff.rfl).trans (((and_iff_right ⟨hg17, hg20⟩).trans Iff.rfl)).symm)))), rfl⟩
      · have hb22 := Eq.trans rfl (congrArg B (decide_eq_false hg20))
        refine wpL_gs rfl rfl rfl hb22 rfl ?_
        refine wpL_gs rfl rfl rfl hb22 rfl ?_
        refine wpL_gs rfl rfl rfl hb22 rfl ?_
        refine wpL_q (U := NoB) rfl (q_pickF (v := B (false)) rfl hb22 rfl) ?_
        refine wpL_q (U := NoB) rfl (q_assign (v := B (false)) rfl rfl) ?_
        exact ⟨a16_1, a16_6, a16_10, a16_11, a16_12, (Eq.trans rfl (congrArg B ((decide_eq_false (fun h => (fun h => hg20 h.2) h.1)).symm))), rfl⟩
    · have hb19 := Eq.trans rfl (congrArg B (decide_eq_false hg17))
      refine wpL_gs rfl rfl rfl hb19 rfl ?_
      refine wpL_gs rfl rfl rfl hb19 rfl ?_
      refine wpL_gs rfl rfl rfl hb19 rfl ?_
      refine wpL_q (U := NoB) rfl (q_pickF (v := B (false)) rfl hb19 rfl) ?_
      refine wpL_q (U := NoB) rfl (q_move (v := B (false)) rfl rfl) ?_
      refine wpL_gs rfl rfl rfl rfl rfl ?_
      refine wpL_gs rfl rfl rfl rfl rfl ?_
      refine wpL_gs rfl rfl rfl rfl rfl ?_
      refine wpL_q (U := NoB) rfl (q_pickF (v := B (false)) rfl rfl rfl) ?_
      refine wpL_q (U := NoB) rfl (q_assign (v := B (false)) rfl rfl) ?_
      exact ⟨a16_1, a16_6, a16_10, a16_11, a16_12, (Eq.trans rfl (congrArg B ((decide_eq_false (fun h => (fun h => hg17 h.1) h.1)).symm))), rfl⟩
  rintro f23 _ ⟨a23_1, a23_6, a23_10, a23_11, a23_12, a23_16, rfl⟩
  clear a16_1 a16_10 a16_11 a16_12 a16_6
  refine wpF_condP a23_16 (fun h2 => ?t44) (fun h2 => ?e44)
  case t44 =>
    refine wpF_seq ?_
    refine wpF_cut (fun f H => f 4 = I (4) ∧ H16 = H) ?_ ?_
    · refine wpF_region ?_
      refine wpL_q (U := NoB) rfl (q_assign (v := I (4)) rfl rfl) ?_
      exact ⟨rfl, rfl⟩
    rintro f25 _ ⟨a25_4, rfl⟩
    clear a23_1 a23_10 a23_11 a23_12 a23_16 a23_6
    refine wpF_ret ?_
    refine ⟨_, resT a25_4 resN, hS16.frame, ?_⟩
    show (I (4)) = I (rowsFault l n)
    exact congrArg I (rowsFault_at h1 (by omega) hp (rowFault_kind (by omega)) (by decide)).symm
  refine wpF_seq ?_
  refine wpF_cut (fun f H => f 1 = I (n) ∧ f 6 = PT g11 0 ∧ f 10 = vl ∧ f 11 = I ((l.length : Int)) ∧ f 12 = I ((k : Int)) ∧ f 30 = B (decide (n < (((nth l k).Of).length : Int))) ∧ H16 = H) ?_ ?_
  · refine wpF_region ?_
    refine wpL_q (U := NoB) rfl (q_fieldAddr rfl Try.underlying34 rfl Try.sizeOf32 a23_6) ?_
    refine wpL_q (U := NoB) rfl (q_loadBlk rfl rfl Try.isAgg32 (hS16.blk 0 rfl) rfl (fun h => h)) ?_
    refine wpL_q (U := NoB) rfl (q_lenRd rfl Try.underlying32 rfl (hS16.rdl 1 rfl)) ?_
    refine wpL_q (U := NoB) rfl (q_move (v := I (n)) rfl a23_1) ?_
    refine wpL_q (U := NoB) rfl (q_gtr rfl rfl rfl) ?_
    refine wpL_q (U := NoB) rfl (q_assign (v := B (decide (n < (((nth l k).Of).length : Int)))) rfl rfl) ?_
    exact ⟨a23_1, a23_6, a23_10, a23_11, a23_12, rfl, rfl⟩
  rintro f26 _ ⟨a26_1, a26_6, a26_10, a26_11, a26_12, a26_30, rfl⟩
  clear a23_1 a23_10 a23_11 a23_12 a23_16 a23_6
  refine wpF_condP a26_30 (fun h3 => ?t43) (fun h3 => ?e43)
  case t43 =>
    refine wpF_seq ?_
    refine wpF_cut (fun f H => f 4 = I (9) ∧ H16 = H) ?_ ?_
    · refine wpF_region ?_
      refine wpL_q (U := NoB) rfl (q_assign (v := I (9)) rfl rfl) ?_
      exact ⟨rfl, rfl⟩
    rintro f28 _ ⟨a28_4, rfl⟩
    clear a26_1 a26_10 a26_11 a26_12 a26_30 a26_6
    refine wpF_ret ?_
    refine ⟨_, resT a28_4 resN, hS16.frame, ?_⟩
    show (I (9)) = I (rowsFault l n)
    exact congrArg I (rowsFault_at h1 (by omega) hp (rowFault_len (by omega) h3) (by decide)).symm
  refine wpF_seq ?_
  refine wpF_cut (fun f H => f 1 = I (n) ∧ f 10 = vl ∧ f 11 = I ((l.length : Int)) ∧ f 12 = I ((k : Int)) ∧ f 36 = B (decide (((outs ((nth l k).Of)) = true) ∨ ((!(whole ((nth l k).To))) = true))) ∧ St H0 NoB NoB [blkE g11 (.cells #[u9n0, I ((nth l k).Kind), I ((nth l k).To)] 34), rdE u9n0 ((nth l k).Of), rdE vl l] H) ?_ ?_
  · refine wpF_region ?_
    refine wpL_q (U := NoB) rfl (q_fieldAddr rfl Try.underlying34 rfl Try.sizeOf32 a26_6) ?_
    refine wpL_q (U := NoB) rfl (q_loadBlk rfl rfl Try.isAgg32 (hS16.blk 0 rfl) rfl (fun h => h)) ?_
    refine wpL_o rfl ?_
    refine e_call rfl Try.call47 (arr1 (v0 := u9n0) rfl) (outside u9n0 ((nth l k).Of) (hS16.rdN 1 rfl)) ?_
    rintro _ H29 ⟨hxx, rfl⟩
    have hS30 : St H0 NoB NoB [blkE g11 (.cells #[u9n0, I ((nth l k).Kind), I ((nth l k).To)] 34), rdE u9n0 ((nth l k).Of), rdE vl l] H29 := hS16.ext hxx
    refine wpL_q (U := NoB) rfl (q_move (v := B (outs ((nth l k).Of))) rfl rfl) ?_
    by_cases hg32 : (outs ((nth l k).Of)) = true
    · have hb33 := Eq.trans rfl (congrArg B hg32)
      refine wpL_gs rfl rfl rfl hb33 rfl ?_
      refine wpL_gs rfl rfl rfl hb33 rfl ?_
      refine wpL_gs rfl rfl rfl hb33 rfl ?_
      refine wpL_gs rfl rfl rfl hb33 rfl ?_
      refine wpL_q (U := NoB) rfl (q_pickT (v := B (true)) rfl hb33 rfl) ?_
      refine wpL_q (U := NoB) rfl (q_assign (v := B (true)) rfl rfl) ?_
      exact ⟨a26_1, a26_10, a26_11, a26_12, (Eq.trans rfl (congrArg B ((decide_eq_true (Or.inl hg32)).symm))), hS30⟩
    · have hb34 := Eq.trans rfl (congrArg B (Bool.eq_false_iff.2 hg32))
      refine wpL_gq (U := NoB) rfl rfl rfl hb34 (q_fieldAddr rfl Try.underlying34 rfl Try.sizeOf3 a26_6) ?_
      refine wpL_gq (U := NoB) rfl rfl rfl hb34 (q_loadBlk rfl rfl Try.isAgg3 (hS30.blk 0 rfl) rfl (fun h => h)) ?_
      refine wpL_go rfl rfl rfl hb34 ?_
      refine e_call rfl Try.call48 (arr1 (v0 := I ((nth l k).To)) rfl) (whole_L ((nth l k).To)) ?_
      rintro _ H35 ⟨hxx, rfl⟩
      have hS36 : St H0 NoB NoB [blkE g11 (.cells #[u9n0, I ((nth l k).Kind), I ((nth l k).To)] 34), rdE u9n0 ((nth l k).Of), rdE vl l] H35 := hS30.ext hxx
      refine wpL_gq (U := NoB) rfl rfl rfl hb34 (q_not rfl rfl) ?_
      refine wpL_q (U := NoB) rfl (q_pickF (v := B (!(whole ((nth l k).To)))) rfl hb34 rfl) ?_
      refine wpL_q (U := NoB) rfl (q_assign (v := B (!(whole ((nth l k).To)))) rfl rfl) ?_
      exact ⟨a26_1, a26_10, a26_11, a26_12, (Eq.trans rfl (congrArg B (bool_congr_of ((Iff.rfl).trans (((or_iff_right hg32).trans Iff.rfl)).symm)))), hS36⟩
  rintro f38 H38 ⟨a38_1, a38_10, a38_11, a38_12, a38_36, hS38⟩
  clear a26_1 a26_10 a26_11 a26_12 a26_30 a26_6
  refine wpF_condP a38_36 (fun h4 => ?t42) (fun h4 => ?e42)
  case e42 =>
    refine wpF_skip ?_
    refine wpF_cut (fun f H => f 1 = I (n) ∧ f 10 = vl ∧ f 11 = I ((l.length : Int)) ∧ f 12 = I ((k : Int) + 1) ∧ H38 = H) ?_ ?_
    · refine wpF_region ?_
      refine wpL_q (U := NoB) rfl (q_add rfl a38_12 rfl (by constructor <;> omega)) ?_
      refine wpL_q (U := NoB) rfl (q_move (v := I ((k : Int) + 1)) rfl rfl) ?_
      exact ⟨a38_1, a38_10, a38_11, rfl, rfl⟩
    rintro f41 _ ⟨a41_1, a41_10, a41_11, a41_12, rfl⟩
    clear a38_1 a38_10 a38_11 a38_12 a38_36
    refine ⟨_, ?_, k + 1, rfl, (by omega), (all_succ hp (rowFault_no (by omega) h3 (out_not h4))), a41_1, a41_10, a41_11, (Eq.trans a41_12 (congrArg I (by omega))), (hS38.drop (sn (sn (sk (List.Sublist.slnil)))))⟩
    omega
  refine wpF_seq ?_
  refine wpF_cut (fun f H => f 4 = I (3) ∧ H38 = H) ?_ ?_
  · refine wpF_region ?_
    refine wpL_q (U := NoB) rfl (q_assign (v := I (3)) rfl rfl) ?_
    exact ⟨rfl, rfl⟩
  rintro f40 _ ⟨a40_4, rfl⟩
  clear a38_1 a38_10 a38_11 a38_12 a38_36
  refine wpF_ret ?_
  refine ⟨_, resT a40_4 resN, hS38.frame, ?_⟩
  show (I (3)) = I (rowsFault l n)
  exact congrArg I (rowsFault_at h1 (by omega) hp (rowFault_out (by omega) h3 (out_of h4)) (by decide)).symm

set_option maxRecDepth 100000 in
theorem jump_L {H0 : Heap} (vw vt : Value) (j : Jump) (n : Int) (rvw : Rd NoB H0 vw j.When) (rvt : Rd NoB H0 vt j.To) : CallsH Try.prog 45 #[Value.agg #[vw, vt], I (n)] H0 (fun rv_ H' => Ext NoB H0 H' ∧ rv_ = I (jumpFault j n)) := by
  have hst : j.To.length * 24 ≤ 140737488355328 := (Rd.list.1 rvt).bound
  have hS0 : St H0 NoB NoB [rdE vw j.When, rdE vt j.To] H0 := St.arg (St.arg (St.start (fun _ h => h.elim)) (Bl0.nil) rvt (fun _ h => h)) (Bl0.cons (Bl0.nil)) rvw (fun _ h => h)
  refine callsH_of_wpF (args := [Value.agg #[vw, vt], I (n)]) (rs := [.tmp 4]) Try.func45 rfl Try.ntmps45 Try.results45 (by kernel_rfl) (Nat.le_of_ble_eq_true rfl) ?_
  have a0_0 : argF [Value.agg #[vw, vt], I (n)] 0 = Value.agg #[vw, vt] := rfl
  have a0_1 : argF [Value.agg #[vw, vt], I (n)] 1 = I (n) := rfl
  generalize argF [Value.agg #[vw, vt], I (n)] = f0 at *
  refine wpF_seq ?_
  refine wpF_cut (fun f H => ∃ (g1 : Nat), f 1 = I (n) ∧ f 2 = PT g1 0 ∧ St H0 NoB NoB [blkE g1 (.cells #[vw, vt] 25), rdE vw j.When, rdE vt j.To] H) ?_ ?_
  · refine wpF_region ?_
    refine wpL_o rfl ?_
    refine e_box (v := Value.agg #[vw, vt]) rfl a0_0 hS0 (fun g1 H2 hS3 hxx => ?_)
    replace hS3 : St H0 NoB NoB [blkE g1 (.cells #[vw, vt] 25), rdE vw j.When, rdE vt j.To] H2 := hS3
    refine wpL_q (U := NoB) rfl (q_assign (v := I (0)) rfl rfl) ?_
    exact ⟨g1, a0_1, rfl, hS3⟩
  rintro f4 H4 ⟨g1, a4_1, a4_2, hS4⟩
  clear a0_0 a0_1
  refine wpF_seq ?_
  refine wpF_seq ?_
  refine wpF_cut (fun f H => f 1 = I (n) ∧ f 2 = PT g1 0 ∧ f 5 = I (rowsFault j.When n) ∧ St H0 NoB NoB [blkE g1 (.cells #[vw, vt] 25), rdE vw j.When, rdE vt j.To] H) ?_ ?_
  · refine wpF_region ?_
    refine wpL_q (U := NoB) rfl (q_fieldAddr rfl Try.underlying25 rfl Try.sizeOf22 a4_2) ?_
    refine wpL_q (U := NoB) rfl (q_loadBlk rfl rfl Try.isAgg22 (hS4.blk 0 rfl) rfl (fun h => h)) ?_
    refine wpL_q (U := NoB) rfl (q_move (v := I (n)) rfl a4_1) ?_
    refine wpL_o rfl ?_
    refine e_call rfl Try.call46 (arr2 (v0 := vw) (v1 := I (n)) rfl rfl) (Rows_L vw j.When n (hS4.rdN 1 rfl)) ?_
    rintro _ H5 ⟨hxx, rfl⟩
    have hS6 : St H0 NoB NoB [blkE g1 (.cells #[vw, vt] 25), rdE vw j.When, rdE vt j.To] H5 := hS4.ext hxx
    refine wpL_q (U := NoB) rfl (q_assign (v := I (rowsFault j.When n)) rfl rfl) ?_
    exact ⟨a4_1, a4_2, rfl, hS6⟩
  rintro f8 H8 ⟨a8_1, a8_2, a8_5, hS8⟩
  clear a4_1 a4_2
  refine wpF_seq ?_
  refine wpF_cut (fun f H => f 1 = I (n) ∧ f 2 = PT g1 0 ∧ f 5 = I (rowsFault j.When n) ∧ f 13 = B (decide ((rowsFault j.When n) ≠ 0)) ∧ H8 = H) ?_ ?_
  · refine wpF_region ?_
    refine wpL_q (U := NoB) rfl (q_move (v := I (rowsFault j.When n)) rfl a8_5) ?_
    refine wpL_q (U := NoB) rfl (q_neq rfl rfl rfl) ?_
    exact ⟨a8_1, a8_2, a8_5, rfl, rfl⟩
  rintro f9 _ ⟨a9_1, a9_2, a9_5, a9_13, rfl⟩
  clear a8_1 a8_2 a8_5
  refine wpF_condP a9_13 (fun h1 => ?t37) (fun h1 => ?e37)
  case t37 =>
    refine wpF_seq ?_
    refine wpF_cut (fun f H => f 4 = I (rowsFault j.When n) ∧ H8 = H) ?_ ?_
    · refine wpF_region ?_
      refine wpL_q (U := NoB) rfl (q_move (v := I (rowsFault j.When n)) rfl a9_5) ?_
      refine wpL_q (U := NoB) rfl (q_assign (v := I (rowsFault j.When n)) rfl rfl) ?_
      exact ⟨rfl, rfl⟩
    rintro f11 _ ⟨a11_4, rfl⟩
    clear a9_1 a9_13 a9_2 a9_5
    refine wpF_ret ?_
    refine ⟨_, resT a11_4 resN, hS8.frame, ?_⟩
    show (I (rowsFault j.When n)) = I (jumpFault j n)
    exact congrArg I (jumpFault_when h1).symm
  refine wpF_skip ?_
  refine wpF_seq ?_
  refine wpF_seq ?_
  refine wpF_cut (fun f H => f 1 = I (n) ∧ f 2 = PT g1 0 ∧ f 19 = B (decide ((j.To.length : Int) ≠ n)) ∧ H8 = H) ?_ ?_
  · refine wpF_region ?_
    refine wpL_q (U := NoB) rfl (q_fieldAddr rfl Try.underlying25 rfl Try.sizeOf23 a9_2) ?_
    refine wpL_q (U := NoB) rfl (q_loadBlk rfl rfl Try.isAgg23 (hS8.blk 0 rfl) rfl (fun h => h)) ?_
    refine wpL_q (U := NoB) rfl (q_lenRd rfl Try.underlying23 rfl (hS8.rdl 2 rfl)) ?_
    refine wpL_q (U := NoB) rfl (q_move (v := I (n)) rfl a9_1) ?_
    refine wpL_q (U := NoB) rfl (q_neq rfl rfl rfl) ?_
    exact ⟨a9_1, a9_2, rfl, rfl⟩
  rintro f12 _ ⟨a12_1, a12_2, a12_19, rfl⟩
  clear a9_1 a9_13 a9_2 a9_5
  refine wpF_condP a12_19 (fun h2 => ?t36) (fun h2 => ?e36)
  case t36 =>
    refine wpF_seq ?_
    refine wpF_cut (fun f H => f 4 = I (9) ∧ H8 = H) ?_ ?_
    · refine wpF_region ?_
      refine wpL_q (U := NoB) rfl (q_assign (v := I (9)) rfl rfl) ?_
      exact ⟨rfl, rfl⟩
    rintro f14 _ ⟨a14_4, rfl⟩
    clear a12_1 a12_19 a12_2
    refine wpF_ret ?_
    refine ⟨_, resT a14_4 resN, hS8.frame, ?_⟩
    show (I (9)) = I (jumpFault j n)
    exact congrArg I (jumpFault_len h1 h2).symm
  refine wpF_skip ?_
  refine wpF_seq ?_
  refine wpF_seq ?_
  refine wpF_cut (fun f H => f 1 = I (n) ∧ f 21 = vt ∧ f 22 = I ((j.To.length : Int)) ∧ f 23 = I (0) ∧ H8 = H) ?_ ?_
  · refine wpF_region ?_
    refine wpL_q (U := NoB) rfl (q_fieldAddr rfl Try.underlying25 rfl Try.sizeOf23 a12_2) ?_
    refine wpL_q (U := NoB) rfl (q_loadBlk rfl rfl Try.isAgg23 (hS8.blk 0 rfl) rfl (fun h => h)) ?_
    refine wpL_q (U := NoB) rfl (q_lenRd rfl Try.underlying23 rfl (hS8.rdl 2 rfl)) ?_
    refine wpL_q (U := NoB) rfl (q_move (v := I (0)) rfl rfl) ?_
    exact ⟨a12_1, rfl, rfl, rfl, rfl⟩
  rintro f15 _ ⟨a15_1, a15_21, a15_22, a15_23, rfl⟩
  clear a12_1 a12_19 a12_2
  refine wpF_block ?_
  refine wpF_loop (fun mz f H => ∃ (k : Nat), mz = j.To.length - k ∧ (k ≤ j.To.length) ∧ (∀ i, i < k → toFault n (nth j.To i) = 0) ∧ f 1 = I (n) ∧ f 21 = vt ∧ f 22 = I ((j.To.length : Int)) ∧ f 23 = I ((k : Int)) ∧ St H0 NoB NoB [blkE g1 (.cells #[vw, vt] 25), rdE vw j.When, rdE vt j.To] H) (j.To.length - 0) ?_ ?_
  · exact ⟨0, rfl, Nat.zero_le _, (fun j hj => absurd hj (Nat.not_lt_zero j)), a15_1, a15_21, a15_22, (Eq.trans a15_23 (congrArg I (by omega))), hS8⟩
  intro m16 f16 H16 hI16
  obtain ⟨k, hm16, hk, hp, a16_1, a16_21, a16_22, a16_23, hS16⟩ := hI16
  clear a15_1 a15_21 a15_22 a15_23
  refine wpF_seq ?_
  refine wpF_cut (fun f H => f 1 = I (n) ∧ f 21 = vt ∧ f 22 = I ((j.To.length : Int)) ∧ f 23 = I ((k : Int)) ∧ f 24 = B (decide ((k : Int) < (j.To.length : Int))) ∧ H16 = H) ?_ ?_
  · refine wpF_region ?_
    refine wpL_q (U := NoB) rfl (q_lss rfl a16_23 a16_22) ?_
    exact ⟨a16_1, a16_21, a16_22, a16_23, rfl, rfl⟩
  rintro f17 _ ⟨a17_1, a17_21, a17_22, a17_23, a17_24, rfl⟩
  clear a16_1 a16_21 a16_22 a16_23
  refine wpF_seq ?_
  refine wpF_condP a17_24 (fun hlt => ?t35) (fun hlt => ?e35)
  case e35 =>
    refine wpF_exit ?_
    refine atX_here ?_
    refine wpF_seq ?_
    refine wpF_cut (fun f H => f 4 = I (0) ∧ H16 = H) ?_ ?_
    · refine wpF_region ?_
      refine wpL_q (U := NoB) rfl (q_assign (v := I (0)) rfl rfl) ?_
      exact ⟨rfl, rfl⟩
    rintro f34 _ ⟨a34_4, rfl⟩
    clear a17_1 a17_21 a17_22 a17_23 a17_24
    refine wpF_ret ?_
    refine ⟨_, resT a34_4 resN, hS16.frame, ?_⟩
    show (I (0)) = I (jumpFault j n)
    exact congrArg I (jumpFault_no h1 h2 fun j hj => hp j (by omega)).symm
  refine wpF_skip ?_
  refine wpF_seq ?_
  refine wpF_block ?_
  refine wpF_seq ?_
  obtain ⟨u19, huu19, hlu19⟩ := (Rd.list.1 (hS16.rdS 2 rfl)).elem k (by omega)
  have hS20 : St H0 NoB NoB [rdE u19 (nth j.To k), blkE g1 (.cells #[vw, vt] 25), rdE vw j.When, rdE vt j.To] H16 := hS16.rd huu19
  refine wpF_cut (fun f H => f 1 = I (n) ∧ f 7 = u19 ∧ f 21 = vt ∧ f 22 = I ((j.To.length : Int)) ∧ f 23 = I ((k : Int)) ∧ St H0 NoB NoB [rdE u19 (nth j.To k), blkE g1 (.cells #[vw, vt] 25), rdE vw j.When, rdE vt j.To] H) ?_ ?_
  · refine wpF_region ?_
    refine wpL_q (U := NoB) rfl (q_indexRd (k := k) rfl Try.underlying23 el_LInt_32_LoopC1 a17_21 a17_23 (hS16.rdl 2 rfl) (by omega) (by omega)) ?_
    refine wpL_q (U := NoB) rfl (q_loadE rfl rfl (hlu19 Try.prog 32 _ el_LInt_32_LoopC1 (fun _ h => False.elim h))) ?_
    refine wpL_q (U := NoB) rfl (q_assign (v := u19) rfl rfl) ?_
    exact ⟨a17_1, rfl, a17_21, a17_22, a17_23, hS20⟩
  rintro f21 H21 ⟨a21_1, a21_7, a21_21, a21_22, a21_23, hS21⟩
  clear a17_1 a17_21 a17_22 a17_23 a17_24
  refine wpF_block ?_
  refine wpF_seq ?_
  refine wpF_cut (fun f H => f 1 = I (n) ∧ f 7 = u19 ∧ f 21 = vt ∧ f 22 = I ((j.To.length : Int)) ∧ f 23 = I ((k : Int)) ∧ f 27 = B (decide (((nth j.To k).length : Int) ≠ (n + 1))) ∧ H21 = H) ?_ ?_
  · refine wpF_region ?_
    refine wpL_q (U := NoB) rfl (q_move (v := u19) rfl a21_7) ?_
    refine wpL_q (U := NoB) rfl (q_lenRd rfl Try.underlying32 rfl (hS21.rdl 0 rfl)) ?_
    refine wpL_q (U := NoB) rfl (q_move (v := I (n)) rfl a21_1) ?_
    refine wpL_q (U := NoB) rfl (q_add rfl rfl rfl (by constructor <;> omega)) ?_
    refine wpL_q (U := NoB) rfl (q_neq rfl rfl rfl) ?_
    refine wpL_q (U := NoB) rfl (q_assign (v := B (decide (((nth j.To k).length : Int) ≠ (n + 1)))) rfl rfl) ?_
    exact ⟨a21_1, a21_7, a21_21, a21_22, a21_23, rfl, rfl⟩
  rintro f22 _ ⟨a22_1, a22_7, a22_21, a22_22, a22_23, a22_27, rfl⟩
  clear a21_1 a21_21 a21_22 a21_23 a21_7
  refine wpF_condP a22_27 (fun h3 => ?t33) (fun h3 => ?e33)
  case t33 =>
    refine wpF_seq ?_
    refine wpF_cut (fun f H => f 4 = I (9) ∧ H21 = H) ?_ ?_
    · refine wpF_region ?_
      refine wpL_q (U := NoB) rfl (q_assign (v := I (9)) rfl rfl) ?_
      exact ⟨rfl, rfl⟩
    rintro f24 _ ⟨a24_4, rfl⟩
    clear a22_1 a22_21 a22_22 a22_23 a22_27 a22_7
    refine wpF_ret ?_
    refine ⟨_, resT a24_4 resN, hS21.frame, ?_⟩
    show (I (9)) = I (jumpFault j n)
    exact congrArg I (jumpFault_at h1 h2 (by omega) hp (toFault_len h3) (by decide)).symm
  refine wpF_seq ?_
  refine wpF_cut (fun f H => f 1 = I (n) ∧ f 21 = vt ∧ f 22 = I ((j.To.length : Int)) ∧ f 23 = I ((k : Int)) ∧ f 33 = B (outs (nth j.To k)) ∧ St H0 NoB NoB [blkE g1 (.cells #[vw, vt] 25), rdE vw j.When, rdE vt j.To] H) ?_ ?_
  · refine wpF_region ?_
    refine wpL_q (U := NoB) rfl (q_move (v := u19) rfl a22_7) ?_
    refine wpL_o rfl ?_
    refine e_call rfl Try.call47 (arr1 (v0 := u19) rfl) (outside u19 (nth j.To k) (hS21.rdN 0 rfl)) ?_
    rintro _ H25 ⟨hxx, rfl⟩
    have hS26 : St H0 NoB NoB [rdE u19 (nth j.To k), blkE g1 (.cells #[vw, vt] 25), rdE vw j.When, rdE vt j.To] H25 := hS21.ext hxx
    refine wpL_q (U := NoB) rfl (q_assign (v := B (outs (nth j.To k))) rfl rfl) ?_
    exact ⟨a22_1, a22_21, a22_22, a22_23, rfl, (hS26.drop (sn (sk (sk (sk (List.Sublist.slnil))))))⟩
  rintro f28 H28 ⟨a28_1, a28_21, a28_22, a28_23, a28_33, hS28⟩
  clear a22_1 a22_21 a22_22 a22_23 a22_27 a22_7
  refine wpF_cond a28_33 (fun h4 => ?t32) (fun h4 => ?e32)
  case e32 =>
    refine wpF_skip ?_
    refine wpF_cut (fun f H => f 1 = I (n) ∧ f 21 = vt ∧ f 22 = I ((j.To.length : Int)) ∧ f 23 = I ((k : Int) + 1) ∧ H28 = H) ?_ ?_
    · refine wpF_region ?_
      refine wpL_q (U := NoB) rfl (q_add rfl a28_23 rfl (by constructor <;> omega)) ?_
      refine wpL_q (U := NoB) rfl (q_move (v := I ((k : Int) + 1)) rfl rfl) ?_
      exact ⟨a28_1, a28_21, a28_22, rfl, rfl⟩
    rintro f31 _ ⟨a31_1, a31_21, a31_22, a31_23, rfl⟩
    clear a28_1 a28_21 a28_22 a28_23 a28_33
    refine ⟨_, ?_, k + 1, rfl, (by omega), (all_succ hp (toFault_no h3 (by simpa using h4))), a31_1, a31_21, a31_22, (Eq.trans a31_23 (congrArg I (by omega))), hS28⟩
    omega
  refine wpF_seq ?_
  refine wpF_cut (fun f H => f 4 = I (3) ∧ H28 = H) ?_ ?_
  · refine wpF_region ?_
    refine wpL_q (U := NoB) rfl (q_assign (v := I (3)) rfl rfl) ?_
    exact ⟨rfl, rfl⟩
  rintro f30 _ ⟨a30_4, rfl⟩
  clear a28_1 a28_21 a28_22 a28_23 a28_33
  refine wpF_ret ?_
  refine ⟨_, resT a30_4 resN, hS28.frame, ?_⟩
  show (I (3)) = I (jumpFault j n)
  exact congrArg I (jumpFault_at h1 h2 (by omega) hp (toFault_out h3 h4) (by decide)).symm

end Go.Um
