import Derived.Test.YtpdcejallbbncaaProg
import Derived.Test.YtpdcejallbbncaaUmLook
import Derived.Test.YtpdcejallbbncaaUmClip
import Derived.Test.YtpdcejallbbncaaActPlain
import Derived.Test.YtpdcejallbbncaaUmSub
namespace Go.Um
open Go.Proofs
open GoT (sz ag rdc)
open KeyT (kv)

theorem el_Act_37_ActC1 : ElT Try.prog Act 37 := ⟨Try.isAgg37, Try.sizeOf37⟩
theorem el_Bool_4_ActC1 : ElT Try.prog Bool 4 := ⟨Try.isAgg4, Try.sizeOf4⟩
theorem el_Int_3_ActC1 : ElT Try.prog Int 3 := ⟨Try.isAgg3, Try.sizeOf3⟩
theorem em_Bool_4_ActC1 : ElemOk Try.prog Bool 4 := ⟨Try.t4, (.bool false), by kernel_rfl, by kernel_rfl, by kernel_rfl, by kernel_rfl, by kernel_rfl⟩

set_option maxRecDepth 100000 in
theorem in_R {H0 : Heap} (n lo hi : Int)  : CallsH Try.prog 38 #[I (n), I (lo), I (hi)] H0 (fun rv_ H' => Ext NoB H0 H' ∧ rv_ = B (decide (lo ≤ n ∧ n ≤ hi))) := by
  have hS0 : St H0 NoB NoB [] H0 := St.start (fun _ h => h.elim)
  refine callsH_of_wpF (args := [I (n), I (lo), I (hi)]) (rs := [.tmp 6]) Try.func38 rfl Try.ntmps38 Try.results38 (by kernel_rfl) (Nat.le_of_ble_eq_true rfl) ?_
  have a0_0 : argF [I (n), I (lo), I (hi)] 0 = I (n) := rfl
  have a0_1 : argF [I (n), I (lo), I (hi)] 1 = I (lo) := rfl
  have a0_2 : argF [I (n), I (lo), I (hi)] 2 = I (hi) := rfl
  generalize argF [I (n), I (lo), I (hi)] = f0 at *
  refine wpF_seq ?_
  refine wpF_cut (fun f H => f 0 = I (n) ∧ f 1 = I (lo) ∧ f 2 = I (hi) ∧ H0 = H) ?_ ?_
  · refine wpF_region ?_
    refine wpL_q (U := NoB) rfl (q_assign (v := B (false)) rfl rfl) ?_
    exact ⟨a0_0, a0_1, a0_2, rfl⟩
  rintro f1 _ ⟨a1_0, a1_1, a1_2, rfl⟩
  clear a0_0 a0_1 a0_2
  refine wpF_seq ?_
  refine wpF_cut (fun f H => f 6 = B (decide ((lo ≤ n) ∧ (n ≤ hi))) ∧ H0 = H) ?_ ?_
  · refine wpF_region ?_
    refine wpL_q (U := NoB) rfl (q_move (v := I (n)) rfl a1_0) ?_
    refine wpL_q (U := NoB) rfl (q_move (v := I (lo)) rfl a1_1) ?_
    refine wpL_q (U := NoB) rfl (q_geq rfl rfl rfl) ?_
    refine wpL_q (U := NoB) rfl (q_move (v := B (decide (lo ≤ n))) rfl rfl) ?_
    by_cases hg2 : lo ≤ n
    · have hb3 := Eq.trans rfl (congrArg B (decide_eq_true hg2))
      refine wpL_gq (U := NoB) rfl rfl rfl hb3 (q_move (v := I (n)) rfl a1_0) ?_
      refine wpL_gq (U := NoB) rfl rfl rfl hb3 (q_move (v := I (hi)) rfl a1_2) ?_
      refine wpL_gq (U := NoB) rfl rfl rfl hb3 (q_leq rfl rfl rfl) ?_
      refine wpL_q (U := NoB) rfl (q_pickT (v := B (decide (n ≤ hi))) rfl hb3 rfl) ?_
      refine wpL_q (U := NoB) rfl (q_assign (v := B (decide (n ≤ hi))) rfl rfl) ?_
      exact ⟨(Eq.trans rfl (congrArg B (decide_congr_of ((Iff.rfl).trans (((and_iff_right hg2).trans Iff.rfl)).symm)))), rfl⟩
    · have hb4 := Eq.trans rfl (congrArg B (decide_eq_false hg2))
      refine wpL_gs rfl rfl rfl hb4 rfl ?_
      refine wpL_gs rfl rfl rfl hb4 rfl ?_
      refine wpL_gs rfl rfl rfl hb4 rfl ?_
      refine wpL_q (U := NoB) rfl (q_pickF (v := B (false)) rfl hb4 rfl) ?_
      refine wpL_q (U := NoB) rfl (q_assign (v := B (false)) rfl rfl) ?_
      exact ⟨(Eq.trans rfl (congrArg B ((decide_eq_false (fun h => hg2 h.1)).symm))), rfl⟩
  rintro f5 _ ⟨a5_6, rfl⟩
  clear a1_0 a1_1 a1_2
  refine wpF_ret ?_
  refine ⟨_, resT a5_6 resN, hS0.frame, ?_⟩
  show (B (decide ((lo ≤ n) ∧ (n ≤ hi)))) = B (decide (lo ≤ n ∧ n ≤ hi))
  exact congrArg B (by simp)

set_option maxRecDepth 100000 in
theorem in_L {H0 : Heap} (n lo hi : Int)  : CallsH Try.prog 17 #[I (n), I (lo), I (hi)] H0 (fun rv_ H' => Ext NoB H0 H' ∧ rv_ = B (decide (lo ≤ n ∧ n ≤ hi))) := by
  have hS0 : St H0 NoB NoB [] H0 := St.start (fun _ h => h.elim)
  refine callsH_of_wpF (args := [I (n), I (lo), I (hi)]) (rs := [.tmp 6]) Try.func17 rfl Try.ntmps17 Try.results17 (by kernel_rfl) (Nat.le_of_ble_eq_true rfl) ?_
  have a0_0 : argF [I (n), I (lo), I (hi)] 0 = I (n) := rfl
  have a0_1 : argF [I (n), I (lo), I (hi)] 1 = I (lo) := rfl
  have a0_2 : argF [I (n), I (lo), I (hi)] 2 = I (hi) := rfl
  generalize argF [I (n), I (lo), I (hi)] = f0 at *
  refine wpF_seq ?_
  refine wpF_cut (fun f H => f 0 = I (n) ∧ f 1 = I (lo) ∧ f 2 = I (hi) ∧ H0 = H) ?_ ?_
  · refine wpF_region ?_
    refine wpL_q (U := NoB) rfl (q_assign (v := B (false)) rfl rfl) ?_
    exact ⟨a0_0, a0_1, a0_2, rfl⟩
  rintro f1 _ ⟨a1_0, a1_1, a1_2, rfl⟩
  clear a0_0 a0_1 a0_2
  refine wpF_seq ?_
  refine wpF_cut (fun f H => f 6 = B (decide ((lo ≤ n) ∧ (n ≤ hi))) ∧ H0 = H) ?_ ?_
  · refine wpF_region ?_
    refine wpL_q (U := NoB) rfl (q_move (v := I (n)) rfl a1_0) ?_
    refine wpL_q (U := NoB) rfl (q_move (v := I (lo)) rfl a1_1) ?_
    refine wpL_q (U := NoB) rfl (q_geq rfl rfl rfl) ?_
    refine wpL_q (U := NoB) rfl (q_move (v := B (decide (lo ≤ n))) rfl rfl) ?_
    by_cases hg2 : lo ≤ n
    · have hb3 := Eq.trans rfl (congrArg B (decide_eq_true hg2))
      refine wpL_gq (U := NoB) rfl rfl rfl hb3 (q_move (v := I (n)) rfl a1_0) ?_
      refine wpL_gq (U := NoB) rfl rfl rfl hb3 (q_move (v := I (hi)) rfl a1_2) ?_
      refine wpL_gq (U := NoB) rfl rfl rfl hb3 (q_leq rfl rfl rfl) ?_
      refine wpL_q (U := NoB) rfl (q_pickT (v := B (decide (n ≤ hi))) rfl hb3 rfl) ?_
      refine wpL_q (U := NoB) rfl (q_assign (v := B (decide (n ≤ hi))) rfl rfl) ?_
      exact ⟨(Eq.trans rfl (congrArg B (decide_congr_of ((Iff.rfl).trans (((and_iff_right hg2).trans Iff.rfl)).symm)))), rfl⟩
    · have hb4 := Eq.trans rfl (congrArg B (decide_eq_false hg2))
      refine wpL_gs rfl rfl rfl hb4 rfl ?_
      refine wpL_gs rfl rfl rfl hb4 rfl ?_
      refine wpL_gs rfl rfl rfl hb4 rfl ?_
      refine wpL_q (U := NoB) rfl (q_pickF (v := B (false)) rfl hb4 rfl) ?_
      refine wpL_q (U := NoB) rfl (q_assign (v := B (false)) rfl rfl) ?_
      exact ⟨(Eq.trans rfl (congrArg B ((decide_eq_false (fun h => hg2 h.1)).symm))), rfl⟩
  rintro f5 _ ⟨a5_6, rfl⟩
  clear a1_0 a1_1 a1_2
  refine wpF_ret ?_
  refine ⟨_, resT a5_6 resN, hS0.frame, ?_⟩
  show (B (decide ((lo ≤ n) ∧ (n ≤ hi)))) = B (decide (lo ≤ n ∧ n ≤ hi))
  exact congrArg B (by simp)

set_option maxRecDepth 100000 in
theorem fault_R {H0 : Heap} (c a : Int)  : CallsH Try.prog 39 #[I (c), I (a)] H0 (fun rv_ H' => Ext NoB H0 H' ∧ rv_ = Value.agg #[I c, I a]) := by
  have hS0 : St H0 NoB NoB [] H0 := St.start (fun _ h => h.elim)
  refine callsH_of_wpF (args := [I (c), I (a)]) (rs := [.cell 4 27]) Try.func39 rfl Try.ntmps39 Try.results39 (by kernel_rfl) (Nat.le_of_ble_eq_true rfl) ?_
  have a0_0 : argF [I (c), I (a)] 0 = I (c) := rfl
  have a0_1 : argF [I (c), I (a)] 1 = I (a) := rfl
  generalize argF [I (c), I (a)] = f0 at *
  refine wpF_seq ?_
  refine wpF_cut (fun f H => ∃ (g1 : Nat), f 0 = I (c) ∧ f 1 = I (a) ∧ f 4 = PT g1 0 ∧ St H0 NoB NoB [blkE g1 (.cells #[I (0), I (0)] 27)] H) ?_ ?_
  · refine wpF_region ?_
    refine wpL_o rfl ?_
    refine e_alloc rfl Try.zeroValue27 hS0 (fun g1 H2 hS3 hxx => ?_)
    replace hS3 : St H0 NoB NoB [blkE g1 (.cells #[I (0), I (0)] 27)] H2 := hS3
    exact ⟨g1, a0_0, a0_1, rfl, hS3⟩
  rintro f4 H4 ⟨g1, a4_0, a4_1, a4_4, hS4⟩
  clear a0_0 a0_1
  refine wpF_seq ?_
  refine wpF_cut (fun f H => f 4 = PT g1 0 ∧ St H0 NoB NoB [blkE g1 (.cells #[I (c), I (a)] 27)] H) ?_ ?_
  · refine wpF_region ?_
    refine wpL_q (U := NoB) rfl (q_move (v := I (c)) rfl a4_0) ?_
    refine wpL_q (U := NoB) rfl (q_move (v := I (a)) rfl a4_1) ?_
    refine wpL_q (U := NoB) rfl (q_build (v := Value.agg #[I (c), I (a)]) rfl (par2 (v0 := I (c)) (v1 := I (a)) rfl rfl) (fun w => by kernel_rfl)) ?_
    refine wpL_o rfl ?_
    refine e_storeBlkA (cs' := #[I (c), I (a)]) rfl a4_4 rfl Try.sizeOf27 rfl rfl (List.forall_mem_cons.2 ⟨rfl, List.forall_mem_cons.2 ⟨rfl, List.forall_mem_nil _⟩⟩) hS4 (fun H5 hS6 hxx => ?_)
    replace hS6 : St H0 NoB NoB [blkE g1 (.cells #[I (c), I (a)] 27)] H5 := hS6
    exact ⟨a4_4, hS6⟩
  rintro f7 H7 ⟨a7_4, hS7⟩
  clear a4_0 a4_1 a4_4
  refine wpF_ret ?_
  refine ⟨_, resC a7_4 (loadV_blkA Try.isAgg27 Try.sizeOf27 rfl (hS7.blk 0 rfl)) (resN), hS7.frame, ?_⟩
  show (Value.agg #[I (c), I (a)]) = Value.agg #[I c, I a]
  rfl

set_option maxRecDepth 100000 in
theorem fault_L {H0 : Heap} (c a : Int)  : CallsH Try.prog 15 #[I (c), I (a)] H0 (fun rv_ H' => Ext NoB H0 H' ∧ rv_ = Value.agg #[I c, I a]) := by
  have hS0 : St H0 NoB NoB [] H0 := St.start (fun _ h => h.elim)
  refine callsH_of_wpF (args := [I (c), I (a)]) (rs := [.cell 4 27]) Try.func15 rfl Try.ntmps15 Try.results15 (by kernel_rfl) (Nat.le_of_ble_eq_true rfl) ?_
  have a0_0 : argF [I (c), I (a)] 0 = I (c) := rfl
  have a0_1 : argF [I (c), I (a)] 1 = I (a) := rfl
  generalize argF [I (c), I (a)] = f0 at *
  refine wpF_seq ?_
  refine wpF_cut (fun f H => ∃ (g1 : Nat), f 0 = I (c) ∧ f 1 = I (a) ∧ f 4 = PT g1 0 ∧ St H0 NoB NoB [blkE g1 (.cells #[I (0), I (0)] 27)] H) ?_ ?_
  · refine wpF_region ?_
    refine wpL_o rfl ?_
    refine e_alloc rfl Try.zeroValue27 hS0 (fun g1 H2 hS3 hxx => ?_)
    replace hS3 : St H0 NoB NoB [blkE g1 (.cells #[I (0), I (0)] 27)] H2 := hS3
    exact ⟨g1, a0_0, a0_1, rfl, hS3⟩
  rintro f4 H4 ⟨g1, a4_0, a4_1, a4_4, hS4⟩
  clear a0_0 a0_1
  refine wpF_seq ?_
  refine wpF_cut (fun f H => f 4 = PT g1 0 ∧ St H0 NoB NoB [blkE g1 (.cells #[I (c), I (a)] 27)] H) ?_ ?_
  · refine wpF_region ?_
    refine wpL_q (U := NoB) rfl (q_move (v := I (c)) rfl a4_0) ?_
    refine wpL_q (U := NoB) rfl (q_move (v := I (a)) rfl a4_1) ?_
    refine wpL_q (U := NoB) rfl (q_build (v := Value.agg #[I (c), I (a)]) rfl (par2 (v0 := I (c)) (v1 := I (a)) rfl rfl) (fun w => by kernel_rfl)) ?_
    refine wpL_o rfl ?_
    refine e_storeBlkA (cs' := #[I (c), I (a)]) rfl a4_4 rfl Try.sizeOf27 rfl rfl (List.forall_mem_cons.2 ⟨rfl, List.forall_mem_cons.2 ⟨rfl, List.forall_mem_nil _⟩⟩) hS4 (fun H5 hS6 hxx => ?_)
    replace hS6 : St H0 NoB NoB [blkE g1 (.cells #[I (c), I (a)] 27)] H5 := hS6
    exact ⟨a4_4, hS6⟩
  rintro f7 H7 ⟨a7_4, hS7⟩
  clear a4_0 a4_1 a4_4
  refine wpF_ret ?_
  refine ⟨_, resC a7_4 (loadV_blkA Try.isAgg27 Try.sizeOf27 rfl (hS7.blk 0 rfl)) (resN), hS7.frame, ?_⟩
  show (Value.agg #[I (c), I (a)]) = Value.agg #[I c, I a]
  rfl

set_option maxRecDepth 100000 in
theorem Ints_R {H0 : Heap} (va vb : Value) (a b : List Int) (ra : Rd NoB H0 va a) (rb : Rd NoB H0 vb b) : CallsH Try.prog 26 #[va, vb] H0 (fun rv_ H' => Ext NoB H0 H' ∧ rv_ = B (decide (a = b))) := by
  have hsm := (Rd.list.1 ra).small
  have hS0 : St H0 NoB NoB [rdE va a, rdE vb b] H0 := St.arg (St.arg (St.start (fun _ h => h.elim)) (Bl0.nil) rb (fun _ h => h)) (Bl0.cons (Bl0.nil)) ra (fun _ h => h)
  refine callsH_of_wpF (args := [va, vb]) (rs := [.tmp 4]) Try.func26 rfl Try.ntmps26 Try.results26 (by kernel_rfl) (Nat.le_of_ble_eq_true rfl) ?_
  have a0_0 : argF [va, vb] 0 = va := rfl
  have a0_1 : argF [va, vb] 1 = vb := rfl
  generalize argF [va, vb] = f0 at *
  refine wpF_seq ?_
  refine wpF_cut (fun f H => f 0 = va ∧ f 1 = vb ∧ H0 = H) ?_ ?_
  · refine wpF_region ?_
    refine wpL_q (U := NoB) rfl (q_assign (v := B (false)) rfl rfl) ?_
    exact ⟨a0_0, a0_1, rfl⟩
  rintro f1 _ ⟨a1_0, a1_1, rfl⟩
  clear a0_0 a0_1
  refine wpF_seq ?_
  refine wpF_seq ?_
  refine wpF_cut (fun f H => f 0 = va ∧ f 1 = vb ∧ f 10 = B (decide ((a.length : Int) ≠ (b.length : Int))) ∧ H0 = H) ?_ ?_
  · refine wpF_region ?_
    refine wpL_q (U := NoB) rfl (q_move (v := va) rfl a1_0) ?_
    refine wpL_q (U := NoB) rfl (q_lenRd rfl Try.underlying22 rfl (hS0.rdl 0 rfl)) ?_
    refine wpL_q (U := NoB) rfl (q_move (v := vb) rfl a1_1) ?_
    refine wpL_q (U := NoB) rfl (q_lenRd rfl Try.underlying22 rfl (hS0.rdl 1 rfl)) ?_
    refine wpL_q (U := NoB) rfl (q_neq rfl rfl rfl) ?_
    exact ⟨a1_0, a1_1, rfl, rfl⟩
  rintro f2 _ ⟨a2_0, a2_1, a2_10, rfl⟩
  clear a1_0 a1_1
  refine wpF_condP a2_10 (fun hlen => ?t17) (fun hlen => ?e17)
  case t17 =>
    refine wpF_seq ?_
    refine wpF_cut (fun f H => f 4 = B (false) ∧ H0 = H) ?_ ?_
    · refine wpF_region ?_
      refine wpL_q (U := NoB) rfl (q_assign (v := B (false)) rfl rfl) ?_
      exact ⟨rfl, rfl⟩
    rintro f4 _ ⟨a4_4, rfl⟩
    clear a2_0 a2_1 a2_10
    refine wpF_ret ?_
    refine ⟨_, resT a4_4 resN, hS0.frame, ?_⟩
    show (B (false)) = B (decide (a = b))
    exact congrArg B (by simp; intro h; subst h; simp at hlen)
  refine wpF_skip ?_
  refine wpF_seq ?_
  refine wpF_seq ?_
  refine wpF_cut (fun f H => f 0 = va ∧ f 1 = vb ∧ f 5 = I (0) ∧ H0 = H) ?_ ?_
  · refine wpF_region ?_
    refine wpL_q (U := NoB) rfl (q_assign (v := I (0)) rfl rfl) ?_
    exact ⟨a2_0, a2_1, rfl, rfl⟩
  rintro f5 _ ⟨a5_0, a5_1, a5_5, rfl⟩
  clear a2_0 a2_1 a2_10
  refine wpF_block ?_
  refine wpF_loop (fun mz f H => ∃ (k : Nat), mz = a.length - k ∧ (k ≤ a.length) ∧ (a.take k = b.take k) ∧ f 0 = va ∧ f 1 = vb ∧ f 5 = I ((k : Int)) ∧ H0 = H) (a.length - 0) ?_ ?_
  · exact ⟨0, rfl, Nat.zero_le _, rfl, a5_0, a5_1, (Eq.trans a5_5 (congrArg I (by omega))), rfl⟩
  intro m6 f6 H6 hI6
  obtain ⟨k, hm6, hk, hpre, a6_0, a6_1, a6_5, rfl⟩ := hI6
  clear a5_0 a5_1 a5_5
  refine wpF_seq ?_
  refine wpF_seq ?_
  refine wpF_cut (fun f H => f 0 = va ∧ f 1 = vb ∧ f 5 = I ((k : Int)) ∧ f 14 = B (decide ((k : Int) < (a.length : Int))) ∧ H0 = H) ?_ ?_
  · refine wpF_region ?_
    refine wpL_q (U := NoB) rfl (q_move (v := I ((k : Int))) rfl a6_5) ?_
    refine wpL_q (U := NoB) rfl (q_move (v := va) rfl a6_0) ?_
    refine wpL_q (U := NoB) rfl (q_lenRd rfl Try.underlying22 rfl (hS0.rdl 0 rfl)) ?_
    refine wpL_q (U := NoB) rfl (q_lss rfl rfl rfl) ?_
    exact ⟨a6_0, a6_1, a6_5, rfl, rfl⟩
  rintro f7 _ ⟨a7_0, a7_1, a7_5, a7_14, rfl⟩
  clear a6_0 a6_1 a6_5
  refine wpF_condP a7_14 (fun hlt => ?t16) (fun hlt => ?e16)
  case e16 =>
    refine wpF_exit ?_
    refine atX_here ?_
    refine wpF_seq ?_
    refine wpF_cut (fun f H => f 4 = B (true) ∧ H0 = H) ?_ ?_
    · refine wpF_region ?_
      refine wpL_q (U := NoB) rfl (q_assign (v := B (true)) rfl rfl) ?_
      exact ⟨rfl, rfl⟩
    rintro f15 _ ⟨a15_4, rfl⟩
    clear a7_0 a7_1 a7_14 a7_5
    refine wpF_ret ?_
    refine ⟨_, resT a15_4 resN, hS0.frame, ?_⟩
    show (B (true)) = B (decide (a = b))
    exact congrArg B (by simp; exact take_all hpre (by omega) (by omega))
  refine wpF_skip ?_
  refine wpF_seq ?_
  refine wpF_block ?_
  refine wpF_seq ?_
  refine wpF_cut (fun f H => f 0 = va ∧ f 1 = vb ∧ f 5 = I ((k : Int)) ∧ f 25 = B (decide ((nth a k) ≠ (nth b k))) ∧ H0 = H) ?_ ?_
  · refine wpF_drawn [] [] (fun _ _ => False) (by kernel_rfl) (by kernel_rfl) ?_
    refine wpR_q 0 (by kernel_rfl) rfl (quietAt rfl rfl (q_move (v := va) rfl a7_0)) ?_
    refine wpR_q 1 (by kernel_rfl) rfl (quietAt rfl rfl (q_move (v := I ((k : Int))) rfl a7_5)) ?_
    refine wpR_q 2 (by kernel_rfl) rfl (quietAt rfl rfl (q_indexRd (k := k) rfl Try.underlying22 el_Int_3_ActC1 rfl rfl (hS0.rdl 0 rfl) (by omega) (by omega))) ?_
    refine wpR_q 3 (by kernel_rfl) rfl (quietAt rfl rfl (q_loadInt (k := k) rfl rfl el_Int_3_ActC1 (hS0.rdl 0 rfl) (by omega) (labU_sub [] rfl (List.forall_mem_nil _)))) ?_
    refine wpR_q 4 (by kernel_rfl) rfl (quietAt rfl rfl (q_move (v := vb) rfl a7_1)) ?_
    refine wpR_q 5 (by kernel_rfl) rfl (quietAt rfl rfl (q_move (v := I ((k : Int))) rfl a7_5)) ?_
    refine wpR_q 6 (by kernel_rfl) rfl (quietAt rfl rfl (q_indexRd (k := k) rfl Try.underlying22 el_Int_3_ActC1 rfl rfl (hS0.rdl 1 rfl) (by omega) (by omega))) ?_
    refine wpR_q 7 (by kernel_rfl) rfl (quietAt rfl rfl (q_loadInt (k := k) rfl rfl el_Int_3_ActC1 (hS0.rdl 1 rfl) (by omega) (labU_sub [] rfl (List.forall_mem_nil _)))) ?_
    refine wpR_q 8 (by kernel_rfl) rfl (quietAt rfl rfl (q_neq rfl rfl rfl)) ?_
    refine wpR_end (by kernel_rfl) ?_
    exact ⟨a7_0, a7_1, a7_5, rfl, rfl⟩
  rintro f10 _ ⟨a10_0, a10_1, a10_5, a10_25, rfl⟩
  clear a7_0 a7_1 a7_14 a7_5
  refine wpF_condP a10_25 (fun hne => ?t14) (fun hne => ?e14)
  case t14 =>
    refine wpF_seq ?_
    refine wpF_cut (fun f H => f 4 = B (false) ∧ H0 = H) ?_ ?_
    · refine wpF_region ?_
      refine wpL_q (U := NoB) rfl (q_assign (v := B (false)) rfl rfl) ?_
      exact ⟨rfl, rfl⟩
    rintro f12 _ ⟨a12_4, rfl⟩
    clear a10_0 a10_1 a10_25 a10_5
    refine wpF_ret ?_
    refine ⟨_, resT a12_4 resN, hS0.frame, ?_⟩
    show (B (false)) = B (decide (a = b))
    exact congrArg B (by simp; intro h; subst h; simp at hne)
  refine wpF_skip ?_
  refine wpF_cut (fun f H => f 0 = va ∧ f 1 = vb ∧ f 5 = I ((k : Int) + 1) ∧ H0 = H) ?_ ?_
  · refine wpF_region ?_
    refine wpL_q (U := NoB) rfl (q_move (v := I ((k : Int))) rfl a10_5) ?_
    refine wpL_q (U := NoB) rfl (q_add rfl rfl rfl (by constructor <;> omega)) ?_
    refine wpL_q (U := NoB) rfl (q_assign (v := I ((k : Int) + 1)) rfl rfl) ?_
    exact ⟨a10_0, a10_1, rfl, rfl⟩
  rintro f13 _ ⟨a13_0, a13_1, a13_5, rfl⟩
  clear a10_0 a10_1 a10_25 a10_5
  refine ⟨_, ?_, k + 1, rfl, (by omega), (take_same hpre (by omega) (by omega) (by simpa using hne)), a13_0, a13_1, (Eq.trans a13_5 (congrArg I (by omega))), rfl⟩
  omega

set_option maxRecDepth 100000 in
theorem IndexFunc {H0 : Heap} (vs vf : Value) (l : List Int) (gp : Int → Bool) (rs : Rd NoB H0 vs l) (hf : ∀ x, x ∈ l → ∀ H, Ext NoB H0 H → FnH Try.prog vf #[I x] H (fun rv H' => Ext NoB H H' ∧ rv = B (gp x))) : CallsH Try.prog 58 #[vs, vf] H0 (fun rv_ H' => Ext NoB H0 H' ∧ rv_ = I (idxOf gp l)) := by
  have hsm := (Rd.list.1 rs).small
  have hS0 : St H0 NoB NoB [rdE vs l] H0 := St.arg (St.start (fun _ h => h.elim)) (Bl0.nil) rs (fun _ h => h)
  refine callsH_of_wpF (args := [vs, vf]) (rs := [.tmp 4]) Try.func58 rfl Try.ntmps58 Try.results58 (by kernel_rfl) (Nat.le_of_ble_eq_true rfl) ?_
  have a0_0 : argF [vs, vf] 0 = vs := rfl
  have a0_1 : argF [vs, vf] 1 = vf := rfl
  generalize argF [vs, vf] = f0 at *
  refine wpF_seq ?_
  refine wpF_cut (fun f H => f 0 = vs ∧ f 1 = vf ∧ H0 = H) ?_ ?_
  · refine wpF_region ?_
    refine wpL_q (U := NoB) rfl (q_assign (v := I (0)) rfl rfl) ?_
    exact ⟨a0_0, a0_1, rfl⟩
  rintro f1 _ ⟨a1_0, a1_1, rfl⟩
  clear a0_0 a0_1
  refine wpF_seq ?_
  refine wpF_seq ?_
  refine wpF_cut (fun f H => f 0 = vs ∧ f 1 = vf ∧ f 7 = I ((l.length : Int)) ∧ f 8 = I (0) ∧ H0 = H) ?_ ?_
  · refine wpF_region ?_
    refine wpL_q (U := NoB) rfl (q_move (v := vs) rfl a1_0) ?_
    refine wpL_q (U := NoB) rfl (q_lenRd rfl Try.underlying22 rfl (hS0.rdl 0 rfl)) ?_
    refine wpL_q (U := NoB) rfl (q_move (v := I (0)) rfl rfl) ?_
    exact ⟨a1_0, a1_1, rfl, rfl, rfl⟩
  rintro f2 _ ⟨a2_0, a2_1, a2_7, a2_8, rfl⟩
  clear a1_0 a1_1
  refine wpF_block ?_
  refine wpF_loop (fun mz f H => ∃ (k : Nat), mz = l.length - k ∧ (k ≤ l.length) ∧ (∀ j, j < k → gp (nth l j) = false) ∧ f 0 = vs ∧ f 1 = vf ∧ f 7 = I ((l.length : Int)) ∧ f 8 = I ((k : Int)) ∧ St H0 NoB NoB [rdE vs l] H) (l.length - 0) ?_ ?_
  · exact ⟨0, rfl, Nat.zero_le _, (fun j hj => absurd hj (Nat.not_lt_zero j)), a2_0, a2_1, a2_7, (Eq.trans a2_8 (congrArg I (by omega))), hS0⟩
  intro m3 f3 H3 hI3
  obtain ⟨k, hm3, hk, hno, a3_0, a3_1, a3_7, a3_8, hS3⟩ := hI3
  clear a2_0 a2_1 a2_7 a2_8
  refine wpF_seq ?_
  refine wpF_cut (fun f H => f 0 = vs ∧ f 1 = vf ∧ f 7 = I ((l.length : Int)) ∧ f 8 = I ((k : Int)) ∧ f 9 = B (decide ((k : Int) < (l.length : Int))) ∧ H3 = H) ?_ ?_
  · refine wpF_region ?_
    refine wpL_q (U := NoB) rfl (q_lss rfl a3_8 a3_7) ?_
    exact ⟨a3_0, a3_1, a3_7, a3_8, rfl, rfl⟩
  rintro f4 _ ⟨a4_0, a4_1, a4_7, a4_8, a4_9, rfl⟩
  clear a3_0 a3_1 a3_7 a3_8
  refine wpF_seq ?_
  refine wpF_condP a4_9 (fun hlt => ?t16) (fun hlt => ?e16)
  case e16 =>
    refine wpF_exit ?_
    refine atX_here ?_
    refine wpF_seq ?_
    refine wpF_cut (fun f H => f 4 = I (-1) ∧ H3 = H) ?_ ?_
    · refine wpF_region ?_
      refine wpL_q (U := NoB) rfl (q_assign (v := I (-1)) rfl rfl) ?_
      exact ⟨rfl, rfl⟩
    rintro f15 _ ⟨a15_4, rfl⟩
    clear a4_0 a4_1 a4_7 a4_8 a4_9
    refine wpF_ret ?_
    refine ⟨_, resT a15_4 resN, hS3.frame, ?_⟩
    show (I (-1)) = I (idxOf gp l)
    exact congrArg I (idxOf_no fun j hj => hno j (by omega)).symm
  refine wpF_skip ?_
  refine wpF_seq ?_
  refine wpF_block ?_
  refine wpF_seq ?_
  refine wpF_cut (fun f H => f 0 = vs ∧ f 1 = vf ∧ f 5 = I ((k : Int)) ∧ f 7 = I ((l.length : Int)) ∧ f 8 = I ((k : Int)) ∧ H3 = H) ?_ ?_
  · refine wpF_region ?_
    refine wpL_q (U := NoB) rfl (q_move (v := I ((k : Int))) rfl a4_8) ?_
    refine wpL_q (U := NoB) rfl (q_assign (v := I ((k : Int))) rfl rfl) ?_
    exact ⟨a4_0, a4_1, rfl, a4_7, a4_8, rfl⟩
  rintro f6 _ ⟨a6_0, a6_1, a6_5, a6_7, a6_8, rfl⟩
  clear a4_0 a4_1 a4_7 a4_8 a4_9
  refine wpF_seq ?_
  refine wpF_cut (fun f H => f 0 = vs ∧ f 1 = vf ∧ f 5 = I ((k : Int)) ∧ f 7 = I ((l.length : Int)) ∧ f 8 = I ((k : Int)) ∧ f 16 = B (gp (nth l k)) ∧ St H0 NoB NoB [rdE vs l] H) ?_ ?_
  · refine wpF_region ?_
    refine wpL_q (U := NoB) rfl (q_move (v := vf) rfl a6_1) ?_
    refine wpL_q (U := NoB) rfl (q_move (v := vs) rfl a6_0) ?_
    refine wpL_q (U := NoB) rfl (q_move (v := I ((k : Int))) rfl a6_5) ?_
    refine wpL_q (U := NoB) rfl (q_indexRd (k := k) rfl Try.underlying22 el_Int_3_ActC1 rfl rfl (hS3.rdl 0 rfl) (by omega) (by omega)) ?_
    refine wpL_q (U := NoB) rfl (q_loadInt (k := k) rfl rfl el_Int_3_ActC1 (hS3.rdl 0 rfl) (by omega) (fun _ h => h)) ?_
    refine wpL_o rfl ?_
    refine e_callF rfl rfl (arr1 (v0 := I (nth l k)) rfl) (hf _ (nth_mem (by omega)) _ hS3.frame) ?_
    rintro _ H7 ⟨hxx, rfl⟩
    have hS8 : St H0 NoB NoB [rdE vs l] H7 := hS3.ext hxx
    exact ⟨a6_0, a6_1, a6_5, a6_7, a6_8, rfl, hS8⟩
  rintro f10 H10 ⟨a10_0, a10_1, a10_5, a10_7, a10_8, a10_16, hS10⟩
  clear a6_0 a6_1 a6_5 a6_7 a6_8
  refine wpF_cond a10_16 (fun hg => ?t14) (fun hg => ?e14)
  case e14 =>
    refine wpF_skip ?_
    refine wpF_cut (fun f H => f 0 = vs ∧ f 1 = vf ∧ f 7 = I ((l.length : Int)) ∧ f 8 = I ((k : Int) + 1) ∧ H10 = H) ?_ ?_
    · refine wpF_region ?_
      refine wpL_q (U := NoB) rfl (q_add rfl a10_8 rfl (by constructor <;> omega)) ?_
      refine wpL_q (U := NoB) rfl (q_move (v := I ((k : Int) + 1)) rfl rfl) ?_
      exact ⟨a10_0, a10_1, a10_7, rfl, rfl⟩
    rintro f13 _ ⟨a13_0, a13_1, a13_7, a13_8, rfl⟩
    clear a10_0 a10_1 a10_16 a10_5 a10_7 a10_8
    refine ⟨_, ?_, k + 1, rfl, (by omega), (all_succ hno (by simpa using hg)), a13_0, a13_1, a13_7, (Eq.trans a13_8 (congrArg I (by omega))), hS10⟩
    omega
  refine wpF_seq ?_
  refine wpF_cut (fun f H => f 4 = I ((k : Int)) ∧ H10 = H) ?_ ?_
  · refine wpF_region ?_
    refine wpL_q (U := NoB) rfl (q_move (v := I ((k : Int))) rfl a10_5) ?_
    refine wpL_q (U := NoB) rfl (q_assign (v := I ((k : Int))) rfl rfl) ?_
    exact ⟨rfl, rfl⟩
  rintro f12 _ ⟨a12_4, rfl⟩
  clear a10_0 a10_1 a10_16 a10_5 a10_7 a10_8
  refine wpF_ret ?_
  refine ⟨_, resT a12_4 resN, hS10.frame, ?_⟩
  show (I ((k : Int))) = I (idxOf gp l)
  exact congrArg I (idxOf_at (by omega) hno (by simpa using hg)).symm

set_option maxRecDepth 100000 in
theorem ContainsFunc {H0 : Heap} (vs vf : Value) (l : List Int) (gp : Int → Bool) (rs : Rd NoB H0 vs l) (hf : ∀ x, x ∈ l → ∀ H, Ext NoB H0 H → FnH Try.prog vf #[I x] H (fun rv H' => Ext NoB H H' ∧ rv = B (gp x))) : CallsH Try.prog 46 #[vs, vf] H0 (fun rv_ H' => Ext NoB H0 H' ∧ rv_ = B (l.any gp)) := by
  have hS0 : St H0 NoB NoB [rdE vs l] H0 := St.arg (St.start (fun _ h => h.elim)) (Bl0.nil) rs (fun _ h => h)
  refine callsH_of_wpF (args := [vs, vf]) (rs := [.tmp 4]) Try.func46 rfl Try.ntmps46 Try.results46 (by kernel_rfl) (Nat.le_of_ble_eq_true rfl) ?_
  have a0_0 : argF [vs, vf] 0 = vs := rfl
  have a0_1 : argF [vs, vf] 1 = vf := rfl
  generalize argF [vs, vf] = f0 at *
  refine wpF_seq ?_
  refine wpF_cut (fun f H => f 0 = vs ∧ f 1 = vf ∧ H0 = H) ?_ ?_
  · refine wpF_region ?_
    refine wpL_q (U := NoB) rfl (q_assign (v := B (false)) rfl rfl) ?_
    exact ⟨a0_0, a0_1, rfl⟩
  rintro f1 _ ⟨a1_0, a1_1, rfl⟩
  clear a0_0 a0_1
  refine wpF_seq ?_
  refine wpF_cut (fun f H => f 4 = B (decide (0 ≤ (idxOf gp l))) ∧ St H0 NoB NoB [] H) ?_ ?_
  · refine wpF_region ?_
    refine wpL_q (U := NoB) rfl (q_move (v := vs) rfl a1_0) ?_
    refine wpL_q (U := NoB) rfl (q_move (v := vf) rfl a1_1) ?_
    refine wpL_o rfl ?_
    refine e_call rfl Try.call58 (arr2 (v0 := vs) (v1 := vf) rfl rfl) (IndexFunc vs vf l gp (hS0.rdN 0 rfl) (fun x hx H hE => hf x hx H (hS0.frame.trans hE))) ?_
    rintro _ H2 ⟨hxx, rfl⟩
    have hS3 : St H0 NoB NoB [rdE vs l] H2 := hS0.ext hxx
    refine wpL_q (U := NoB) rfl (q_geq rfl rfl rfl) ?_
    refine wpL_q (U := NoB) rfl (q_assign (v := B (decide (0 ≤ (idxOf gp l)))) rfl rfl) ?_
    exact ⟨rfl, (hS3.drop (sn (List.Sublist.slnil)))⟩
  rintro f5 H5 ⟨a5_4, hS5⟩
  clear a1_0 a1_1
  refine wpF_ret ?_
  refine ⟨_, resT a5_4 resN, hS5.frame, ?_⟩
  show (B (decide (0 ≤ (idxOf gp l)))) = B (l.any gp)
  exact congrArg B (bool_congr_of idxOf_any.symm).symm

set_option maxRecDepth 100000 in
theorem Index {H0 : Heap} (vs : Value) (l : List Int) (n : Int) (rs : Rd NoB H0 vs l) : CallsH Try.prog 60 #[vs, I (n)] H0 (fun rv_ H' => Ext NoB H0 H' ∧ rv_ = I (idxOf (fun x => decide (x = n)) l)) := by
  have hsm := (Rd.list.1 rs).small
  have hS0 : St H0 NoB NoB [rdE vs l] H0 := St.arg (St.start (fun _ h => h.elim)) (Bl0.nil) rs (fun _ h => h)
  refine callsH_of_wpF (args := [vs, I (n)]) (rs := [.tmp 4]) Try.func60 rfl Try.ntmps60 Try.results60 (by kernel_rfl) (Nat.le_of_ble_eq_true rfl) ?_
  have a0_0 : argF [vs, I (n)] 0 = vs := rfl
  have a0_1 : argF [vs, I (n)] 1 = I (n) := rfl
  generalize argF [vs, I (n)] = f0 at *
  refine wpF_seq ?_
  refine wpF_cut (fun f H => f 0 = vs ∧ f 1 = I (n) ∧ H0 = H) ?_ ?_
  · refine wpF_region ?_
    refine wpL_q (U := NoB) rfl (q_assign (v := I (0)) rfl rfl) ?_
    exact ⟨a0_0, a0_1, rfl⟩
  rintro f1 _ ⟨a1_0, a1_1, rfl⟩
  clear a0_0 a0_1
  refine wpF_seq ?_
  refine wpF_seq ?_
  refine wpF_cut (fun f H => f 0 = vs ∧ f 1 = I (n) ∧ f 7 = I ((l.length : Int)) ∧ f 8 = I (0) ∧ H0 = H) ?_ ?_
  · refine wpF_region ?_
    refine wpL_q (U := NoB) rfl (q_move (v := vs) rfl a1_0) ?_
    refine wpL_q (U := NoB) rfl (q_lenRd rfl Try.underlying22 rfl (hS0.rdl 0 rfl)) ?_
    refine wpL_q (U := NoB) rfl (q_move (v := I (0)) rfl rfl) ?_
    exact ⟨a1_0, a1_1, rfl, rfl, rfl⟩
  rintro f2 _ ⟨a2_0, a2_1, a2_7, a2_8, rfl⟩
  clear a1_0 a1_1
  refine wpF_block ?_
  refine wpF_loop (fun mz f H => ∃ (k : Nat), mz = l.length - k ∧ (k ≤ l.length) ∧ (∀ j, j < k → decide (nth l j = n) = false) ∧ f 0 = vs ∧ f 1 = I (n) ∧ f 7 = I ((l.length : Int)) ∧ f 8 = I ((k : Int)) ∧ H0 = H) (l.length - 0) ?_ ?_
  · exact ⟨0, rfl, Nat.zero_le _, (fun j hj => absurd hj (Nat.not_lt_zero j)), a2_0, a2_1, a2_7, (Eq.trans a2_8 (congrArg I (by omega))), rfl⟩
  intro m3 f3 H3 hI3
  obtain ⟨k, hm3, hk, hno, a3_0, a3_1, a3_7, a3_8, rfl⟩ := hI3
  clear a2_0 a2_1 a2_7 a2_8
  refine wpF_seq ?_
  refine wpF_cut (fun f H => f 0 = vs ∧ f 1 = I (n) ∧ f 7 = I ((l.length : Int)) ∧ f 8 = I ((k : Int)) ∧ f 9 = B (decide ((k : Int) < (l.length : Int))) ∧ H0 = H) ?_ ?_
  · refine wpF_region ?_
    refine wpL_q (U := NoB) rfl (q_lss rfl a3_8 a3_7) ?_
    exact ⟨a3_0, a3_1, a3_7, a3_8, rfl, rfl⟩
  rintro f4 _ ⟨a4_0, a4_1, a4_7, a4_8, a4_9, rfl⟩
  clear a3_0 a3_1 a3_7 a3_8
  refine wpF_seq ?_
  refine wpF_condP a4_9 (fun hlt => ?t13) (fun hlt => ?e13)
  case e13 =>
    refine wpF_exit ?_
    refine atX_here ?_
    refine wpF_seq ?_
    refine wpF_cut (fun f H => f 4 = I (-1) ∧ H0 = H) ?_ ?_
    · refine wpF_region ?_
      refine wpL_q (U := NoB) rfl (q_assign (v := I (-1)) rfl rfl) ?_
      exact ⟨rfl, rfl⟩
    rintro f12 _ ⟨a12_4, rfl⟩
    clear a4_0 a4_1 a4_7 a4_8 a4_9
    refine wpF_ret ?_
    refine ⟨_, resT a12_4 resN, hS0.frame, ?_⟩
    show (I (-1)) = I (idxOf (fun x => decide (x = n)) l)
    exact congrArg I (idxOf_no fun j hj => hno j (by omega)).symm
  refine wpF_skip ?_
  refine wpF_seq ?_
  refine wpF_block ?_
  refine wpF_seq ?_
  refine wpF_cut (fun f H => f 0 = vs ∧ f 1 = I (n) ∧ f 5 = I ((k : Int)) ∧ f 7 = I ((l.length : Int)) ∧ f 8 = I ((k : Int)) ∧ H0 = H) ?_ ?_
  · refine wpF_region ?_
    refine wpL_q (U := NoB) rfl (q_move (v := I ((k : Int))) rfl a4_8) ?_
    refine wpL_q (U := NoB) rfl (q_assign (v := I ((k : Int))) rfl rfl) ?_
    exact ⟨a4_0, a4_1, rfl, a4_7, a4_8, rfl⟩
  rintro f6 _ ⟨a6_0, a6_1, a6_5, a6_7, a6_8, rfl⟩
  clear a4_0 a4_1 a4_7 a4_8 a4_9
  refine wpF_seq ?_
  refine wpF_cut (fun f H => f 0 = vs ∧ f 1 = I (n) ∧ f 5 = I ((k : Int)) ∧ f 7 = I ((l.length : Int)) ∧ f 8 = I ((k : Int)) ∧ f 16 = B (decide (n = (nth l k))) ∧ H0 = H) ?_ ?_
  · refine wpF_region ?_
    refine wpL_q (U := NoB) rfl (q_move (v := I (n)) rfl a6_1) ?_
    refine wpL_q (U := NoB) rfl (q_move (v := vs) rfl a6_0) ?_
    refine wpL_q (U := NoB) rfl (q_move (v := I ((k : Int))) rfl a6_5) ?_
    refine wpL_q (U := NoB) rfl (q_indexRd (k := k) rfl Try.underlying22 el_Int_3_ActC1 rfl rfl (hS0.rdl 0 rfl) (by omega) (by omega)) ?_
    refine wpL_q (U := NoB) rfl (q_loadInt (k := k) rfl rfl el_Int_3_ActC1 (hS0.rdl 0 rfl) (by omega) (fun _ h => h)) ?_
    refine wpL_q (U := NoB) rfl (q_eql rfl rfl rfl) ?_
    exact ⟨a6_0, a6_1, a6_5, a6_7, a6_8, rfl, rfl⟩
  rintro f7 _ ⟨a7_0, a7_1, a7_5, a7_7, a7_8, a7_16, rfl⟩
  clear a6_0 a6_1 a6_5 a6_7 a6_8
  refine wpF_condP a7_16 (fun hg => ?t11) (fun hg => ?e11)
  case e11 =>
    refine wpF_skip ?_
    refine wpF_cut (fun f H => f 0 = vs ∧ f 1 = I (n) ∧ f 7 = I ((l.length : Int)) ∧ f 8 = I ((k : Int) + 1) ∧ H0 = H) ?_ ?_
    · refine wpF_region ?_
      refine wpL_q (U := NoB) rfl (q_add rfl a7_8 rfl (by constructor <;> omega)) ?_
      refine wpL_q (U := NoB) rfl (q_move (v := I ((k : Int) + 1)) rfl rfl) ?_
      exact ⟨a7_0, a7_1, a7_7, rfl, rfl⟩
    rintro f10 _ ⟨a10_0, a10_1, a10_7, a10_8, rfl⟩
    clear a7_0 a7_1 a7_16 a7_5 a7_7 a7_8
    refine ⟨_, ?_, k + 1, rfl, (by omega), (all_succ hno (decide_eq_false (fun h => hg h.symm))), a10_0, a10_1, a10_7, (Eq.trans a10_8 (congrArg I (by omega))), rfl⟩
    omega
  refine wpF_seq ?_
  refine wpF_cut (fun f H => f 4 = I ((k : Int)) ∧ H0 = H) ?_ ?_
  · refine wpF_region ?_
    refine wpL_q (U := NoB) rfl (q_move (v := I ((k : Int))) rfl a7_5) ?_
    refine wpL_q (U := NoB) rfl (q_assign (v := I ((k : Int))) rfl rfl) ?_
    exact ⟨rfl, rfl⟩
  rintro f9 _ ⟨a9_4, rfl⟩
  clear a7_0 a7_1 a7_16 a7_5 a7_7 a7_8
  refine wpF_ret ?_
  refine ⟨_, resT a9_4 resN, hS0.frame, ?_⟩
  show (I ((k : Int))) = I (idxOf (fun x => decide (x = n)) l)
  exact congrArg I (idxOf_at (g := fun x => decide (x = n)) (l := l) (k := k) (by omega) hno (decide_eq_true hg.symm)).symm

set_option maxRecDepth 100000 in
theorem Contains {H0 : Heap} (vs : Value) (l : List Int) (n : Int) (rs : Rd NoB H0 vs l) : CallsH Try.prog 52 #[vs, I (n)] H0 (fun rv_ H' => Ext NoB H0 H' ∧ rv_ = B (hasB l n)) := by
  have hS0 : St H0 NoB NoB [rdE vs l] H0 := St.arg (St.start (fun _ h => h.elim)) (Bl0.nil) rs (fun _ h => h)
  refine callsH_of_wpF (args := [vs, I (n)]) (rs := [.tmp 4]) Try.func52 rfl Try.ntmps52 Try.results52 (by kernel_rfl) (Nat.le_of_ble_eq_true rfl) ?_
  have a0_0 : argF [vs, I (n)] 0 = vs := rfl
  have a0_1 : argF [vs, I (n)] 1 = I (n) := rfl
  generalize argF [vs, I (n)] = f0 at *
  refine wpF_seq ?_
  refine wpF_cut (fun f H => f 0 = vs ∧ f 1 = I (n) ∧ H0 = H) ?_ ?_
  · refine wpF_region ?_
    refine wpL_q (U := NoB) rfl (q_assign (v := B (false)) rfl rfl) ?_
    exact ⟨a0_0, a0_1, rfl⟩
  rintro f1 _ ⟨a1_0, a1_1, rfl⟩
  clear a0_0 a0_1
  refine wpF_seq ?_
  refine wpF_cut (fun f H => f 4 = B (decide (0 ≤ (idxOf (fun x => decide (x = n)) l))) ∧ St H0 NoB NoB [] H) ?_ ?_
  · refine wpF_region ?_
    refine wpL_q (U := NoB) rfl (q_move (v := vs) rfl a1_0) ?_
    refine wpL_q (U := NoB) rfl (q_move (v := I (n)) rfl a1_1) ?_
    refine wpL_o rfl ?_
    refine e_call rfl Try.call60 (arr2 (v0 := vs) (v1 := I (n)) rfl rfl) (Index vs l n (hS0.rdN 0 rfl) ) ?_
    rintro _ H2 ⟨hxx, rfl⟩
    have hS3 : St H0 NoB NoB [rdE vs l] H2 := hS0.ext hxx
    refine wpL_q (U := NoB) rfl (q_geq rfl rfl rfl) ?_
    refine wpL_q (U := NoB) rfl (q_assign (v := B (decide (0 ≤ (idxOf (fun x => decide (x = n)) l)))) rfl rfl) ?_
    exact ⟨rfl, (hS3.drop (sn (List.Sublist.slnil)))⟩
  rintro f5 H5 ⟨a5_4, hS5⟩
  clear a1_0 a1_1
  refine wpF_ret ?_
  refine ⟨_, resT a5_4 resN, hS5.frame, ?_⟩
  show (B (decide (0 ≤ (idxOf (fun x => decide (x = n)) l)))) = B (hasB l n)
  exact congrArg B (bool_congr_of (idxOf_any.trans (any_has (n := n))).symm).symm

set_option maxRecDepth 100000 in
theorem Has_R {H0 : Heap} (vl : Value) (l : List Int) (n : Int) (rl : Rd NoB H0 vl l) : CallsH Try.prog 41 #[vl, I (n)] H0 (fun rv_ H' => Ext NoB H0 H' ∧ rv_ = B (hasB l n)) := by
  have hsm := (Rd.list.1 rl).small
  have hS0 : St H0 NoB NoB [rdE vl l] H0 := St.arg (St.start (fun _ h => h.elim)) (Bl0.nil) rl (fun _ h => h)
  refine callsH_of_wpF (args := [vl, I (n)]) (rs := [.tmp 4]) Try.func41 rfl Try.ntmps41 Try.results41 (by kernel_rfl) (Nat.le_of_ble_eq_true rfl) ?_
  have a0_0 : argF [vl, I (n)] 0 = vl := rfl
  have a0_1 : argF [vl, I (n)] 1 = I (n) := rfl
  generalize argF [vl, I (n)] = f0 at *
  refine wpF_seq ?_
  refine wpF_cut (fun f H => f 0 = vl ∧ f 1 = I (n) ∧ H0 = H) ?_ ?_
  · refine wpF_region ?_
    refine wpL_q (U := NoB) rfl (q_assign (v := B (false)) rfl rfl) ?_
    exact ⟨a0_0, a0_1, rfl⟩
  rintro f1 _ ⟨a1_0, a1_1, rfl⟩
  clear a0_0 a0_1
  refine wpF_seq ?_
  refine wpF_seq ?_
  refine wpF_cut (fun f H => f 0 = vl ∧ f 1 = I (n) ∧ f 5 = I (0) ∧ H0 = H) ?_ ?_
  · refine wpF_region ?_
    refine wpL_q (U := NoB) rfl (q_assign (v := I (0)) rfl rfl) ?_
    exact ⟨a1_0, a1_1, rfl, rfl⟩
  rintro f2 _ ⟨a2_0, a2_1, a2_5, rfl⟩
  clear a1_0 a1_1
  refine wpF_block ?_
  refine wpF_loop (fun mz f H => ∃ (k : Nat), mz = l.length - k ∧ (k ≤ l.length) ∧ (∀ j, j < k → nth l j ≠ n) ∧ f 0 = vl ∧ f 1 = I (n) ∧ f 5 = I ((k : Int)) ∧ H0 = H) (l.length - 0) ?_ ?_
  · exact ⟨0, rfl, Nat.zero_le _, (fun j hj => absurd hj (Nat.not_lt_zero j)), a2_0, a2_1, (Eq.trans a2_5 (congrArg I (by omega))), rfl⟩
  intro m3 f3 H3 hI3
  obtain ⟨k, hm3, hk, hno, a3_0, a3_1, a3_5, rfl⟩ := hI3
  clear a2_0 a2_1 a2_5
  refine wpF_seq ?_
  refine wpF_seq ?_
  refine wpF_cut (fun f H => f 0 = vl ∧ f 1 = I (n) ∧ f 5 = I ((k : Int)) ∧ f 9 = B (decide ((k : Int) < (l.length : Int))) ∧ H0 = H) ?_ ?_
  · refine wpF_region ?_
    refine wpL_q (U := NoB) rfl (q_move (v := I ((k : Int))) rfl a3_5) ?_
    refine wpL_q (U := NoB) rfl (q_move (v := vl) rfl a3_0) ?_
    refine wpL_q (U := NoB) rfl (q_lenRd rfl Try.underlying22 rfl (hS0.rdl 0 rfl)) ?_
    refine wpL_q (U := NoB) rfl (q_lss rfl rfl rfl) ?_
    exact ⟨a3_0, a3_1, a3_5, rfl, rfl⟩
  rintro f4 _ ⟨a4_0, a4_1, a4_5, a4_9, rfl⟩
  clear a3_0 a3_1 a3_5
  refine wpF_condP a4_9 (fun hlt => ?t12) (fun hlt => ?e12)
  case e12 =>
    refine wpF_exit ?_
    refine atX_here ?_
    refine wpF_seq ?_
    refine wpF_cut (fun f H => f 4 = B (false) ∧ H0 = H) ?_ ?_
    · refine wpF_region ?_
      refine wpL_q (U := NoB) rfl (q_assign (v := B (false)) rfl rfl) ?_
      exact ⟨rfl, rfl⟩
    rintro f11 _ ⟨a11_4, rfl⟩
    clear a4_0 a4_1 a4_5 a4_9
    refine wpF_ret ?_
    refine ⟨_, resT a11_4 resN, hS0.frame, ?_⟩
    show (B (false)) = B (hasB l n)
    exact congrArg B (decide_eq_false (fun h => by obtain ⟨j, hj, he⟩ := nth_of_mem h; exact hno j (by omega) he)).symm
  refine wpF_skip ?_
  refine wpF_seq ?_
  refine wpF_block ?_
  refine wpF_seq ?_
  refine wpF_cut (fun f H => f 0 = vl ∧ f 1 = I (n) ∧ f 5 = I ((k : Int)) ∧ f 17 = B (decide ((nth l k) = n)) ∧ H0 = H) ?_ ?_
  · refine wpF_region ?_
    refine wpL_q (U := NoB) rfl (q_move (v := vl) rfl a4_0) ?_
    refine wpL_q (U := NoB) rfl (q_move (v := I ((k : Int))) rfl a4_5) ?_
    refine wpL_q (U := NoB) rfl (q_indexRd (k := k) rfl Try.underlying22 el_Int_3_ActC1 rfl rfl (hS0.rdl 0 rfl) (by omega) (by omega)) ?_
    refine wpL_q (U := NoB) rfl (q_loadInt (k := k) rfl rfl el_Int_3_ActC1 (hS0.rdl 0 rfl) (by omega) (fun _ h => h)) ?_
    refine wpL_q (U := NoB) rfl (q_move (v := I (n)) rfl a4_1) ?_
    refine wpL_q (U := NoB) rfl (q_eql rfl rfl rfl) ?_
    exact ⟨a4_0, a4_1, a4_5, rfl, rfl⟩
  rintro f6 _ ⟨a6_0, a6_1, a6_5, a6_17, rfl⟩
  clear a4_0 a4_1 a4_5 a4_9
  refine wpF_condP a6_17 (fun heq => ?t10) (fun heq => ?e10)
  case t10 =>
    refine wpF_seq ?_
    refine wpF_cut (fun f H => f 4 = B (true) ∧ H0 = H) ?_ ?_
    · refine wpF_region ?_
      refine wpL_q (U := NoB) rfl (q_assign (v := B (true)) rfl rfl) ?_
      exact ⟨rfl, rfl⟩
    rintro f8 _ ⟨a8_4, rfl⟩
    clear a6_0 a6_1 a6_17 a6_5
    refine wpF_ret ?_
    refine ⟨_, resT a8_4 resN, hS0.frame, ?_⟩
    show (B (true)) = B (hasB l n)
    exact congrArg B (decide_eq_true (heq ▸ nth_mem (by omega))).symm
  refine wpF_skip ?_
  refine wpF_cut (fun f H => f 0 = vl ∧ f 1 = I (n) ∧ f 5 = I ((k : Int) + 1) ∧ H0 = H) ?_ ?_
  · refine wpF_region ?_
    refine wpL_q (U := NoB) rfl (q_move (v := I ((k : Int))) rfl a6_5) ?_
    refine wpL_q (U := NoB) rfl (q_add rfl rfl rfl (by constructor <;> omega)) ?_
    refine wpL_q (U := NoB) rfl (q_assign (v := I ((k : Int) + 1)) rfl rfl) ?_
    exact ⟨a6_0, a6_1, rfl, rfl⟩
  rintro f9 _ ⟨a9_0, a9_1, a9_5, rfl⟩
  clear a6_0 a6_1 a6_17 a6_5
  refine ⟨_, ?_, k + 1, rfl, (by omega), (all_succ hno heq), a9_0, a9_1, (Eq.trans a9_5 (congrArg I (by omega))), rfl⟩
  omega

set_option maxRecDepth 100000 in
theorem bools_L {H0 : Heap} (va vb : Value) (a b : List Bool) (ra : Rd NoB H0 va a) (rb : Rd NoB H0 vb b) : CallsH Try.prog 20 #[va, vb] H0 (fun rv_ H' => Ext NoB H0 H' ∧ rv_ = B (decide (a = b))) := by
  have hsm := (Rd.list.1 ra).small
  have hS0 : St H0 NoB NoB [rdE va a, rdE vb b] H0 := St.arg (St.arg (St.start (fun _ h => h.elim)) (Bl0.nil) rb (fun _ h => h)) (Bl0.cons (Bl0.nil)) ra (fun _ h => h)
  refine callsH_of_wpF (args := [va, vb]) (rs := [.tmp 4]) Try.func20 rfl Try.ntmps20 Try.results20 (by kernel_rfl) (Nat.le_of_ble_eq_true rfl) ?_
  have a0_0 : argF [va, vb] 0 = va := rfl
  have a0_1 : argF [va, vb] 1 = vb := rfl
  generalize argF [va, vb] = f0 at *
  refine wpF_seq ?_
  refine wpF_cut (fun f H => f 0 = va ∧ f 1 = vb ∧ H0 = H) ?_ ?_
  · refine wpF_region ?_
    refine wpL_q (U := NoB) rfl (q_assign (v := B (false)) rfl rfl) ?_
    exact ⟨a0_0, a0_1, rfl⟩
  rintro f1 _ ⟨a1_0, a1_1, rfl⟩
  clear a0_0 a0_1
  refine wpF_seq ?_
  refine wpF_seq ?_
  refine wpF_cut (fun f H => f 0 = va ∧ f 1 = vb ∧ f 10 = B (decide ((a.length : Int) ≠ (b.length : Int))) ∧ H0 = H) ?_ ?_
  · refine wpF_region ?_
    refine wpL_q (U := NoB) rfl (q_move (v := va) rfl a1_0) ?_
    refine wpL_q (U := NoB) rfl (q_lenRd rfl Try.underlying29 rfl (hS0.rdl 0 rfl)) ?_
    refine wpL_q (U := NoB) rfl (q_move (v := vb) rfl a1_1) ?_
    refine wpL_q (U := NoB) rfl (q_lenRd rfl Try.underlying29 rfl (hS0.rdl 1 rfl)) ?_
    refine wpL_q (U := NoB) rfl (q_neq rfl rfl rfl) ?_
    exact ⟨a1_0, a1_1, rfl, rfl⟩
  rintro f2 _ ⟨a2_0, a2_1, a2_10, rfl⟩
  clear a1_0 a1_1
  refine wpF_condP a2_10 (fun hlen => ?t17) (fun hlen => ?e17)
  case t17 =>
    refine wpF_seq ?_
    refine wpF_cut (fun f H => f 4 = B (false) ∧ H0 = H) ?_ ?_
    · refine wpF_region ?_
      refine wpL_q (U := NoB) rfl (q_assign (v := B (false)) rfl rfl) ?_
      exact ⟨rfl, rfl⟩
    rintro f4 _ ⟨a4_4, rfl⟩
    clear a2_0 a2_1 a2_10
    refine wpF_ret ?_
    refine ⟨_, resT a4_4 resN, hS0.frame, ?_⟩
    show (B (false)) = B (decide (a = b))
    exact congrArg B (by simp; intro h; subst h; simp at hlen)
  refine wpF_skip ?_
  refine wpF_seq ?_
  refine wpF_seq ?_
  refine wpF_cut (fun f H => f 0 = va ∧ f 1 = vb ∧ f 5 = I (0) ∧ H0 = H) ?_ ?_
  · refine wpF_region ?_
    refine wpL_q (U := NoB) rfl (q_assign (v := I (0)) rfl rfl) ?_
    exact ⟨a2_0, a2_1, rfl, rfl⟩
  rintro f5 _ ⟨a5_0, a5_1, a5_5, rfl⟩
  clear a2_0 a2_1 a2_10
  refine wpF_block ?_
  refine wpF_loop (fun mz f H => ∃ (k : Nat), mz = a.length - k ∧ (k ≤ a.length) ∧ (a.take k = b.take k) ∧ f 0 = va ∧ f 1 = vb ∧ f 5 = I ((k : Int)) ∧ H0 = H) (a.length - 0) ?_ ?_
  · exact ⟨0, rfl, Nat.zero_le _, rfl, a5_0, a5_1, (Eq.trans a5_5 (congrArg I (by omega))), rfl⟩
  intro m6 f6 H6 hI6
  obtain ⟨k, hm6, hk, hpre, a6_0, a6_1, a6_5, rfl⟩ := hI6
  clear a5_0 a5_1 a5_5
  refine wpF_seq ?_
  refine wpF_seq ?_
  refine wpF_cut (fun f H => f 0 = va ∧ f 1 = vb ∧ f 5 = I ((k : Int)) ∧ f 14 = B (decide ((k : Int) < (a.length : Int))) ∧ H0 = H) ?_ ?_
  · refine wpF_region ?_
    refine wpL_q (U := NoB) rfl (q_move (v := I ((k : Int))) rfl a6_5) ?_
    refine wpL_q (U := NoB) rfl (q_move (v := va) rfl a6_0) ?_
    refine wpL_q (U := NoB) rfl (q_lenRd rfl Try.underlying29 rfl (hS0.rdl 0 rfl)) ?_
    refine wpL_q (U := NoB) rfl (q_lss rfl rfl rfl) ?_
    exact ⟨a6_0, a6_1, a6_5, rfl, rfl⟩
  rintro f7 _ ⟨a7_0, a7_1, a7_5, a7_14, rfl⟩
  clear a6_0 a6_1 a6_5
  refine wpF_condP a7_14 (fun hlt => ?t16) (fun hlt => ?e16)
  case e16 =>
    refine wpF_exit ?_
    refine atX_here ?_
    refine wpF_seq ?_
    refine wpF_cut (fun f H => f 4 = B (true) ∧ H0 = H) ?_ ?_
    · refine wpF_region ?_
      refine wpL_q (U := NoB) rfl (q_assign (v := B (true)) rfl rfl) ?_
      exact ⟨rfl, rfl⟩
    rintro f15 _ ⟨a15_4, rfl⟩
    clear a7_0 a7_1 a7_14 a7_5
    refine wpF_ret ?_
    refine ⟨_, resT a15_4 resN, hS0.frame, ?_⟩
    show (B (true)) = B (decide (a = b))
    exact congrArg B (by simp; exact take_all hpre (by omega) (by omega))
  refine wpF_skip ?_
  refine wpF_seq ?_
  refine wpF_block ?_
  refine wpF_seq ?_
  refine wpF_cut (fun f H => f 0 = va ∧ f 1 = vb ∧ f 5 = I ((k : Int)) ∧ f 25 = B (decide ((nth a k) ≠ (nth b k))) ∧ H0 = H) ?_ ?_
  · refine wpF_drawn [] [] (fun _ _ => False) (by kernel_rfl) (by kernel_rfl) ?_
    refine wpR_q 0 (by kernel_rfl) rfl (quietAt rfl rfl (q_move (v := va) rfl a7_0)) ?_
    refine wpR_q 1 (by kernel_rfl) rfl (quietAt rfl rfl (q_move (v := I ((k : Int))) rfl a7_5)) ?_
    refine wpR_q 2 (by kernel_rfl) rfl (quietAt rfl rfl (q_indexRd (k := k) rfl Try.underlying29 el_Bool_4_ActC1 rfl rfl (hS0.rdl 0 rfl) (by omega) (by omega))) ?_
    refine wpR_q 3 (by kernel_rfl) rfl (quietAt rfl rfl (q_loadBool (k := k) rfl rfl el_Bool_4_ActC1 (hS0.rdl 0 rfl) (by omega) (labU_sub [] rfl (List.forall_mem_nil _)))) ?_
    refine wpR_q 4 (by kernel_rfl) rfl (quietAt rfl rfl (q_move (v := vb) rfl a7_1)) ?_
    refine wpR_q 5 (by kernel_rfl) rfl (quietAt rfl rfl (q_move (v := I ((k : Int))) rfl a7_5)) ?_
    refine wpR_q 6 (by kernel_rfl) rfl (quietAt rfl rfl (q_indexRd (k := k) rfl Try.underlying29 el_Bool_4_ActC1 rfl rfl (hS0.rdl 1 rfl) (by omega) (by omega))) ?_
    refine wpR_q 7 (by kernel_rfl) rfl (quietAt rfl rfl (q_loadBool (k := k) rfl rfl el_Bool_4_ActC1 (hS0.rdl 1 rfl) (by omega) (labU_sub [] rfl (List.forall_mem_nil _)))) ?_
    refine wpR_q 8 (by kernel_rfl) rfl (quietAt rfl rfl (q_neqB rfl Try.underlying4 rfl rfl)) ?_
    refine wpR_end (by kernel_rfl) ?_
    exact ⟨a7_0, a7_1, a7_5, rfl, rfl⟩
  rintro f10 _ ⟨a10_0, a10_1, a10_5, a10_25, rfl⟩
  clear a7_0 a7_1 a7_14 a7_5
  refine wpF_condP a10_25 (fun hne => ?t14) (fun hne => ?e14)
  case t14 =>
    refine wpF_seq ?_
    refine wpF_cut (fun f H => f 4 = B (false) ∧ H0 = H) ?_ ?_
    · refine wpF_region ?_
      refine wpL_q (U := NoB) rfl (q_assign (v := B (false)) rfl rfl) ?_
      exact ⟨rfl, rfl⟩
    rintro f12 _ ⟨a12_4, rfl⟩
    clear a10_0 a10_1 a10_25 a10_5
    refine wpF_ret ?_
    refine ⟨_, resT a12_4 resN, hS0.frame, ?_⟩
    show (B (false)) = B (decide (a = b))
    exact congrArg B (by simp; intro h; subst h; simp at hne)
  refine wpF_skip ?_
  refine wpF_cut (fun f H => f 0 = va ∧ f 1 = vb ∧ f 5 = I ((k : Int) + 1) ∧ H0 = H) ?_ ?_
  · refine wpF_region ?_
    refine wpL_q (U := NoB) rfl (q_move (v := I ((k : Int))) rfl a10_5) ?_
    refine wpL_q (U := NoB) rfl (q_add rfl rfl rfl (by constructor <;> omega)) ?_
    refine wpL_q (U := NoB) rfl (q_assign (v := I ((k : Int) + 1)) rfl rfl) ?_
    exact ⟨a10_0, a10_1, rfl, rfl⟩
  rintro f13 _ ⟨a13_0, a13_1, a13_5, rfl⟩
  clear a10_0 a10_1 a10_25 a10_5
  refine ⟨_, ?_, k + 1, rfl, (by omega), (take_same hpre (by omega) (by omega) (by simpa using hne)), a13_0, a13_1, (Eq.trans a13_5 (congrArg I (by omega))), rfl⟩
  omega

set_option maxRecDepth 100000 in
theorem facts_L {H0 : Heap} (vl : Value) (l : List Int) (n : Int) (rl : Rd NoB H0 vl l) (hn : 1 ≤ n ∧ n ≤ 16) : CallsH Try.prog 42 #[vl, I (n)] H0 (fun rv_ H' => Ext NoB H0 H' ∧ rv_ = B (decide (Rising l n))) := by
  have hsm := (Rd.list.1 rl).small
  have hS0 : St H0 NoB NoB [rdE vl l] H0 := St.arg (St.start (fun _ h => h.elim)) (Bl0.nil) rl (fun _ h => h)
  refine callsH_of_wpF (args := [vl, I (n)]) (rs := [.tmp 4]) Try.func42 rfl Try.ntmps42 Try.results42 (by kernel_rfl) (Nat.le_of_ble_eq_true rfl) ?_
  have a0_0 : argF [vl, I (n)] 0 = vl := rfl
  have a0_1 : argF [vl, I (n)] 1 = I (n) := rfl
  generalize argF [vl, I (n)] = f0 at *
  refine wpF_seq ?_
  refine wpF_cut (fun f H => f 0 = vl ∧ f 1 = I (n) ∧ H0 = H) ?_ ?_
  · refine wpF_region ?_
    refine wpL_q (U := NoB) rfl (q_assign (v := B (false)) rfl rfl) ?_
    exact ⟨a0_0, a0_1, rfl⟩
  rintro f1 _ ⟨a1_0, a1_1, rfl⟩
  clear a0_0 a0_1
  refine wpF_seq ?_
  refine wpF_seq ?_
  refine wpF_cut (fun f H => f 0 = vl ∧ f 1 = I (n) ∧ f 7 = vl ∧ f 8 = I ((l.length : Int)) ∧ f 9 = I (0) ∧ H0 = H) ?_ ?_
  · refine wpF_region ?_
    refine wpL_q (U := NoB) rfl (q_move (v := vl) rfl a1_0) ?_
    refine wpL_q (U := NoB) rfl (q_lenRd rfl Try.underlying22 rfl (hS0.rdl 0 rfl)) ?_
    refine wpL_q (U := NoB) rfl (q_move (v := I (0)) rfl rfl) ?_
    exact ⟨a1_0, a1_1, rfl, rfl, rfl, rfl⟩
  rintro f2 _ ⟨a2_0, a2_1, a2_7, a2_8, a2_9, rfl⟩
  clear a1_0 a1_1
  refine wpF_block ?_
  refine wpF_loop (fun mz f H => ∃ (k : Nat), mz = l.length - k ∧ (k ≤ l.length) ∧ (∀ j, j < k → (0 ≤ nth l j ∧ nth l j < n) ∧ (j = 0 ∨ nth l (j - 1) < nth l j)) ∧ f 0 = vl ∧ f 1 = I (n) ∧ f 7 = vl ∧ f 8 = I ((l.length : Int)) ∧ f 9 = I ((k : Int)) ∧ St H0 NoB NoB [rdE vl l] H) (l.length - 0) ?_ ?_
  · exact ⟨0, rfl, Nat.zero_le _, (fun j hj => absurd hj (Nat.not_lt_zero j)), a2_0, a2_1, a2_7, a2_8, (Eq.trans a2_9 (congrArg I (by omega))), hS0⟩
  intro m3 f3 H3 hI3
  obtain ⟨k, hm3, hk, hp, a3_0, a3_1, a3_7, a3_8, a3_9, hS3⟩ := hI3
  clear a2_0 a2_1 a2_7 a2_8 a2_9
  refine wpF_seq ?_
  refine wpF_cut (fun f H => f 0 = vl ∧ f 1 = I (n) ∧ f 7 = vl ∧ f 8 = I ((l.length : Int)) ∧ f 9 = I ((k : Int)) ∧ f 10 = B (decide ((k : Int) < (l.length : Int))) ∧ H3 = H) ?_ ?_
  · refine wpF_region ?_
    refine wpL_q (U := NoB) rfl (q_lss rfl a3_9 a3_8) ?_
    exact ⟨a3_0, a3_1, a3_7, a3_8, a3_9, rfl, rfl⟩
  rintro f4 _ ⟨a4_0, a4_1, a4_7, a4_8, a4_9, a4_10, rfl⟩
  clear a3_0 a3_1 a3_7 a3_8 a3_9
  refine wpF_seq ?_
  refine wpF_condP a4_10 (fun hlt => ?t22) (fun hlt => ?e22)
  case e22 =>
    refine wpF_exit ?_
    refine atX_here ?_
    refine wpF_seq ?_
    refine wpF_cut (fun f H => f 4 = B (true) ∧ H3 = H) ?_ ?_
    · refine wpF_region ?_
      refine wpL_q (U := NoB) rfl (q_assign (v := B (true)) rfl rfl) ?_
      exact ⟨rfl, rfl⟩
    rintro f21 _ ⟨a21_4, rfl⟩
    clear a4_0 a4_1 a4_10 a4_7 a4_8 a4_9
    refine wpF_ret ?_
    refine ⟨_, resT a21_4 resN, hS3.frame, ?_⟩
    show (B (true)) = B (decide (Rising l n))
    exact congrArg B (decide_eq_true (fun j hj => hp j (by omega))).symm
  have e1 : ((k : Int) - 1).toNat = k - 1 := by omega
  refine wpF_skip ?_
  refine wpF_seq ?_
  refine wpF_block ?_
  refine wpF_seq ?_
  refine wpF_cut (fun f H => f 0 = vl ∧ f 1 = I (n) ∧ f 5 = I ((k : Int)) ∧ f 6 = I (nth l k) ∧ f 7 = vl ∧ f 8 = I ((l.length : Int)) ∧ f 9 = I ((k : Int)) ∧ H3 = H) ?_ ?_
  · refine wpF_region ?_
    refine wpL_q (U := NoB) rfl (q_move (v := I ((k : Int))) rfl a4_9) ?_
    refine wpL_q (U := NoB) rfl (q_indexRd (k := k) rfl Try.underlying22 el_Int_3_ActC1 a4_7 a4_9 (hS3.rdl 0 rfl) (by omega) (by omega)) ?_
    refine wpL_q (U := NoB) rfl (q_loadInt (k := k) rfl rfl el_Int_3_ActC1 (hS3.rdl 0 rfl) (by omega) (fun _ h => h)) ?_
    refine wpL_q (U := NoB) rfl (q_assign (v := I ((k : Int))) rfl rfl) ?_
    refine wpL_q (U := NoB) rfl (q_assign (v := I (nth l k)) rfl rfl) ?_
    exact ⟨a4_0, a4_1, rfl, rfl, a4_7, a4_8, a4_9, rfl⟩
  rintro f6 _ ⟨a6_0, a6_1, a6_5, a6_6, a6_7, a6_8, a6_9, rfl⟩
  clear a4_0 a4_1 a4_10 a4_7 a4_8 a4_9
  refine wpF_seq ?_
  refine wpF_cut (fun f H => f 0 = vl ∧ f 1 = I (n) ∧ f 7 = vl ∧ f 8 = I ((l.length : Int)) ∧ f 9 = I ((k : Int)) ∧ f 33 = B (decide ((((nth l k) < 0) ∨ (n ≤ (nth l k))) ∨ ((0 < (k : Int)) ∧ ((nth l k) ≤ (nth l (((k : Int) - 1).toNat)))))) ∧ H3 = H) ?_ ?_
  · refine wpF_region ?_
    refine wpL_q (U := NoB) rfl (q_move (v := I (nth l k)) rfl a6_6) ?_
    refine wpL_q (U := NoB) rfl (q_lss rfl rfl rfl) ?_
    refine wpL_q (U := NoB) rfl (q_move (v := B (decide ((nth l k) < 0))) rfl rfl) ?_
    by_cases hg7 : (nth l k) < 0
    · have hb8 := Eq.trans rfl (congrArg B (decide_eq_true hg7))
      refine wpL_gs rfl rfl rfl hb8 rfl ?_
      refine wpL_gs rfl rfl rfl hb8 rfl ?_
      refine wpL_gs rfl rfl rfl hb8 rfl ?_
      refine wpL_q (U := NoB) rfl (q_pickT (v := B (true)) rfl hb8 rfl) ?_
      refine wpL_q (U := NoB) rfl (q_move (v := B (true)) rfl rfl) ?_
      refine wpL_gs rfl rfl rfl rfl rfl ?_
      refine wpL_gs rfl rfl rfl rfl rfl ?_
      refine wpL_gs rfl rfl rfl rfl rfl ?_
      refine wpL_gs' rfl rfl rfl rfl ?_
      refine wpL_gs' rfl rfl rfl rfl ?_
      refine wpL_gs' rfl rfl rfl rfl ?_
      refine wpL_gs' rfl rfl rfl rfl ?_
      refine wpL_gs' rfl rfl rfl rfl ?_
      refine wpL_gs' rfl rfl rfl rfl ?_
      refine wpL_gs' rfl rfl rfl rfl ?_
      refine wpL_gs rfl rfl rfl rfl rfl ?_
      refine wpL_q (U := NoB) rfl (q_pickT (v := B (true)) rfl rfl rfl) ?_
      exact ⟨a6_0, a6_1, a6_7, a6_8, a6_9, (Eq.trans rfl (congrArg B ((decide_eq_true (Or.inl (Or.inl hg7))).symm))), rfl⟩
    · have hb9 := Eq.trans rfl (congrArg B (decide_eq_false hg7))
      refine wpL_gq (U := NoB) rfl rfl rfl hb9 (q_move (v := I (nth l k)) rfl a6_6) ?_
      refine wpL_gq (U := NoB) rfl rfl rfl hb9 (q_move (v := I (n)) rfl a6_1) ?_
      refine wpL_gq (U := NoB) rfl rfl rfl hb9 (q_geq rfl rfl rfl) ?_
      refine wpL_q (U := NoB) rfl (q_pickF (v := B (decide (n ≤ (nth l k)))) rfl hb9 rfl) ?_
      refine wpL_q (U := NoB) rfl (q_move (v := B (decide (n ≤ (nth l k)))) rfl rfl) ?_
      by_cases hg10 : n ≤ (nth l k)
      · have hb11 := Eq.trans rfl (congrArg B (decide_eq_true hg10))
        refine wpL_gs rfl rfl rfl hb11 rfl ?_
        refine wpL_gs rfl rfl rfl hb11 rfl ?_
        refine wpL_gs rfl rfl rfl hb11 rfl ?_
        refine wpL_gs' rfl rfl rfl rfl ?_
        refine wpL_gs' rfl rfl rfl rfl ?_
        refine wpL_gs' rfl rfl rfl rfl ?_
        refine wpL_gs' rfl rfl rfl rfl ?_
        refine wpL_gs' rfl rfl rfl rfl ?_
        refine wpL_gs' rfl rfl rfl rfl ?_
        refine wpL_gs' rfl rfl rfl rfl ?_
        refine wpL_gs rfl rfl rfl hb11 rfl ?_
        refine wpL_q (U := NoB) rfl (q_pickT (v := B (true)) rfl hb11 rfl) ?_
        exact ⟨a6_0, a6_1, a6_7, a6_8, a6_9, (Eq.trans rfl (congrArg B ((decide_eq_true (Or.inl (Or.inr hg10))).symm))), rfl⟩
      · have hb12 := Eq.trans rfl (congrArg B (decide_eq_false hg10))
        refine wpL_gq (U := NoB) rfl rfl rfl hb12 (q_move (v := I ((k : Int))) rfl a6_5) ?_
        refine wpL_gq (U := NoB) rfl rfl rfl hb12 (q_gtr rfl rfl rfl) ?_
        refine wpL_gq (U := NoB) rfl rfl rfl hb12 (q_move (v := B (decide (0 < (k : Int)))) rfl rfl) ?_
        by_cases hg13 : 0 < (k : Int)
        · have hb14 := Eq.trans rfl (congrArg B (decide_eq_true hg13))
          refine wpL_gq (U := NoB) rfl rfl rfl hb14 (q_move (v := I (nth l k)) rfl a6_6) ?_
          refine wpL_gq (U := NoB) rfl rfl rfl hb14 (q_move (v := vl) rfl a6_0) ?_
          refine wpL_gq (U := NoB) rfl rfl rfl hb14 (q_move (v := I ((k : Int))) rfl a6_5) ?_
          refine wpL_gq (U := NoB) rfl rfl rfl hb14 (q_sub rfl rfl rfl (by constructor <;> omega)) ?_
          refine wpL_gq (U := NoB) rfl rfl rfl hb14 (q_indexRd (k := ((k : Int) - 1).toNat) rfl Try.underlying22 el_Int_3_ActC1 rfl rfl (hS3.rdl 0 rfl) (by omega) (by omega)) ?_
          refine wpL_gq (U := NoB) rfl rfl rfl hb14 (q_loadInt (k := ((k : Int) - 1).toNat) rfl rfl el_Int_3_ActC1 (hS3.rdl 0 rfl) (by omega) (fun _ h => h)) ?_
          refine wpL_gq (U := NoB) rfl rfl rfl hb14 (q_leq rfl rfl rfl) ?_
          refine wpL_gq (U := NoB) rfl rfl rfl hb12 (q_pickT (v := B (decide ((nth l k) ≤ (nth l (((k : Int) - 1).toNat))))) rfl hb14 rfl) ?_
          refine wpL_q (U := NoB) rfl (q_pickF (v := B (decide ((nth l k) ≤ (nth l (((k : Int) - 1).toNat))))) rfl hb12 rfl) ?_
          exact ⟨a6_0, a6_1, a6_7, a6_8, a6_9, (Eq.trans rfl (congrArg B (decide_congr_of ((Iff.rfl).trans (((or_iff_right (not_or.2 ⟨hg7, hg10⟩)).trans ((and_iff_right hg13).trans Iff.rfl))).symm)))), rfl⟩
        · have hb15 := Eq.trans rfl (congrArg B (decide_eq_false hg13))
          refine wpL_gs rfl rfl rfl hb15 rfl ?_
          refine wpL_gs rfl rfl rfl hb15 rfl ?_
          refine wpL_gs rfl rfl rfl hb15 rfl ?_
          refine wpL_gs rfl rfl rfl hb15 rfl ?_
          refine wpL_gs rfl rfl rfl hb15 rfl ?_
          refine wpL_gs rfl rfl rfl hb15 rfl ?_
          refine wpL_gs rfl rfl rfl hb15 rfl ?_
          refine wpL_gq (U := NoB) rfl rfl rfl hb12 (q_pickF (v := B (false)) rfl hb15 rfl) ?_
          refine wpL_q (U := NoB) rfl (q_pickF (v := B (false)) rfl hb12 rfl) ?_
          exact ⟨a6_0, a6_1, a6_7, a6_8, a6_9, (Eq.trans rfl (congrArg B ((decide_eq_false (not_or.2 ⟨(not_or.2 ⟨hg7, hg10⟩), (fun h => hg13 h.1)⟩)).symm))), rfl⟩
  rintro f16 _ ⟨a16_0, a16_1, a16_7, a16_8, a16_9, a16_33, rfl⟩
  clear a6_0 a6_1 a6_5 a6_6 a6_7 a6_8 a6_9
  refine wpF_condP a16_33 (fun hb => ?t20) (fun hb => ?e20)
  case e20 =>
    refine wpF_skip ?_
    refine wpF_cut (fun f H => f 0 = vl ∧ f 1 = I (n) ∧ f 7 = vl ∧ f 8 = I ((l.length : Int)) ∧ f 9 = I ((k : Int) + 1) ∧ H3 = H) ?_ ?_
    · refine wpF_region ?_
      refine wpL_q (U := NoB) rfl (q_add rfl a16_9 rfl (by constructor <;> omega)) ?_
      refine wpL_q (U := NoB) rfl (q_move (v := I ((k : Int) + 1)) rfl rfl) ?_
      exact ⟨a16_0, a16_1, a16_7, a16_8, rfl, rfl⟩
    rintro f19 _ ⟨a19_0, a19_1, a19_7, a19_8, a19_9, rfl⟩
    clear a16_0 a16_1 a16_33 a16_7 a16_8 a16_9
    refine ⟨_, ?_, k + 1, rfl, (by omega), (all_succ hp (by rw [e1] at hb; omega)), a19_0, a19_1, a19_7, a19_8, (Eq.trans a19_9 (congrArg I (by omega))), hS3⟩
    omega
  refine wpF_seq ?_
  refine wpF_cut (fun f H => f 4 = B (false) ∧ H3 = H) ?_ ?_
  · refine wpF_region ?_
    refine wpL_q (U := NoB) rfl (q_assign (v := B (false)) rfl rfl) ?_
    exact ⟨rfl, rfl⟩
  rintro f18 _ ⟨a18_4, rfl⟩
  clear a16_0 a16_1 a16_33 a16_7 a16_8 a16_9
  refine wpF_ret ?_
  refine ⟨_, resT a18_4 resN, hS3.frame, ?_⟩
  show (B (false)) = B (decide (Rising l n))
  exact congrArg B (decide_eq_false (fun h => by have h1 := h k (by omega); rw [e1] at hb; omega)).symm

set_option maxRecDepth 100000 in
theorem rising_R {H0 : Heap} (vl : Value) (l : List Int) (n : Int) (rl : Rd NoB H0 vl l) (hn : 1 ≤ n ∧ n ≤ 16) : CallsH Try.prog 40 #[vl, I (n)] H0 (fun rv_ H' => Ext NoB H0 H' ∧ rv_ = B (decide (Rising l n))) := by
  have hsm := (Rd.list.1 rl).small
  have hS0 : St H0 NoB NoB [rdE vl l] H0 := St.arg (St.start (fun _ h => h.elim)) (Bl0.nil) rl (fun _ h => h)
  refine callsH_of_wpF (args := [vl, I (n)]) (rs := [.tmp 4]) Try.func40 rfl Try.ntmps40 Try.results40 (by kernel_rfl) (Nat.le_of_ble_eq_true rfl) ?_
  have a0_0 : argF [vl, I (n)] 0 = vl := rfl
  have a0_1 : argF [vl, I (n)] 1 = I (n) := rfl
  generalize argF [vl, I (n)] = f0 at *
  refine wpF_seq ?_
  refine wpF_cut (fun f H => f 0 = vl ∧ f 1 = I (n) ∧ H0 = H) ?_ ?_
  · refine wpF_region ?_
    refine wpL_q (U := NoB) rfl (q_assign (v := B (false)) rfl rfl) ?_
    exact ⟨a0_0, a0_1, rfl⟩
  rintro f1 _ ⟨a1_0, a1_1, rfl⟩
  clear a0_0 a0_1
  refine wpF_seq ?_
  refine wpF_seq ?_
  refine wpF_cut (fun f H => f 0 = vl ∧ f 1 = I (n) ∧ f 5 = I (0) ∧ H0 = H) ?_ ?_
  · refine wpF_region ?_
    refine wpL_q (U := NoB) rfl (q_assign (v := I (0)) rfl rfl) ?_
    exact ⟨a1_0, a1_1, rfl, rfl⟩
  rintro f2 _ ⟨a2_0, a2_1, a2_5, rfl⟩
  clear a1_0 a1_1
  refine wpF_block ?_
  refine wpF_loop (fun mz f H => ∃ (k : Nat), mz = l.length - k ∧ (k ≤ l.length) ∧ (∀ j, j < k → (0 ≤ nth l j ∧ nth l j < n) ∧ (j = 0 ∨ nth l (j - 1) < nth l j)) ∧ f 0 = vl ∧ f 1 = I (n) ∧ f 5 = I ((k : Int)) ∧ St H0 NoB NoB [rdE vl l] H) (l.length - 0) ?_ ?_
  · exact ⟨0, rfl, Nat.zero_le _, (fun j hj => absurd hj (Nat.not_lt_zero j)), a2_0, a2_1, (Eq.trans a2_5 (congrArg I (by omega))), hS0⟩
  intro m3 f3 H3 hI3
  obtain ⟨k, hm3, hk, hp, a3_0, a3_1, a3_5, hS3⟩ := hI3
  clear a2_0 a2_1 a2_5
  refine wpF_seq ?_
  refine wpF_seq ?_
  refine wpF_cut (fun f H => f 0 = vl ∧ f 1 = I (n) ∧ f 5 = I ((k : Int)) ∧ f 9 = B (decide ((k : Int) < (l.length : Int))) ∧ H3 = H) ?_ ?_
  · refine wpF_region ?_
    refine wpL_q (U := NoB) rfl (q_move (v := I ((k : Int))) rfl a3_5) ?_
    refine wpL_q (U := NoB) rfl (q_move (v := vl) rfl a3_0) ?_
    refine wpL_q (U := NoB) rfl (q_lenRd rfl Try.underlying22 rfl (hS3.rdl 0 rfl)) ?_
    refine wpL_q (U := NoB) rfl (q_lss rfl rfl rfl) ?_
    exact ⟨a3_0, a3_1, a3_5, rfl, rfl⟩
  rintro f4 _ ⟨a4_0, a4_1, a4_5, a4_9, rfl⟩
  clear a3_0 a3_1 a3_5
  refine wpF_condP a4_9 (fun hlt => ?t19) (fun hlt => ?e19)
  case e19 =>
    refine wpF_exit ?_
    refine atX_here ?_
    refine wpF_seq ?_
    refine wpF_cut (fun f H => f 4 = B (true) ∧ H3 = H) ?_ ?_
    · refine wpF_region ?_
      refine wpL_q (U := NoB) rfl (q_assign (v := B (true)) rfl rfl) ?_
      exact ⟨rfl, rfl⟩
    rintro f18 _ ⟨a18_4, rfl⟩
    clear a4_0 a4_1 a4_5 a4_9
    refine wpF_ret ?_
    refine ⟨_, resT a18_4 resN, hS3.frame, ?_⟩
    show (B (true)) = B (decide (Rising l n))
    exact congrArg B (decide_eq_true (fun j hj => hp j (by omega))).symm
  have e1 : ((k : Int) - 1).toNat = k - 1 := by omega
  refine wpF_skip ?_
  refine wpF_seq ?_
  refine wpF_block ?_
  refine wpF_seq ?_
  refine wpF_cut (fun f H => f 0 = vl ∧ f 1 = I (n) ∧ f 5 = I ((k : Int)) ∧ f 35 = B (decide ((¬ (0 ≤ (nth l k) ∧ (nth l k) ≤ (n - 1))) ∨ ((0 < (k : Int)) ∧ ((nth l k) ≤ (nth l (((k : Int) - 1).toNat)))))) ∧ St H0 NoB NoB [rdE vl l] H) ?_ ?_
  · refine wpF_drawn [] [] (fun _ _ => False) (by kernel_rfl) (by kernel_rfl) ?_
    refine wpR_q 0 (by kernel_rfl) rfl (quietAt rfl rfl (q_move (v := vl) rfl a4_0)) ?_
    refine wpR_q 1 (by kernel_rfl) rfl (quietAt rfl rfl (q_move (v := I ((k : Int))) rfl a4_5)) ?_
    refine wpR_q 2 (by kernel_rfl) rfl (quietAt rfl rfl (q_indexRd (k := k) rfl Try.underlying22 el_Int_3_ActC1 rfl rfl (hS3.rdl 0 rfl) (by omega) (by omega))) ?_
    refine wpR_q 3 (by kernel_rfl) rfl (quietAt rfl rfl (q_loadInt (k := k) rfl rfl el_Int_3_ActC1 (hS3.rdl 0 rfl) (by omega) (labU_sub [] rfl (List.forall_mem_nil _)))) ?_
    refine wpR_q 4 (by kernel_rfl) rfl (quietAt rfl rfl (q_move (v := I (n)) rfl a4_1)) ?_
    refine wpR_q 5 (by kernel_rfl) rfl (quietAt rfl rfl (q_sub rfl rfl rfl (by constructor <;> omega))) ?_
    refine wpR_n [6] (by kernel_rfl) ?_
    refine List.forall_mem_cons.2 ⟨?_, List.forall_mem_nil _⟩
    refine exE rfl rfl ?_
    refine e_call rfl Try.call38 (arr3 (v0 := I (nth l k)) (v1 := I (0)) (v2 := I (n - 1)) rfl rfl rfl) (in_R (nth l k) 0 (n - 1)) ?_
    rintro _ H6o6 ⟨hxx, rfl⟩
    have hS6o6 : St H0 NoB NoB [rdE vl l] H6o6 := hS3.ext hxx
    refine ⟨Ext.mono hxx (fun _ h => h.elim), ?_⟩
    refine wpR_q 7 (by kernel_rfl) rfl (quietAt rfl rfl (q_notP rfl rfl)) ?_
    refine wpR_q 8 (by kernel_rfl) rfl (quietAt rfl rfl (q_move (v := B (decide (¬ (0 ≤ (nth l k) ∧ (nth l k) ≤ (n - 1))))) rfl rfl)) ?_
    by_cases hg7 : ¬ (0 ≤ (nth l k) ∧ (nth l k) ≤ (n - 1))
    · have hb8 := Eq.trans rfl (congrArg B (decide_eq_true hg7))
      refine wpR_q 9 (by kernel_rfl) rfl (quietAt_s rfl rfl rfl rfl hb8 rfl) ?_
      refine wpR_q 10 (by kernel_rfl) rfl (quietAt_s rfl rfl rfl rfl hb8 rfl) ?_
      refine wpR_q 11 (by kernel_rfl) rfl (quietAt_s rfl rfl rfl rfl hb8 rfl) ?_
      refine wpR_q 12 (by kernel_rfl) rfl (quietAt_s' rfl rfl rfl rfl rfl) ?_
      refine wpR_q 13 (by kernel_rfl) rfl (quietAt_s' rfl rfl rfl rfl rfl) ?_
      refine wpR_q 14 (by kernel_rfl) rfl (quietAt_s' rfl rfl rfl rfl rfl) ?_
      refine wpR_q 15 (by kernel_rfl) rfl (quietAt_s' rfl rfl rfl rfl rfl) ?_
      refine wpR_q 16 (by kernel_rfl) rfl (quietAt_s' rfl rfl rfl rfl rfl) ?_
      refine wpR_q 17 (by kernel_rfl) rfl (quietAt_s' rfl rfl rfl rfl rfl) ?_
      refine wpR_q 18 (by kernel_rfl) rfl (quietAt_s' rfl rfl rfl rfl rfl) ?_
      refine wpR_q 19 (by kernel_rfl) rfl (quietAt_s' rfl rfl rfl rfl rfl) ?_
      refine wpR_q 20 (by kernel_rfl) rfl (quietAt_s' rfl rfl rfl rfl rfl) ?_
      refine wpR_q 21 (by kernel_rfl) rfl (quietAt_s' rfl rfl rfl rfl rfl) ?_
      refine wpR_q 22 (by kernel_rfl) rfl (quietAt_s rfl rfl rfl rfl hb8 rfl) ?_
      refine wpR_q 23 (by kernel_rfl) rfl (quietAt rfl rfl (q_pickT (v := B (true)) rfl hb8 rfl)) ?_
      refine wpR_end (by kernel_rfl) ?_
      exact ⟨a4_0, a4_1, a4_5, (Eq.trans rfl (congrArg B ((decide_eq_true (Or.inl hg7)).symm))), hS6o6⟩
    · have hb9 := Eq.trans rfl (congrArg B (decide_eq_false hg7))
      refine wpR_q 9 (by kernel_rfl) rfl (quietAt_g rfl rfl rfl rfl hb9 (q_move (v := I ((k : Int))) rfl a4_5)) ?_
      refine wpR_q 10 (by kernel_rfl) rfl (quietAt_g rfl rfl rfl rfl hb9 (q_gtr rfl rfl rfl)) ?_
      refine wpR_q 11 (by kernel_rfl) rfl (quietAt_g rfl rfl rfl rfl hb9 (q_move (v := B (decide (0 < (k : Int)))) rfl rfl)) ?_
      by_cases hg10 : 0 < (k : Int)
      · have hb11 := Eq.trans rfl (congrArg B (decide_eq_true hg10))
        refine wpR_q 12 (by kernel_rfl) rfl (quietAt_g rfl rfl rfl rfl hb11 (q_move (v := vl) rfl a4_0)) ?_
        refine wpR_q 13 (by kernel_rfl) rfl (quietAt_g rfl rfl rfl rfl hb11 (q_move (v := I ((k : Int))) rfl a4_5)) ?_
        refine wpR_q 14 (by kernel_rfl) rfl (quietAt_g rfl rfl rfl rfl hb11 (q_indexRd (k := k) rfl Try.underlying22 el_Int_3_ActC1 rfl rfl (hS6o6.rdl 0 rfl) (by omega) (by omega))) ?_
        refine wpR_q 15 (by kernel_rfl) rfl (quietAt_g rfl rfl rfl rfl hb11 (q_loadInt (k := k) rfl rfl el_Int_3_ActC1 (hS6o6.rdl 0 rfl) (by omega) (labU_sub [] rfl (List.forall_mem_nil _)))) ?_
        refine wpR_q 16 (by kernel_rfl) rfl (quietAt_g rfl rfl rfl rfl hb11 (q_move (v := vl) rfl a4_0)) ?_
        refine wpR_q 17 (by kernel_rfl) rfl (quietAt_g rfl rfl rfl rfl hb11 (q_move (v := I ((k : Int))) rfl a4_5)) ?_
        refine wpR_q 18 (by kernel_rfl) rfl (quietAt_g rfl rfl rfl rfl hb11 (q_sub rfl rfl rfl (by constructor <;> omega))) ?_
        refine wpR_q 19 (by kernel_rfl) rfl (quietAt_g rfl rfl rfl rfl hb11 (q_indexRd (k := ((k : Int) - 1).toNat) rfl Try.underlying22 el_Int_3_ActC1 rfl rfl (hS6o6.rdl 0 rfl) (by omega) (by omega))) ?_
        refine wpR_q 20 (by kernel_rfl) rfl (quietAt_g rfl rfl rfl rfl hb11 (q_loadInt (k := ((k : Int) - 1).toNat) rfl rfl el_Int_3_ActC1 (hS6o6.rdl 0 rfl) (by omega) (labU_sub [] rfl (List.forall_mem_nil _)))) ?_
        refine wpR_q 21 (by kernel_rfl) rfl (quietAt_g rfl rfl rfl rfl hb11 (q_leq rfl rfl rfl)) ?_
        refine wpR_q 22 (by kernel_rfl) rfl (quietAt_g rfl rfl rfl rfl hb9 (q_pickT (v := B (decide ((nth l k) ≤ (nth l (((k : Int) - 1).toNat))))) rfl hb11 rfl)) ?_
        refine wpR_q 23 (by kernel_rfl) rfl (quietAt rfl rfl (q_pickF (v := B (decide ((nth l k) ≤ (nth l (((k : Int) - 1).toNat))))) rfl hb9 rfl)) ?_
        refine wpR_end (by kernel_rfl) ?_
        exact ⟨a4_0, a4_1, a4_5, (Eq.trans rfl (congrArg B (decide_congr_of ((Iff.rfl).trans (((or_iff_right hg7).trans ((and_iff_right hg10).trans Iff.rfl))).symm)))), hS6o6⟩
      · have hb12 := Eq.trans rfl (congrArg B (decide_eq_false hg10))
        refine wpR_q 12 (by kernel_rfl) rfl (quietAt_s rfl rfl rfl rfl hb12 rfl) ?_
        refine wpR_q 13 (by kernel_rfl) rfl (quietAt_s rfl rfl rfl rfl hb12 rfl) ?_
        refine wpR_q 14 (by kernel_rfl) rfl (quietAt_s rfl rfl rfl rfl hb12 rfl) ?_
        refine wpR_q 15 (by kernel_rfl) rfl (quietAt_s rfl rfl rfl rfl hb12 rfl) ?_
        refine wpR_q 16 (by kernel_rfl) rfl (quietAt_s rfl rfl rfl rfl hb12 rfl) ?_
        refine wpR_q 17 (by kernel_rfl) rfl (quietAt_s rfl rfl rfl rfl hb12 rfl) ?_
        refine wpR_q 18 (by kernel_rfl) rfl (quietAt_s rfl rfl rfl rfl hb12 rfl) ?_
        refine wpR_q 19 (by kernel_rfl) rfl (quietAt_s rfl rfl rfl rfl hb12 rfl) ?_
        refine wpR_q 20 (by kernel_rfl) rfl (quietAt_s rfl rfl rfl rfl hb12 rfl) ?_
        refine wpR_q 21 (by kernel_rfl) rfl (quietAt_s rfl rfl rfl rfl hb12 rfl) ?_
        refine wpR_q 22 (by kernel_rfl) rfl (quietAt_g rfl rfl rfl rfl hb9 (q_pickF (v := B (false)) rfl hb12 rfl)) ?_
        refine wpR_q 23 (by kernel_rfl) rfl (quietAt rfl rfl (q_pickF (v := B (false)) rfl hb9 rfl)) ?_
        refine wpR_end (by kernel_rfl) ?_
        exact ⟨a4_0, a4_1, a4_5, (Eq.trans rfl (congrArg B ((decide_eq_false (not_or.2 ⟨hg7, (fun h => hg10 h.1)⟩)).symm))), hS6o6⟩
  rintro f13 H13 ⟨a13_0, a13_1, a13_5, a13_35, hS13⟩
  clear a4_0 a4_1 a4_5 a4_9
  refine wpF_condP a13_35 (fun hb => ?t17) (fun hb => ?e17)
  case t17 =>
    refine wpF_seq ?_
    refine wpF_cut (fun f H => f 4 = B (false) ∧ H13 = H) ?_ ?_
    · refine wpF_region ?_
      refine wpL_q (U := NoB) rfl (q_assign (v := B (false)) rfl rfl) ?_
      exact ⟨rfl, rfl⟩
    rintro f15 _ ⟨a15_4, rfl⟩
    clear a13_0 a13_1 a13_35 a13_5
    refine wpF_ret ?_
    refine ⟨_, resT a15_4 resN, hS13.frame, ?_⟩
    show (B (false)) = B (decide (Rising l n))
    exact congrArg B (decide_eq_false (fun h => by have h1 := h k (by omega); rw [e1] at hb; omega)).symm
  refine wpF_skip ?_
  refine wpF_cut (fun f H => f 0 = vl ∧ f 1 = I (n) ∧ f 5 = I ((k : Int) + 1) ∧ H13 = H) ?_ ?_
  · refine wpF_region ?_
    refine wpL_q (U := NoB) rfl (q_move (v := I ((k : Int))) rfl a13_5) ?_
    refine wpL_q (U := NoB) rfl (q_add rfl rfl rfl (by constructor <;> omega)) ?_
    refine wpL_q (U := NoB) rfl (q_assign (v := I ((k : Int) + 1)) rfl rfl) ?_
    exact ⟨a13_0, a13_1, rfl, rfl⟩
  rintro f16 _ ⟨a16_0, a16_1, a16_5, rfl⟩
  clear a13_0 a13_1 a13_35 a13_5
  refine ⟨_, ?_, k + 1, rfl, (by omega), (all_succ hp (by rw [e1] at hb; omega)), a16_0, a16_1, (Eq.trans a16_5 (congrArg I (by omega))), hS13⟩
  omega

set_option maxRecDepth 100000 in
theorem share_1 {H0 : Heap} (x : Int) (gx : Nat) (vb : Value) (b : List Int) (hb : H0[gx]? = some (.cells #[vb] 22)) (rb : Rd NoB H0 vb b) : CallsH Try.prog 57 #[I (x), PT gx 0] H0 (fun rv_ H' => Ext NoB H0 H' ∧ rv_ = B (hasB b x)) := by
  have hS0 : St H0 NoB NoB [fixE gx (.cells #[vb] 22), rdE vb b] H0 := St.argFix (St.arg (St.start (fun _ h => h.elim)) (Bl0.nil) rb (fun _ h => h)) (Bl0.cons (Bl0.nil)) hb (fun h => h)
  refine callsH_of_wpF (args := [I (x), PT gx 0]) (rs := [.tmp 3]) Try.func57 rfl Try.ntmps57 Try.results57 (by kernel_rfl) (Nat.le_of_ble_eq_true rfl) ?_
  have a0_0 : argF [I (x), PT gx 0] 0 = I (x) := rfl
  have a0_1 : argF [I (x), PT gx 0] 1 = PT gx 0 := rfl
  generalize argF [I (x), PT gx 0] = f0 at *
  refine wpF_seq ?_
  refine wpF_cut (fun f H => f 0 = I (x) ∧ f 1 = PT gx 0 ∧ H0 = H) ?_ ?_
  · refine wpF_region ?_
    refine wpL_q (U := NoB) rfl (q_assign (v := B (false)) rfl rfl) ?_
    exact ⟨a0_0, a0_1, rfl⟩
  rintro f1 _ ⟨a1_0, a1_1, rfl⟩
  clear a0_0 a0_1
  refine wpF_seq ?_
  refine wpF_cut (fun f H => f 3 = B (hasB b x) ∧ St H0 NoB NoB [fixE gx (.cells #[vb] 22)] H) ?_ ?_
  · refine wpF_region ?_
    refine wpL_q (U := NoB) rfl (q_loadBlk rfl a1_1 Try.isAgg22 (hS0.fixd 0 rfl) rfl (fun h => h)) ?_
    refine wpL_q (U := NoB) rfl (q_move (v := I (x)) rfl a1_0) ?_
    refine wpL_o rfl ?_
    refine e_call rfl Try.call52 (arr2 (v0 := vb) (v1 := I (x)) rfl rfl) (Contains vb b x (hS0.rdN 1 rfl) ) ?_
    rintro _ H2 ⟨hxx, rfl⟩
    have hS3 : St H0 NoB NoB [fixE gx (.cells #[vb] 22), rdE vb b] H2 := hS0.ext hxx
    refine wpL_q (U := NoB) rfl (q_assign (v := B (hasB b x)) rfl rfl) ?_
    exact ⟨rfl, (hS3.drop (sk (sn (List.Sublist.slnil))))⟩
  rintro f5 H5 ⟨a5_3, hS5⟩
  clear a1_0 a1_1
  refine wpF_ret ?_
  refine ⟨_, resT a5_3 resN, hS5.frame, ?_⟩
  show (B (hasB b x)) = B (hasB b x)
  rfl

set_option maxRecDepth 100000 in
theorem share_L {H0 : Heap} (va vb : Value) (a b : List Int) (ra : Rd NoB H0 va a) (rb : Rd NoB H0 vb b) : CallsH Try.prog 43 #[va, vb] H0 (fun rv_ H' => Ext NoB H0 H' ∧ rv_ = B (shareB a b)) := by
  have hS0 : St H0 NoB NoB [rdE va a, rdE vb b] H0 := St.arg (St.arg (St.start (fun _ h => h.elim)) (Bl0.nil) rb (fun _ h => h)) (Bl0.cons (Bl0.nil)) ra (fun _ h => h)
  refine callsH_of_wpF (args := [va, vb]) (rs := [.tmp 4]) Try.func43 rfl Try.ntmps43 Try.results43 (by kernel_rfl) (Nat.le_of_ble_eq_true rfl) ?_
  have a0_0 : argF [va, vb] 0 = va := rfl
  have a0_1 : argF [va, vb] 1 = vb := rfl
  generalize argF [va, vb] = f0 at *
  refine wpF_seq ?_
  refine wpF_cut (fun f H => ∃ (g1 : Nat), f 0 = va ∧ f 3 = PT g1 0 ∧ St H0 NoB NoB [blkE g1 (.cells #[vb] 22), rdE va a, rdE vb b] H) ?_ ?_
  · refine wpF_region ?_
    refine wpL_o rfl ?_
    refine e_box (v := vb) rfl a0_1 hS0 (fun g1 H2 hS3 hxx => ?_)
    rw [cells_rdL (hS0.rdl 1 rfl)] at hS3
    replace hS3 : St H0 NoB NoB [blkE g1 (.cells #[vb] 22), rdE va a, rdE vb b] H2 := hS3
    refine wpL_q (U := NoB) rfl (q_assign (v := B (false)) rfl rfl) ?_
    exact ⟨g1, a0_0, rfl, hS3⟩
  rintro f4 H4 ⟨g1, a4_0, a4_3, hS4⟩
  clear a0_0 a0_1
  refine wpF_seq ?_
  refine wpF_cut (fun f H => f 4 = B (a.any (fun f => hasB b f)) ∧ St H0 NoB NoB [blkE g1 (.cells #[vb] 22), rdE va a, rdE vb b] H) ?_ ?_
  · refine wpF_region ?_
    refine wpL_q (U := NoB) rfl (q_move (v := va) rfl a4_0) ?_
    refine wpL_q (U := NoB) rfl (q_makeFunc (fi' := #[]) rfl (by simp) (arr1 (v0 := PT g1 0) a4_3)) ?_
    refine wpL_o rfl ?_
    refine e_call rfl Try.call46 (arr2 (v0 := va) (v1 := Value.func (.func 57) #[] #[PT g1 0]) rfl rfl) (ContainsFunc va (Value.func (.func 57) #[] #[PT g1 0]) a (fun f => hasB b f) (hS4.rdN 1 rfl) (fun x hx H hE => ⟨_, _, rfl, Try.call57, share_1 x g1 _ _ (hE.blk (hS4.blk 0 rfl)) ((hS4.rdN 2 rfl).extN hE)⟩)) ?_
    rintro _ H5 ⟨hxx, rfl⟩
    have hS6 : St H0 NoB NoB [blkE g1 (.cells #[vb] 22), rdE va a, rdE vb b] H5 := hS4.ext hxx
    refine wpL_q (U := NoB) rfl (q_assign (v := B (a.any (fun f => hasB b f))) rfl rfl) ?_
    exact ⟨rfl, hS6⟩
  rintro f8 H8 ⟨a8_4, hS8⟩
  clear a4_0 a4_3
  refine wpF_ret ?_
  refine ⟨_, resT a8_4 resN, hS8.frame, ?_⟩
  show (B (a.any (fun f => hasB b f))) = B (shareB a b)
  rfl

set_option maxRecDepth 100000 in
theorem Check_L {H0 : Heap} (vf vg va : Value) (q : Quest) (h6qFacts : In64 q.Facts) (rvf : Rd NoB H0 vf q.First) (rvg : Rd NoB H0 vg q.Goal) (rva : Rd NoB H0 va q.Acts) : CallsH Try.prog 13 #[Value.agg #[I (q.Facts), vf, vg, va]] H0 (fun rv_ H' => Ext NoB H0 H' ∧ rv_ = Value.agg #[I (questFault q).1, I (questFault q).2]) := by
  have hsa := (Rd.list.1 rva).small
  have hS0 : St H0 NoB NoB [rdE vf q.First, rdE vg q.Goal, rdE va q.Acts] H0 := St.arg (St.arg (St.arg (St.start (fun _ h => h.elim)) (Bl0.nil) rva (fun _ h => h)) (Bl0.cons (Bl0.nil)) rvg (fun _ h => h)) (Bl0.cons (Bl0.cons (Bl0.nil))) rvf (fun _ h => h)
  refine callsH_of_wpF (args := [Value.agg #[I (q.Facts), vf, vg, va]]) (rs := [.cell 2 27]) Try.func13 rfl Try.ntmps13 Try.results13 (by kernel_rfl) (Nat.le_of_ble_eq_true rfl) ?_
  have a0_0 : argF [Value.agg #[I (q.Facts), vf, vg, va]] 0 = Value.agg #[I (q.Facts), vf, vg, va] := rfl
  generalize argF [Value.agg #[I (q.Facts), vf, vg, va]] = f0 at *
  refine wpF_seq ?_
  refine wpF_cut (fun f H => ∃ (g1 : Nat), ∃ (g4 : Nat), f 1 = PT g1 0 ∧ f 2 = PT g4 0 ∧ St H0 NoB NoB [blkE g4 (.cells #[I (0), I (0)] 27), blkE g1 (.cells #[I (q.Facts), vf, vg, va] 25), rdE vf q.First, rdE vg q.Goal, rdE va q.Acts] H) ?_ ?_
  · refine wpF_region ?_
    refine wpL_o rfl ?_
    refine e_box (v := Value.agg #[I (q.Facts), vf, vg, va]) rfl a0_0 hS0 (fun g1 H2 hS3 hxx => ?_)
    replace hS3 : St H0 NoB NoB [blkE g1 (.cells #[I (q.Facts), vf, vg, va] 25), rdE vf q.First, rdE vg q.Goal, rdE va q.Acts] H2 := hS3
    refine wpL_o rfl ?_
    refine e_alloc rfl Try.zeroValue27 hS3 (fun g4 H5 hS6 hxx => ?_)
    replace hS6 : St H0 NoB NoB [blkE g4 (.cells #[I (0), I (0)] 27), blkE g1 (.cells #[I (q.Facts), vf, vg, va] 25), rdE vf q.First, rdE vg q.Goal, rdE va q.Acts] H5 := hS6
    exact ⟨g1, g4, rfl, rfl, hS6⟩
  rintro f7 H7 ⟨g1, g4, a7_1, a7_2, hS7⟩
  clear a0_0
  refine wpF_seq ?_
  refine wpF_block ?_
  refine wpF_seq ?_
  refine wpF_cut (fun f H => f 1 = PT g1 0 ∧ f 2 = PT g4 0 ∧ f 5 = B (decide ((q.Facts < 1) ∨ (16 < q.Facts))) ∧ H7 = H) ?_ ?_
  · refine wpF_region ?_
    refine wpL_q (U := NoB) rfl (q_fieldAddr rfl Try.underlying25 rfl Try.sizeOf3 a7_1) ?_
    refine wpL_q (U := NoB) rfl (q_loadBlk rfl rfl Try.isAgg3 (hS7.blk 1 rfl) rfl (fun h => h)) ?_
    refine wpL_q (U := NoB) rfl (q_lss rfl rfl rfl) ?_
    refine wpL_q (U := NoB) rfl (q_move (v := B (decide (q.Facts < 1))) rfl rfl) ?_
    by_cases hg8 : q.Facts < 1
    · have hb9 := Eq.trans rfl (congrArg B (decide_eq_true hg8))
      refine wpL_gs rfl rfl rfl hb9 rfl ?_
      refine wpL_gs rfl rfl rfl hb9 rfl ?_
      refine wpL_gs rfl rfl rfl hb9 rfl ?_
      refine wpL_q (U := NoB) rfl (q_pickT (v := B (true)) rfl hb9 rfl) ?_
      refine wpL_q (U := NoB) rfl (q_assign (v := B (true)) rfl rfl) ?_
      exact ⟨a7_1, a7_2, (Eq.trans rfl (congrArg B ((decide_eq_true (Or.inl hg8)).symm))), rfl⟩
    · have hb10 := Eq.trans rfl (congrArg B (decide_eq_false hg8))
      refine wpL_gq (U := NoB) rfl rfl rfl hb10 (q_fieldAddr rfl Try.underlying25 rfl Try.sizeOf3 a7_1) ?_
      refine wpL_gq (U := NoB) rfl rfl rfl hb10 (q_loadBlk rfl rfl Try.isAgg3 (hS7.blk 1 rfl) rfl (fun h => h)) ?_
      refine wpL_gq (U := NoB) rfl rfl rfl hb10 (q_gtr rfl rfl rfl) ?_
      refine wpL_q (U := NoB) rfl (q_pickF (v := B (decide (16 < q.Facts))) rfl hb10 rfl) ?_
      refine wpL_q (U := NoB) rfl (q_assign (v := B (decide (16 < q.Facts))) rfl rfl) ?_
      exact ⟨a7_1, a7_2, (Eq.trans rfl (congrArg B (decide_congr_of ((Iff.rfl).trans (((or_iff_right hg8).trans Iff.rfl)).symm)))), rfl⟩
  rintro f11 _ ⟨a11_1, a11_2, a11_5, rfl⟩
  clear a7_1 a7_2
  refine wpF_condP a11_5 (fun h1 => ?t99) (fun h1 => ?e99)
  case t99 =>
    refine wpF_seq ?_
    refine wpF_cut (fun f H => f 2 = PT g4 0 ∧ St H0 NoB NoB [blkE g4 (.cells #[I (3), I (-1)] 27), blkE g1 (.cells #[I (q.Facts), vf, vg, va] 25), rdE vf q.First, rdE vg q.Goal, rdE va q.Acts] H) ?_ ?_
    · refine wpF_region ?_
      refine wpL_q (U := NoB) rfl (q_build (v := Value.agg #[I (3), I (-1)]) rfl (par2 (v0 := I (3)) (v1 := I (-1)) rfl rfl) (fun w => by kernel_rfl)) ?_
      refine wpL_o rfl ?_
      refine e_storeBlkA (cs' := #[I (3), I (-1)]) rfl a11_2 rfl Try.sizeOf27 rfl rfl (List.forall_mem_cons.2 ⟨rfl, List.forall_mem_cons.2 ⟨rfl, List.forall_mem_nil _⟩⟩) hS7 (fun H13 hS14 hxx => ?_)
      replace hS14 : St H0 NoB NoB [blkE g4 (.cells #[I (3), I (-1)] 27), blkE g1 (.cells #[I (q.Facts), vf, vg, va] 25), rdE vf q.First, rdE vg q.Goal, rdE va q.Acts] H13 := hS14
      exact ⟨a11_2, hS14⟩
    rintro f15 H15 ⟨a15_2, hS15⟩
    clear a11_1 a11_2 a11_5
    refine wpF_ret ?_
    refine ⟨_, resC a15_2 (loadV_blkA Try.isAgg27 Try.sizeOf27 rfl (hS15.blk 0 rfl)) (resN), hS15.frame, ?_⟩
    show (Value.agg #[I (3), I (-1)]) = Value.agg #[I (questFault q).1, I (questFault q).2]
    have hq := questFault_facts h1
    rw [hq]
  refine wpF_seq ?_
  refine wpF_cut (fun f H => f 1 = PT g1 0 ∧ f 2 = PT g4 0 ∧ f 15 = B (decide (12 < (q.Acts.length : Int))) ∧ H7 = H) ?_ ?_
  · refine wpF_region ?_
    refine wpL_q (U := NoB) rfl (q_fieldAddr rfl Try.underlying25 rfl Try.sizeOf23 a11_1) ?_
    refine wpL_q (U := NoB) rfl (q_loadBlk rfl rfl Try.isAgg23 (hS7.blk 1 rfl) rfl (fun h => h)) ?_
    refine wpL_q (U := NoB) rfl (q_lenRd rfl Try.underlying23 rfl (hS7.rdl 4 rfl)) ?_
    refine wpL_q (U := NoB) rfl (q_gtr rfl rfl rfl) ?_
    refine wpL_q (U := NoB) rfl (q_assign (v := B (decide (12 < (q.Acts.length : Int)))) rfl rfl) ?_
    exact ⟨a11_1, a11_2, rfl, rfl⟩
  rintro f16 _ ⟨a16_1, a16_2, a16_15, rfl⟩
  clear a11_1 a11_2 a11_5
  refine wpF_condP a16_15 (fun h2 => ?t98) (fun h2 => ?e98)
  case t98 =>
    refine wpF_seq ?_
    refine wpF_cut (fun f H => f 2 = PT g4 0 ∧ St H0 NoB NoB [blkE g4 (.cells #[I (2), I (-1)] 27), blkE g1 (.cells #[I (q.Facts), vf, vg, va] 25), rdE vf q.First, rdE vg q.Goal, rdE va q.Acts] H) ?_ ?_
    · refine wpF_region ?_
      refine wpL_q (U := NoB) rfl (q_build (v := Value.agg #[I (2), I (-1)]) rfl (par2 (v0 := I (2)) (v1 := I (-1)) rfl rfl) (fun w => by kernel_rfl)) ?_
      refine wpL_o rfl ?_
      refine e_storeBlkA (cs' := #[I (2), I (-1)]) rfl a16_2 rfl Try.sizeOf27 rfl rfl (List.forall_mem_cons.2 ⟨rfl, List.forall_mem_cons.2 ⟨rfl, List.forall_mem_nil _⟩⟩) hS7 (fun H18 hS19 hxx => ?_)
      replace hS19 : St H0 NoB NoB [blkE g4 (.cells #[I (2), I (-1)] 27), blkE g1 (.cells #[I (q.Facts), vf, vg, va] 25), rdE vf q.First, rdE vg q.Goal, rdE va q.Acts] H18 := hS19
      exact ⟨a16_2, hS19⟩
    rintro f20 H20 ⟨a20_2, hS20⟩
    clear a16_1 a16_15 a16_2
    refine wpF_ret ?_
    refine ⟨_, resC a20_2 (loadV_blkA Try.isAgg27 Try.sizeOf27 rfl (hS20.blk 0 rfl)) (resN), hS20.frame, ?_⟩
    show (Value.agg #[I (2), I (-1)]) = Value.agg #[I (questFault q).1, I (questFault q).2]
    have hq := questFault_many h1 h2
    rw [hq]
  refine wpF_seq ?_
  refine wpF_cut (fun f H => f 1 = PT g1 0 ∧ f 2 = PT g4 0 ∧ f 21 = B (decide ((¬ (Rising q.First q.Facts)) ∨ (¬ (Rising q.Goal q.Facts)))) ∧ St H0 NoB NoB [blkE g4 (.cells #[I (0), I (0)] 27), blkE g1 (.cells #[I (q.Facts), vf, vg, va] 25), rdE vf q.First, rdE vg q.Goal, rdE va q.Acts] H) ?_ ?_
  · refine wpF_region ?_
    refine wpL_q (U := NoB) rfl (q_fieldAddr rfl Try.underlying25 rfl Try.sizeOf22 a16_1) ?_
    refine wpL_q (U := NoB) rfl (q_loadBlk rfl rfl Try.isAgg22 (hS7.blk 1 rfl) rfl (fun h => h)) ?_
    refine wpL_q (U := NoB) rfl (q_fieldAddr rfl Try.underlying25 rfl Try.sizeOf3 a16_1) ?_
    refine wpL_q (U := NoB) rfl (q_loadBlk rfl rfl Try.isAgg3 (hS7.blk 1 rfl) rfl (fun h => h)) ?_
    refine wpL_o rfl ?_
    refine e_call rfl Try.call42 (arr2 (v0 := vf) (v1 := I (q.Facts)) rfl rfl) (facts_L vf q.First q.Facts (hS7.rdN 2 rfl) (by omega)) ?_
    rintro _ H21 ⟨hxx, rfl⟩
    have hS22 : St H0 NoB NoB [blkE g4 (.cells #[I (0), I (0)] 27), blkE g1 (.cells #[I (q.Facts), vf, vg, va] 25), rdE vf q.First, rdE vg q.Goal, rdE va q.Acts] H21 := hS7.ext hxx
    refine wpL_q (U := NoB) rfl (q_notP rfl rfl) ?_
    refine wpL_q (U := NoB) rfl (q_move (v := B (decide (¬ (Rising q.First q.Facts)))) rfl rfl) ?_
    by_cases hg24 : ¬ (Rising q.First q.Facts)
    · have hb25 := Eq.trans rfl (congrArg B (decide_eq_true hg24))
      refine wpL_gs rfl rfl rfl hb25 rfl ?_
      refine wpL_gs rfl rfl rfl hb25 rfl ?_
      refine wpL_gs rfl rfl rfl hb25 rfl ?_
      refine wpL_gs rfl rfl rfl hb25 rfl ?_
      refine wpL_gs rfl rfl rfl hb25 rfl ?_
      refine wpL_gs rfl rfl rfl hb25 rfl ?_
      refine wpL_q (U := NoB) rfl (q_pickT (v := B (true)) rfl hb25 rfl) ?_
      refine wpL_q (U := NoB) rfl (q_assign (v := B (true)) rfl rfl) ?_
      exact ⟨a16_1, a16_2, (Eq.trans rfl (congrArg B ((decide_eq_true (Or.inl hg24)).symm))), hS22⟩
    · have hb26 := Eq.trans rfl (congrArg B (decide_eq_false hg24))
      refine wpL_gq (U := NoB) rfl rfl rfl hb26 (q_fieldAddr rfl Try.underlying25 rfl Try.sizeOf22 a16_1) ?_
      refine wpL_gq (U := NoB) rfl rfl rfl hb26 (q_loadBlk rfl rfl Try.isAgg22 (hS22.blk 1 rfl) rfl (fun h => h)) ?_
      refine wpL_gq (U := NoB) rfl rfl rfl hb26 (q_fieldAddr rfl Try.underlying25 rfl Try.sizeOf3 a16_1) ?_
      refine wpL_gq (U := NoB) rfl rfl rfl hb26 (q_loadBlk rfl rfl Try.isAgg3 (hS22.blk 1 rfl) rfl (fun h => h)) ?_
      refine wpL_go rfl rfl rfl hb26 ?_
      refine e_call rfl Try.call42 (arr2 (v0 := vg) (v1 := I (q.Facts)) rfl rfl) (facts_L vg q.Goal q.Facts (hS22.rdN 3 rfl) (by omega)) ?_
      rintro _ H27 ⟨hxx, rfl⟩
      have hS28 : St H0 NoB NoB [blkE g4 (.cells #[I (0), I (0)] 27), blkE g1 (.cells #[I (q.Facts), vf, vg, va] 25), rdE vf q.First, rdE vg q.Goal, rdE va q.Acts] H27 := hS22.ext hxx
      refine wpL_gq (U := NoB) rfl rfl rfl hb26 (q_notP rfl rfl) ?_
      refine wpL_q (U := NoB) rfl (q_pickF (v := B (decide (¬ (Rising q.Goal q.Facts)))) rfl hb26 rfl) ?_
      refine wpL_q (U := NoB) rfl (q_assign (v := B (decide (¬ (Rising q.Goal q.Facts)))) rfl rfl) ?_
      exact ⟨a16_1, a16_2, (Eq.trans rfl (congrArg B (decide_congr_of (((not_congr Iff.rfl)).trans (((or_iff_right hg24).trans (not_congr Iff.rfl))).symm)))), hS28⟩
  rintro f30 H30 ⟨a30_1, a30_2, a30_21, hS30⟩
  clear a16_1 a16_15 a16_2
  refine wpF_condP a30_21 (fun h3 => ?t97) (fun h3 => ?e97)
  case t97 =>
    refine wpF_seq ?_
    refine wpF_cut (fun f H => f 2 = PT g4 0 ∧ St H0 NoB NoB [blkE g4 (.cells #[I (5), I (-1)] 27), blkE g1 (.cells #[I (q.Facts), vf, vg, va] 25), rdE vf q.First, rdE vg q.Goal, rdE va q.Acts] H) ?_ ?_
    · refine wpF_region ?_
      refine wpL_q (U := NoB) rfl (q_build (v := Value.agg #[I (5), I (-1)]) rfl (par2 (v0 := I (5)) (v1 := I (-1)) rfl rfl) (fun w => by kernel_rfl)) ?_
      refine wpL_o rfl ?_
      refine e_storeBlkA (cs' := #[I (5), I (-1)]) rfl a30_2 rfl Try.sizeOf27 rfl rfl (List.forall_mem_cons.2 ⟨rfl, List.forall_mem_cons.2 ⟨rfl, List.forall_mem_nil _⟩⟩) hS30 (fun H32 hS33 hxx => ?_)
      replace hS33 : St H0 NoB NoB [blkE g4 (.cells #[I (5), I (-1)] 27), blkE g1 (.cells #[I (q.Facts), vf, vg, va] 25), rdE vf q.First, rdE vg q.Goal, rdE va q.Acts] H32 := hS33
      exact ⟨a30_2, hS33⟩
    rintro f34 H34 ⟨a34_2, hS34⟩
    clear a30_1 a30_2 a30_21
    refine wpF_ret ?_
    refine ⟨_, resC a34_2 (loadV_blkA Try.isAgg27 Try.sizeOf27 rfl (hS34.blk 0 rfl)) (resN), hS34.frame, ?_⟩
    show (Value.agg #[I (5), I (-1)]) = Value.agg #[I (questFault q).1, I (questFault q).2]
    have hq := questFault_form h1 h2 h3
    rw [hq]
  refine wpF_skip ?_
  refine wpF_seq ?_
  refine wpF_seq ?_
  refine wpF_cut (fun f H => f 1 = PT g1 0 ∧ f 2 = PT g4 0 ∧ f 38 = va ∧ f 39 = I ((q.Acts.length : Int)) ∧ f 40 = I (0) ∧ H30 = H) ?_ ?_
  · refine wpF_region ?_
    refine wpL_q (U := NoB) rfl (q_fieldAddr rfl Try.underlying25 rfl Try.sizeOf23 a30_1) ?_
    refine wpL_q (U := NoB) rfl (q_loadBlk rfl rfl Try.isAgg23 (hS30.blk 1 rfl) rfl (fun h => h)) ?_
    refine wpL_q (U := NoB) rfl (q_lenRd rfl Try.underlying23 rfl (hS30.rdl 4 rfl)) ?_
    refine wpL_q (U := NoB) rfl (q_move (v := I (0)) rfl rfl) ?_
    exact ⟨a30_1, a30_2, rfl, rfl, rfl, rfl⟩
  rintro f35 _ ⟨a35_1, a35_2, a35_38, a35_39, a35_40, rfl⟩
  clear a30_1 a30_2 a30_21
  refine wpF_block ?_
  refine wpF_loop (fun mz f H => ∃ (k : Nat), mz = q.Acts.length - k ∧ (k ≤ q.Acts.length) ∧ (∀ j, j < k → actBad q j = none) ∧ f 1 = PT g1 0 ∧ f 2 = PT g4 0 ∧ f 38 = va ∧ f 39 = I ((q.Acts.length : Int)) ∧ f 40 = I ((k : Int)) ∧ St H0 NoB NoB [blkE g4 (.cells #[I (0), I (0)] 27), blkE g1 (.cells #[I (q.Facts), vf, vg, va] 25), rdE vf q.First, rdE vg q.Goal, rdE va q.Acts] H) (q.Acts.length - 0) ?_ ?_
  · exact ⟨0, rfl, Nat.zero_le _, (fun j hj => absurd hj (Nat.not_lt_zero j)), a35_1, a35_2, a35_38, a35_39, (Eq.trans a35_40 (congrArg I (by omega))), hS30⟩
  intro m36 f36 H36 hI36
  obtain ⟨k, hm36, hk, hp, a36_1, a36_2, a36_38, a36_39, a36_40, hS36⟩ := hI36
  clear a35_1 a35_2 a35_38 a35_39 a35_40
  refine wpF_seq ?_
  refine wpF_cut (fun f H => f 1 = PT g1 0 ∧ f 2 = PT g4 0 ∧ f 38 = va ∧ f 39 = I ((q.Acts.length : Int)) ∧ f 40 = I ((k : Int)) ∧ f 41 = B (decide ((k : Int) < (q.Acts.length : Int))) ∧ H36 = H) ?_ ?_
  · refine wpF_region ?_
    refine wpL_q (U := NoB) rfl (q_lss rfl a36_40 a36_39) ?_
    exact ⟨a36_1, a36_2, a36_38, a36_39, a36_40, rfl, rfl⟩
  rintro f37 _ ⟨a37_1, a37_2, a37_38, a37_39, a37_40, a37_41, rfl⟩
  clear a36_1 a36_2 a36_38 a36_39 a36_40
  refine wpF_seq ?_
  refine wpF_condP a37_41 (fun hlt => ?t96) (fun hlt => ?e96)
  case e96 =>
    refine wpF_exit ?_
    refine atX_here ?_
    refine wpF_seq ?_
    refine wpF_cut (fun f H => f 2 = PT g4 0 ∧ St H0 NoB NoB [blkE g4 (.cells #[I (0), I (0)] 27), blkE g1 (.cells #[I (q.Facts), vf, vg, va] 25), rdE vf q.First, rdE vg q.Goal, rdE va q.Acts] H) ?_ ?_
    · refine wpF_region ?_
      refine wpL_q (U := NoB) rfl (q_build (v := Value.agg #[I (0), I (0)]) rfl par0 (fun w => by kernel_rfl)) ?_
      refine wpL_o rfl ?_
      refine e_storeBlkA (cs' := #[I (0), I (0)]) rfl a37_2 rfl Try.sizeOf27 rfl rfl (List.forall_mem_cons.2 ⟨rfl, List.forall_mem_cons.2 ⟨rfl, List.forall_mem_nil _⟩⟩) hS36 (fun H93 hS94 hxx => ?_)
      replace hS94 : St H0 NoB NoB [blkE g4 (.cells #[I (0), I (0)] 27), blkE g1 (.cells #[I (q.Facts), vf, vg, va] 25), rdE vf q.First, rdE vg q.Goal, rdE va q.Acts] H93 := hS94
      exact ⟨a37_2, hS94⟩
    rintro f95 H95 ⟨a95_2, hS95⟩
    clear a37_1 a37_2 a37_38 a37_39 a37_40 a37_41
    refine wpF_ret ?_
    refine ⟨_, resC a95_2 (loadV_blkA Try.isAgg27 Try.sizeOf27 rfl (hS95.blk 0 rfl)) (resN), hS95.frame, ?_⟩
    show (Value.agg #[I (0), I (0)]) = Value.agg #[I (questFault q).1, I (questFault q).2]
    have hq := questFault_no h1 h2 h3 fun j hj => hp j (by omega)
    rw [hq]
  refine wpF_skip ?_
  refine wpF_seq ?_
  refine wpF_block ?_
  refine wpF_seq ?_
  refine wpF_cut (fun f H => ∃ (u39n0 : Value), ∃ (u39n1 : Value), ∃ (u39n2 : Value), ∃ (u39n3 : Value), ∃ (g44 : Nat), f 1 = PT g1 0 ∧ f 2 = PT g4 0 ∧ f 3 = I ((k : Int)) ∧ f 4 = PT g44 0 ∧ f 38 = va ∧ f 39 = I ((q.Acts.length : Int)) ∧ f 40 = I ((k : Int)) ∧ St H0 NoB NoB [blkE g44 (.cells #[u39n0, u39n1, u39n2, u39n3] 37), rdE u39n3 ((nth q.Acts k).Drop), rdE u39n2 ((nth q.Acts k).Add), rdE u39n1 ((nth q.Acts k).Bar), rdE u39n0 ((nth q.Acts k).Need), blkE g4 (.cells #[I (0), I (0)] 27), blkE g1 (.cells #[I (q.Facts), vf, vg, va] 25), rdE vf q.First, rdE vg q.Goal, rdE va q.Acts] H) ?_ ?_
  · refine wpF_region ?_
    refine wpL_q (U := NoB) rfl (q_move (v := I ((k : Int))) rfl a37_40) ?_
    refine wpL_q (U := NoB) rfl (q_indexRd (k := k) rfl Try.underlying23 el_Act_37_ActC1 a37_38 a37_40 (hS36.rdl 4 rfl) (by omega) (by omega)) ?_
    obtain ⟨u39, huu39, hlu39⟩ := (Rd.list.1 (hS36.rdS 4 rfl)).elem k (by omega)
    obtain ⟨u39n0, u39n1, u39n2, u39n3, rfl, hu390, hu391, hu392, hu393⟩ := Rd.act.1 huu39
    have hS40 : St H0 NoB NoB [rdE u39n0 ((nth q.Acts k).Need), blkE g4 (.cells #[I (0), I (0)] 27), blkE g1 (.cells #[I (q.Facts), vf, vg, va] 25), rdE vf q.First, rdE vg q.Goal, rdE va q.Acts] H36 := hS36.rd hu390
    have hS41 : St H0 NoB NoB [rdE u39n1 ((nth q.Acts k).Bar), rdE u39n0 ((nth q.Acts k).Need), blkE g4 (.cells #[I (0), I (0)] 27), blkE g1 (.cells #[I (q.Facts), vf, vg, va] 25), rdE vf q.First, rdE vg q.Goal, rdE va q.Acts] H36 := hS40.rd (hu391.sub fun _ hb => SL_rd hb)
    have hS42 : St H0 NoB NoB [rdE u39n2 ((nth q.Acts k).Add), rdE u39n1 ((nth q.Acts k).Bar), rdE u39n0 ((nth q.Acts k).Need), blkE g4 (.cells #[I (0), I (0)] 27), blkE g1 (.cells #[I (q.Facts), vf, vg, va] 25), rdE vf q.First, rdE vg q.Goal, rdE va q.Acts] H36 := hS41.rd (hu392.sub fun _ hb => SL_rd (SL_rd (hb)))
    have hS43 : St H0 NoB NoB [rdE u39n3 ((nth q.Acts k).Drop), rdE u39n2 ((nth q.Acts k).Add), rdE u39n1 ((nth q.Acts k).Bar), rdE u39n0 ((nth q.Acts k).Need), blkE g4 (.cells #[I (0), I (0)] 27), blkE g1 (.cells #[I (q.Facts), vf, vg, va] 25), rdE vf q.First, rdE vg q.Goal, rdE va q.Acts] H36 := hS42.rd (hu393.sub fun _ hb => SL_rd (SL_rd (SL_rd (hb))))
    refine wpL_q (U := NoB) rfl (q_loadE rfl rfl (hlu39 Try.prog 37 _ el_Act_37_ActC1 (fun _ h => False.elim h))) ?_
    refine wpL_o rfl ?_
    refine e_alloc rfl Try.zeroValue37 hS43 (fun g44 H45 hS46 hxx => ?_)
    replace hS46 : St H0 NoB NoB [blkE g44 (.cells #[(Value.slice none 0 0), (Value.slice none 0 0), (Value.slice none 0 0), (Value.slice none 0 0)] 37), rdE u39n3 ((nth q.Acts k).Drop), rdE u39n2 ((nth q.Acts k).Add), rdE u39n1 ((nth q.Acts k).Bar), rdE u39n0 ((nth q.Acts k).Need), blkE g4 (.cells #[I (0), I (0)] 27), blkE g1 (.cells #[I (q.Facts), vf, vg, va] 25), rdE vf q.First, rdE vg q.Goal, rdE va q.Acts] H45 := hS46
    refine wpL_q (U := NoB) rfl (q_assign (v := I ((k : Int))) rfl rfl) ?_
    refine wpL_o rfl ?_
    refine e_storeBlkA (cs' := #[u39n0, u39n1, u39n2, u39n3]) rfl rfl rfl Try.sizeOf37 rfl rfl (List.forall_mem_cons.2 ⟨(oneCell_rdL (hS46.rdl 4 rfl)), List.forall_mem_cons.2 ⟨(oneCell_rdL (hS46.rdl 3 rfl)), List.forall_mem_cons.2 ⟨(oneCell_rdL (hS46.rdl 2 rfl)), List.forall_mem_cons.2 ⟨(oneCell_rdL (hS46.rdl 1 rfl)), List.forall_mem_nil _⟩⟩⟩⟩) hS46 (fun H47 hS48 hxx => ?_)
    replace hS48 : St H0 NoB NoB [blkE g44 (.cells #[u39n0, u39n1, u39n2, u39n3] 37), rdE u39n3 ((nth q.Acts k).Drop), rdE u39n2 ((nth q.Acts k).Add), rdE u39n1 ((nth q.Acts k).Bar), rdE u39n0 ((nth q.Acts k).Need), blkE g4 (.cells #[I (0), I (0)] 27), blkE g1 (.cells #[I (q.Facts), vf, vg, va] 25), rdE vf q.First, rdE vg q.Goal, rdE va q.Acts] H47 := hS48
    exact ⟨u39n0, u39n1, u39n2, u39n3, g44, a37_1, a37_2, rfl, rfl, a37_38, a37_39, a37_40, hS48⟩
  rintro f49 H49 ⟨u39n0, u39n1, u39n2, u39n3, g44, a49_1, a49_2, a49_3, a49_4, a49_38, a49_39, a49_40, hS49⟩
  clear a37_1 a37_2 a37_38 a37_39 a37_40 a37_41
  refine wpF_block ?_
  refine wpF_seq ?_
  refine wpF_cut (fun f H => f 1 = PT g1 0 ∧ f 2 = PT g4 0 ∧ f 3 = I ((k : Int)) ∧ f 4 = PT g44 0 ∧ f 38 = va ∧ f 39 = I ((q.Acts.length : Int)) ∧ f 40 = I ((k : Int)) ∧ f 45 = B (decide ((((¬ (Rising ((nth q.Acts k).Need) q.Facts)) ∨ (¬ (Rising ((nth q.Acts k).Bar) q.Facts))) ∨ (¬ (Rising ((nth q.Acts k).Add) q.Facts))) ∨ (¬ (Rising ((nth q.Acts k).Drop) q.Facts)))) ∧ St H0 NoB NoB [blkE g44 (.cells #[u39n0, u39n1, u39n2, u39n3] 37), rdE u39n3 ((nth q.Acts k).Drop), rdE u39n2 ((nth q.Acts k).Add), rdE u39n1 ((nth q.Acts k).Bar), rdE u39n0 ((nth q.Acts k).Need), blkE g4 (.cells #[I (0), I (0)] 27), blkE g1 (.cells #[I (q.Facts), vf, vg, va] 25), rdE vf q.First, rdE vg q.Goal, rdE va q.Acts] H) ?_ ?_
  · refine wpF_region ?_
    refine wpL_q (U := NoB) rfl (q_fieldAddr rfl Try.underlying37 rfl Try.sizeOf22 a49_4) ?_
    refine wpL_q (U := NoB) rfl (q_loadBlk rfl rfl Try.isAgg22 (hS49.blk 0 rfl) rfl (fun h => h)) ?_
    refine wpL_q (U := NoB) rfl (q_fieldAddr rfl Try.underlying25 rfl Try.sizeOf3 a49_1) ?_
    refine wpL_q (U := NoB) rfl (q_loadBlk rfl rfl Try.isAgg3 (hS49.blk 6 rfl) rfl (fun h => h)) ?_
    refine wpL_o rfl ?_
    refine e_call rfl Try.call42 (arr2 (v0 := u39n0) (v1 := I (q.Facts)) rfl rfl) (facts_L u39n0 ((nth q.Acts k).Need) q.Facts (hS49.rdN 4 rfl) (by omega)) ?_
    rintro _ H50 ⟨hxx, rfl⟩
    have hS51 : St H0 NoB NoB [blkE g44 (.cells #[u39n0, u39n1, u39n2, u39n3] 37), rdE u39n3 ((nth q.Acts k).Drop), rdE u39n2 ((nth q.Acts k).Add), rdE u39n1 ((nth q.Acts k).Bar), rdE u39n0 ((nth q.Acts k).Need), blkE g4 (.cells #[I (0), I (0)] 27), blkE g1 (.cells #[I (q.Facts), vf, vg, va] 25), rdE vf q.First, rdE vg q.Goal, rdE va q.Acts] H50 := hS49.ext hxx
    refine wpL_q (U := NoB) rfl (q_notP rfl rfl) ?_
    refine wpL_q (U := NoB) rfl (q_move (v := B (decide (¬ (Rising ((nth q.Acts k).Need) q.Facts)))) rfl rfl) ?_
    by_cases hg53 : ¬ (Rising ((nth q.Acts k).Need) q.Facts)
    · have hb54 := Eq.trans rfl (congrArg B (decide_eq_true hg53))
      refine wpL_gs rfl rfl rfl hb54 rfl ?_
      refine wpL_gs rfl rfl rfl hb54 rfl ?_
      refine wpL_gs rfl rfl rfl hb54 rfl ?_
      refine wpL_gs rfl rfl rfl hb54 rfl ?_
      refine wpL_gs rfl rfl rfl hb54 rfl ?_
      refine wpL_gs rfl rfl rfl hb54 rfl ?_
      refine wpL_q (U := NoB) rfl (q_pickT (v := B (true)) rfl hb54 rfl) ?_
      refine wpL_q (U := NoB) rfl (q_move (v := B (true)) rfl rfl) ?_
      refine wpL_gs rfl rfl rfl rfl rfl ?_
      refine wpL_gs rfl rfl rfl rfl rfl ?_
      refine wpL_gs rfl rfl rfl rfl rfl ?_
      refine wpL_gs rfl rfl rfl rfl rfl ?_
      refine wpL_gs rfl rfl rfl rfl rfl ?_
      refine wpL_gs rfl rfl rfl rfl rfl ?_
      refine wpL_q (U := NoB) rfl (q_pickT (v := B (true)) rfl rfl rfl) ?_
      refine wpL_q (U := NoB) rfl (q_move (v := B (true)) rfl rfl) ?_
      refine wpL_gs rfl rfl rfl rfl rfl ?_
      refine wpL_gs rfl rfl rfl rfl rfl ?_
      refine wpL_gs rfl rfl rfl rfl rfl ?_
      refine wpL_gs rfl rfl rfl rfl rfl ?_
      refine wpL_gs rfl rfl rfl rfl rfl ?_
      refine wpL_gs rfl rfl rfl rfl rfl ?_
      refine wpL_q (U := NoB) rfl (q_pickT (v := B (true)) rfl rfl rfl) ?_
      refine wpL_q (U := NoB) rfl (q_assign (v := B (true)) rfl rfl) ?_
      exact ⟨a49_1, a49_2, a49_3, a49_4, a49_38, a49_39, a49_40, (Eq.trans rfl (congrArg B ((decide_eq_true (Or.inl (Or.inl (Or.inl hg53)))).symm))), hS51⟩
    · have hb55 := Eq.trans rfl (congrArg B (decide_eq_false hg53))
      refine wpL_gq (U := NoB) rfl rfl rfl hb55 (q_fieldAddr rfl Try.underlying37 rfl Try.sizeOf22 a49_4) ?_
      refine wpL_gq (U := NoB) rfl rfl rfl hb55 (q_loadBlk rfl rfl Try.isAgg22 (hS51.blk 0 rfl) rfl (fun h => h)) ?_
      refine wpL_gq (U := NoB) rfl rfl rfl hb55 (q_fieldAddr rfl Try.underlying25 rfl Try.sizeOf3 a49_1) ?_
      refine wpL_gq (U := NoB) rfl rfl rfl hb55 (q_loadBlk rfl rfl Try.isAgg3 (hS51.blk 6 rfl) rfl (fun h => h)) ?_
      refine wpL_go rfl rfl rfl hb55 ?_
      refine e_call rfl Try.call42 (arr2 (v0 := u39n1) (v1 := I (q.Facts)) rfl rfl) (facts_L u39n1 ((nth q.Acts k).Bar) q.Facts (hS51.rdN 3 rfl) (by omega)) ?_
      rintro _ H56 ⟨hxx, rfl⟩
      have hS57 : St H0 NoB NoB [blkE g44 (.cells #[u39n0, u39n1, u39n2, u39n3] 37), rdE u39n3 ((nth q.Acts k).Drop), rdE u39n2 ((nth q.Acts k).Add), rdE u39n1 ((nth q.Acts k).Bar), rdE u39n0 ((nth q.Acts k).Need), blkE g4 (.cells #[I (0), I (0)] 27), blkE g1 (.cells #[I (q.Facts), vf, vg, va] 25), rdE vf q.First, rdE vg q.Goal, rdE va q.Acts] H56 := hS51.ext hxx
      refine wpL_gq (U := NoB) rfl rfl rfl hb55 (q_notP rfl rfl) ?_
      refine wpL_q (U := NoB) rfl (q_pickF (v := B (decide (¬ (Rising ((nth q.Acts k).Bar) q.Facts)))) rfl hb55 rfl) ?_
      refine wpL_q (U := NoB) rfl (q_move (v := B (decide (¬ (Rising ((nth q.Acts k).Bar) q.Facts)))) rfl rfl) ?_
      by_cases hg59 : ¬ (Rising ((nth q.Acts k).Bar) q.Facts)
      · have hb60 := Eq.trans rfl (congrArg B (decide_eq_true hg59))
        refine wpL_gs rfl rfl rfl hb60 rfl ?_
        refine wpL_gs rfl rfl rfl hb60 rfl ?_
        refine wpL_gs rfl rfl rfl hb60 rfl ?_
        refine wpL_gs rfl rfl rfl hb60 rfl ?_
        refine wpL_gs rfl rfl rfl hb60 rfl ?_
        refine wpL_gs rfl rfl rfl hb60 rfl ?_
        refine wpL_q (U := NoB) rfl (q_pickT (v := B (true)) rfl hb60 rfl) ?_
        refine wpL_q (U := NoB) rfl (q_move (v := B (true)) rfl rfl) ?_
        refine wpL_gs rfl rfl rfl rfl rfl ?_
        refine wpL_gs rfl rfl rfl rfl rfl ?_
        refine wpL_gs rfl rfl rfl rfl rfl ?_
        refine wpL_gs rfl rfl rfl rfl rfl ?_
        refine wpL_gs rfl rfl rfl rfl rfl ?_
        refine wpL_gs rfl rfl rfl rfl rfl ?_
        refine wpL_q (U := NoB) rfl (q_pickT (v := B (true)) rfl rfl rfl) ?_
        refine wpL_q (U := NoB) rfl (q_assign (v := B (true)) rfl rfl) ?_
        exact ⟨a49_1, a49_2, a49_3, a49_4, a49_38, a49_39, a49_40, (Eq.trans rfl (congrArg B ((decide_eq_true (Or.inl (Or.inl (Or.inr hg59)))).symm))), hS57⟩
      · have hb61 := Eq.trans rfl (congrArg B (decide_eq_false hg59))
        refine wpL_gq (U := NoB) rfl rfl rfl hb61 (q_fieldAddr rfl Try.underlying37 rfl Try.sizeOf22 a49_4) ?_
        refine wpL_gq (U := NoB) rfl rfl rfl hb61 (q_loadBlk rfl rfl Try.isAgg22 (hS57.blk 0 rfl) rfl (fun h => h)) ?_
        refine wpL_gq (U := NoB) rfl rfl rfl hb61 (q_fieldAddr rfl Try.underlying25 rfl Try.sizeOf3 a49_1) ?_
        refine wpL_gq (U := NoB) rfl rfl rfl hb61 (q_loadBlk rfl rfl Try.isAgg3 (hS57.blk 6 rfl) rfl (fun h => h)) ?_
        refine wpL_go rfl rfl rfl hb61 ?_
        refine e_call rfl Try.call42 (arr2 (v0 := u39n2) (v1 := I (q.Facts)) rfl rfl) (facts_L u39n2 ((nth q.Acts k).Add) q.Facts (hS57.rdN 2 rfl) (by omega)) ?_
        rintro _ H62 ⟨hxx, rfl⟩
        have hS63 : St H0 NoB NoB [blkE g44 (.cells #[u39n0, u39n1, u39n2, u39n3] 37), rdE u39n3 ((nth q.Acts k).Drop), rdE u39n2 ((nth q.Acts k).Add), rdE u39n1 ((nth q.Acts k).Bar), rdE u39n0 ((nth q.Acts k).Need), blkE g4 (.cells #[I (0), I (0)] 27), blkE g1 (.cells #[I (q.Facts), vf, vg, va] 25), rdE vf q.First, rdE vg q.Goal, rdE va q.Acts] H62 := hS57.ext hxx
        refine wpL_gq (U := NoB) rfl rfl rfl hb61 (q_notP rfl rfl) ?_
        refine wpL_q (U := NoB) rfl (q_pickF (v := B (decide (¬ (Rising ((nth q.Acts k).Add) q.Facts)))) rfl hb61 rfl) ?_
        refine wpL_q (U := NoB) rfl (q_move (v := B (decide (¬ (Rising ((nth q.Acts k).Add) q.Facts)))) rfl rfl) ?_
        by_cases hg65 : ¬ (Rising ((nth q.Acts k).Add) q.Facts)
        · have hb66 := Eq.trans rfl (congrArg B (decide_eq_true hg65))
          refine wpL_gs rfl rfl rfl hb66 rfl ?_
          refine wpL_gs rfl rfl rfl hb66 rfl ?_
          refine wpL_gs rfl rfl rfl hb66 rfl ?_
          refine wpL_gs rfl rfl rfl hb66 rfl ?_
          refine wpL_gs rfl rfl rfl hb66 rfl ?_
          refine wpL_gs rfl rfl rfl hb66 rfl ?_
          refine wpL_q (U := NoB) rfl (q_pickT (v := B (true)) rfl hb66 rfl) ?_
          refine wpL_q (U := NoB) rfl (q_assign (v := B (true)) rfl rfl) ?_
          exact ⟨a49_1, a49_2, a49_3, a49_4, a49_38, a49_39, a49_40, (Eq.trans rfl (congrArg B ((decide_eq_true (Or.inl (Or.inr hg65))).symm))), hS63⟩
        · have hb67 := Eq.trans rfl (congrArg B (decide_eq_false hg65))
          refine wpL_gq (U := NoB) rfl rfl rfl hb67 (q_fieldAddr rfl Try.underlying37 rfl Try.sizeOf22 a49_4) ?_
          refine wpL_gq (U := NoB) rfl rfl rfl hb67 (q_loadBlk rfl rfl Try.isAgg22 (hS63.blk 0 rfl) rfl (fun h => h)) ?_
          refine wpL_gq (U := NoB) rfl rfl rfl hb67 (q_fieldAddr rfl Try.underlying25 rfl Try.sizeOf3 a49_1) ?_
          refine wpL_gq (U := NoB) rfl rfl rfl hb67 (q_loadBlk rfl rfl Try.isAgg3 (hS63.blk 6 rfl) rfl (fun h => h)) ?_
          refine wpL_go rfl rfl rfl hb67 ?_
          refine e_call rfl Try.call42 (arr2 (v0 := u39n3) (v1 := I (q.Facts)) rfl rfl) (facts_L u39n3 ((nth q.Acts k).Drop) q.Facts (hS63.rdN 1 rfl) (by omega)) ?_
          rintro _ H68 ⟨hxx, rfl⟩
          have hS69 : St H0 NoB NoB [blkE g44 (.cells #[u39n0, u39n1, u39n2, u39n3] 37), rdE u39n3 ((nth q.Acts k).Drop), rdE u39n2 ((nth q.Acts k).Add), rdE u39n1 ((nth q.Acts k).Bar), rdE u39n0 ((nth q.Acts k).Need), blkE g4 (.cells #[I (0), I (0)] 27), blkE g1 (.cells #[I (q.Facts), vf, vg, va] 25), rdE vf q.First, rdE vg q.Goal, rdE va q.Acts] H68 := hS63.ext hxx
          refine wpL_gq (U := NoB) rfl rfl rfl hb67 (q_notP rfl rfl) ?_
          refine wpL_q (U := NoB) rfl (q_pickF (v := B (decide (¬ (Rising ((nth q.Acts k).Drop) q.Facts)))) rfl hb67 rfl) ?_
          refine wpL_q (U := NoB) rfl (q_assign (v := B (decide (¬ (Rising ((nth q.Acts k).Drop) q.Facts)))) rfl rfl) ?_
          exact ⟨a49_1, a49_2, a49_3, a49_4, a49_38, a49_39, a49_40, (Eq.trans rfl (congrArg B (decide_congr_of (((not_congr Iff.rfl)).trans (((or_iff_right (not_or.2 ⟨(not_or.2 ⟨hg53, hg59⟩), hg65⟩)).trans (not_congr Iff.rfl))).symm)))), hS69⟩
  rintro f71 H71 ⟨a71_1, a71_2, a71_3, a71_4, a71_38, a71_39, a71_40, a71_45, hS71⟩
  clear a49_1 a49_2 a49_3 a49_38 a49_39 a49_4 a49_40
  refine wpF_condP a71_45 (fun h4 => ?t92) (fun h4 => ?e92)
  case t92 =>
    refine wpF_seq ?_
    refine wpF_cut (fun f H => f 2 = PT g4 0 ∧ St H0 NoB NoB [blkE g4 (.cells #[I (5), I ((k : Int))] 27), blkE g44 (.cells #[u39n0, u39n1, u39n2, u39n3] 37), rdE u39n3 ((nth q.Acts k).Drop), rdE u39n2 ((nth q.Acts k).Add), rdE u39n1 ((nth q.Acts k).Bar), rdE u39n0 ((nth q.Acts k).Need), blkE g1 (.cells #[I (q.Facts), vf, vg, va] 25), rdE vf q.First, rdE vg q.Goal, rdE va q.Acts] H) ?_ ?_
    · refine wpF_region ?_
      refine wpL_q (U := NoB) rfl (q_move (v := I ((k : Int))) rfl a71_3) ?_
      refine wpL_q (U := NoB) rfl (q_build (v := Value.agg #[I (5), I ((k : Int))]) rfl (par2 (v0 := I (5)) (v1 := I ((k : Int))) rfl rfl) (fun w => by kernel_rfl)) ?_
      refine wpL_o rfl ?_
      refine e_storeBlkA (cs' := #[I (5), I ((k : Int))]) rfl a71_2 rfl Try.sizeOf27 rfl rfl (List.forall_mem_cons.2 ⟨rfl, List.forall_mem_cons.2 ⟨rfl, List.forall_mem_nil _⟩⟩) (hS71.front 5 rfl) (fun H73 hS74 hxx => ?_)
      replace hS74 : St H0 NoB NoB [blkE g4 (.cells #[I (5), I ((k : Int))] 27), blkE g44 (.cells #[u39n0, u39n1, u39n2, u39n3] 37), rdE u39n3 ((nth q.Acts k).Drop), rdE u39n2 ((nth q.Acts k).Add), rdE u39n1 ((nth q.Acts k).Bar), rdE u39n0 ((nth q.Acts k).Need), blkE g1 (.cells #[I (q.Facts), vf, vg, va] 25), rdE vf q.First, rdE vg q.Goal, rdE va q.Acts] H73 := hS74
      exact ⟨a71_2, hS74⟩
    rintro f75 H75 ⟨a75_2, hS75⟩
    clear a71_1 a71_2 a71_3 a71_38 a71_39 a71_4 a71_40 a71_45
    refine wpF_ret ?_
    refine ⟨_, resC a75_2 (loadV_blkA Try.isAgg27 Try.sizeOf27 rfl (hS75.blk 0 rfl)) (resN), hS75.frame, ?_⟩
    show (Value.agg #[I (5), I ((k : Int))]) = Value.agg #[I (questFault q).1, I (questFault q).2]
    have hq := questFault_at h1 h2 h3 (by omega) hp (actBad_form (or4_no h4))
    rw [hq]
  refine wpF_seq ?_
  refine wpF_cut (fun f H => f 1 = PT g1 0 ∧ f 2 = PT g4 0 ∧ f 3 = I ((k : Int)) ∧ f 38 = va ∧ f 39 = I ((q.Acts.length : Int)) ∧ f 40 = I ((k : Int)) ∧ f 78 = B (decide (((shareB ((nth q.Acts k).Add) ((nth q.Acts k).Drop)) = true) ∨ ((shareB ((nth q.Acts k).Need) ((nth q.Acts k).Bar)) = true))) ∧ St H0 NoB NoB [blkE g44 (.cells #[u39n0, u39n1, u39n2, u39n3] 37), rdE u39n3 ((nth q.Acts k).Drop), rdE u39n2 ((nth q.Acts k).Add), rdE u39n1 ((nth q.Acts k).Bar), rdE u39n0 ((nth q.Acts k).Need), blkE g4 (.cells #[I (0), I (0)] 27), blkE g1 (.cells #[I (q.Facts), vf, vg, va] 25), rdE vf q.First, rdE vg q.Goal, rdE va q.Acts] H) ?_ ?_
  · refine wpF_region ?_
    refine wpL_q (U := NoB) rfl (q_fieldAddr rfl Try.underlying37 rfl Try.sizeOf22 a71_4) ?_
    refine wpL_q (U := NoB) rfl (q_loadBlk rfl rfl Try.isAgg22 (hS71.blk 0 rfl) rfl (fun h => h)) ?_
    refine wpL_q (U := NoB) rfl (q_fieldAddr rfl Try.underlying37 rfl Try.sizeOf22 a71_4) ?_
    refine wpL_q (U := NoB) rfl (q_loadBlk rfl rfl Try.isAgg22 (hS71.blk 0 rfl) rfl (fun h => h)) ?_
    refine wpL_o rfl ?_
    refine e_call rfl Try.call43 (arr2 (v0 := u39n2) (v1 := u39n3) rfl rfl) (share_L u39n2 u39n3 ((nth q.Acts k).Add) ((nth q.Acts k).Drop) (hS71.rdN 2 rfl) (hS71.rdN 1 rfl) ) ?_
    rintro _ H76 ⟨hxx, rfl⟩
    have hS77 : St H0 NoB NoB [blkE g44 (.cells #[u39n0, u39n1, u39n2, u39n3] 37), rdE u39n3 ((nth q.Acts k).Drop), rdE u39n2 ((nth q.Acts k).Add), rdE u39n1 ((nth q.Acts k).Bar), rdE u39n0 ((nth q.Acts k).Need), blkE g4 (.cells #[I (0), I (0)] 27), blkE g1 (.cells #[I (q.Facts), vf, vg, va] 25), rdE vf q.First, rdE vg q.Goal, rdE va q.Acts] H76 := hS71.ext hxx
    refine wpL_q (U := NoB) rfl (q_move (v := B (shareB ((nth q.Acts k).Add) ((nth q.Acts k).Drop))) rfl rfl) ?_
    by_cases hg79 : (shareB ((nth q.Acts k).Add) ((nth q.Acts k).Drop)) = true
    · have hb80 := Eq.trans rfl (congrArg B hg79)
      refine wpL_gs rfl rfl rfl hb80 rfl ?_
      refine wpL_gs rfl rfl rfl hb80 rfl ?_
      refine wpL_gs rfl rfl rfl hb80 rfl ?_
      refine wpL_gs rfl rfl rfl hb80 rfl ?_
      refine wpL_gs rfl rfl rfl hb80 rfl ?_
      refine wpL_q (U := NoB) rfl (q_pickT (v := B (true)) rfl hb80 rfl) ?_
      refine wpL_q (U := NoB) rfl (q_assign (v := B (true)) rfl rfl) ?_
      exact ⟨a71_1, a71_2, a71_3, a71_38, a71_39, a71_40, (Eq.trans rfl (congrArg B ((decide_eq_true (Or.inl hg79)).symm))), hS77⟩
    · have hb81 := Eq.trans rfl (congrArg B (Bool.eq_false_iff.2 hg79))
      refine wpL_gq (U := NoB) rfl rfl rfl hb81 (q_fieldAddr rfl Try.underlying37 rfl Try.sizeOf22 a71_4) ?_
      refine wpL_gq (U := NoB) rfl rfl rfl hb81 (q_loadBlk rfl rfl Try.isAgg22 (hS77.blk 0 rfl) rfl (fun h => h)) ?_
      refine wpL_gq (U := NoB) rfl rfl rfl hb81 (q_fieldAddr rfl Try.underlying37 rfl Try.sizeOf22 a71_4) ?_
      refine wpL_gq (U := NoB) rfl rfl rfl hb81 (q_loadBlk rfl rfl Try.isAgg22 (hS77.blk 0 rfl) rfl (fun h => h)) ?_
      refine wpL_go rfl rfl rfl hb81 ?_
      refine e_call rfl Try.call43 (arr2 (v0 := u39n0) (v1 := u39n1) rfl rfl) (share_L u39n0 u39n1 ((nth q.Acts k).Need) ((nth q.Acts k).Bar) (hS77.rdN 4 rfl) (hS77.rdN 3 rfl) ) ?_
      rintro _ H82 ⟨hxx, rfl⟩
      have hS83 : St H0 NoB NoB [blkE g44 (.cells #[u39n0, u39n1, u39n2, u39n3] 37), rdE u39n3 ((nth q.Acts k).Drop), rdE u39n2 ((nth q.Acts k).Add), rdE u39n1 ((nth q.Acts k).Bar), rdE u39n0 ((nth q.Acts k).Need), blkE g4 (.cells #[I (0), I (0)] 27), blkE g1 (.cells #[I (q.Facts), vf, vg, va] 25), rdE vf q.First, rdE vg q.Goal, rdE va q.Acts] H82 := hS77.ext hxx
      refine wpL_q (U := NoB) rfl (q_pickF (v := B (shareB ((nth q.Acts k).Need) ((nth q.Acts k).Bar))) rfl hb81 rfl) ?_
      refine wpL_q (U := NoB) rfl (q_assign (v := B (shareB ((nth q.Acts k).Need) ((nth q.Acts k).Bar))) rfl rfl) ?_
      exact ⟨a71_1, a71_2, a71_3, a71_38, a71_39, a71_40, (Eq.trans rfl (congrArg B (bool_congr_of ((Iff.rfl).trans (((or_iff_right hg79).trans Iff.rfl)).symm)))), hS83⟩
  rintro f85 H85 ⟨a85_1, a85_2, a85_3, a85_38, a85_39, a85_40, a85_78, hS85⟩
  clear a71_1 a71_2 a71_3 a71_38 a71_39 a71_4 a71_40 a71_45
  refine wpF_condP a85_78 (fun h5 => ?t91) (fun h5 => ?e91)
  case e91 =>
    refine wpF_skip ?_
    refine wpF_cut (fun f H => f 1 = PT g1 0 ∧ f 2 = PT g4 0 ∧ f 38 = va ∧ f 39 = I ((q.Acts.length : Int)) ∧ f 40 = I ((k : Int) + 1) ∧ H85 = H) ?_ ?_
    · refine wpF_region ?_
      refine wpL_q (U := NoB) rfl (q_add rfl a85_40 rfl (by constructor <;> omega)) ?_
      refine wpL_q (U := NoB) rfl (q_move (v := I ((k : Int) + 1)) rfl rfl) ?_
      exact ⟨a85_1, a85_2, a85_38, a85_39, rfl, rfl⟩
    rintro f90 _ ⟨a90_1, a90_2, a90_38, a90_39, a90_40, rfl⟩
    clear a85_1 a85_2 a85_3 a85_38 a85_39 a85_40 a85_78
    refine ⟨_, ?_, k + 1, rfl, (by omega), (all_succ hp (actBad_no (or4_ok h4) h5)), a90_1, a90_2, a90_38, a90_39, (Eq.trans a90_40 (congrArg I (by omega))), (hS85.drop (sn (sn (sn (sn (sn (sk (sk (sk (sk (sk (List.Sublist.slnil))))))))))))⟩
    omega
  refine wpF_seq ?_
  refine wpF_cut (fun f H => f 2 = PT g4 0 ∧ St H0 NoB NoB [blkE g4 (.cells #[I (7), I ((k : Int))] 27), blkE g44 (.cells #[u39n0, u39n1, u39n2, u39n3] 37), rdE u39n3 ((nth q.Acts k).Drop), rdE u39n2 ((nth q.Acts k).Add), rdE u39n1 ((nth q.Acts k).Bar), rdE u39n0 ((nth q.Acts k).Need), blkE g1 (.cells #[I (q.Facts), vf, vg, va] 25), rdE vf q.First, rdE vg q.Goal, rdE va q.Acts] H) ?_ ?_
  · refine wpF_region ?_
    refine wpL_q (U := NoB) rfl (q_move (v := I ((k : Int))) rfl a85_3) ?_
    refine wpL_q (U := NoB) rfl (q_build (v := Value.agg #[I (7), I ((k : Int))]) rfl (par2 (v0 := I (7)) (v1 := I ((k : Int))) rfl rfl) (fun w => by kernel_rfl)) ?_
    refine wpL_o rfl ?_
    refine e_storeBlkA (cs' := #[I (7), I ((k : Int))]) rfl a85_2 rfl Try.sizeOf27 rfl rfl (List.forall_mem_cons.2 ⟨rfl, List.forall_mem_cons.2 ⟨rfl, List.forall_mem_nil _⟩⟩) (hS85.front 5 rfl) (fun H87 hS88 hxx => ?_)
    replace hS88 : St H0 NoB NoB [blkE g4 (.cells #[I (7), I ((k : Int))] 27), blkE g44 (.cells #[u39n0, u39n1, u39n2, u39n3] 37), rdE u39n3 ((nth q.Acts k).Drop), rdE u39n2 ((nth q.Acts k).Add), rdE u39n1 ((nth q.Acts k).Bar), rdE u39n0 ((nth q.Acts k).Need), blkE g1 (.cells #[I (q.Facts), vf, vg, va] 25), rdE vf q.First, rdE vg q.Goal, rdE va q.Acts] H87 := hS88
    exact ⟨a85_2, hS88⟩
  rintro f89 H89 ⟨a89_2, hS89⟩
  clear a85_1 a85_2 a85_3 a85_38 a85_39 a85_40 a85_78
  refine wpF_ret ?_
  refine ⟨_, resC a89_2 (loadV_blkA Try.isAgg27 Try.sizeOf27 rfl (hS89.blk 0 rfl)) (resN), hS89.frame, ?_⟩
  show (Value.agg #[I (7), I ((k : Int))]) = Value.agg #[I (questFault q).1, I (questFault q).2]
  have hq := questFault_at h1 h2 h3 (by omega) hp (actBad_twice (or4_ok h4) h5)
  rw [hq]

set_option maxRecDepth 100000 in
theorem Quest_R {H0 : Heap} (vf vg va : Value) (q : Quest) (h6qFacts : In64 q.Facts) (rvf : Rd NoB H0 vf q.First) (rvg : Rd NoB H0 vg q.Goal) (rva : Rd NoB H0 va q.Acts) : CallsH Try.prog 12 #[Value.agg #[I (q.Facts), vf, vg, va]] H0 (fun rv_ H' => Ext NoB H0 H' ∧ rv_ = Value.agg #[I (questFault q).1, I (questFault q).2]) := by
  have hsa := (Rd.list.1 rva).small
  have hS0 : St H0 NoB NoB [rdE vf q.First, rdE vg q.Goal, rdE va q.Acts] H0 := St.arg (St.arg (St.arg (St.start (fun _ h => h.elim)) (Bl0.nil) rva (fun _ h => h)) (Bl0.cons (Bl0.nil)) rvg (fun _ h => h)) (Bl0.cons (Bl0.cons (Bl0.nil))) rvf (fun _ h => h)
  refine callsH_of_wpF (args := [Value.agg #[I (q.Facts), vf, vg, va]]) (rs := [.cell 2 27]) Try.func12 rfl Try.ntmps12 Try.results12 (by kernel_rfl) (Nat.le_of_ble_eq_true rfl) ?_
  have a0_0 : argF [Value.agg #[I (q.Facts), vf, vg, va]] 0 = Value.agg #[I (q.Facts), vf, vg, va] := rfl
  generalize argF [Value.agg #[I (q.Facts), vf, vg, va]] = f0 at *
  refine wpF_seq ?_
  refine wpF_cut (fun f H => ∃ (g1 : Nat), ∃ (g4 : Nat), f 1 = PT g1 0 ∧ f 2 = PT g4 0 ∧ St H0 NoB NoB [blkE g4 (.cells #[I (0), I (0)] 27), blkE g1 (.cells #[I (q.Facts), vf, vg, va] 25), rdE vf q.First, rdE vg q.Goal, rdE va q.Acts] H) ?_ ?_
  · refine wpF_region ?_
    refine wpL_o rfl ?_
    refine e_box (v := Value.agg #[I (q.Facts), vf, vg, va]) rfl a0_0 hS0 (fun g1 H2 hS3 hxx => ?_)
    replace hS3 : St H0 NoB NoB [blkE g1 (.cells #[I (q.Facts), vf, vg, va] 25), rdE vf q.First, rdE vg q.Goal, rdE va q.Acts] H2 := hS3
    refine wpL_o rfl ?_
    refine e_alloc rfl Try.zeroValue27 hS3 (fun g4 H5 hS6 hxx => ?_)
    replace hS6 : St H0 NoB NoB [blkE g4 (.cells #[I (0), I (0)] 27), blkE g1 (.cells #[I (q.Facts), vf, vg, va] 25), rdE vf q.First, rdE vg q.Goal, rdE va q.Acts] H5 := hS6
    exact ⟨g1, g4, rfl, rfl, hS6⟩
  rintro f7 H7 ⟨g1, g4, a7_1, a7_2, hS7⟩
  clear a0_0
  refine wpF_seq ?_
  refine wpF_seq ?_
  refine wpF_cut (fun f H => f 1 = PT g1 0 ∧ f 2 = PT g4 0 ∧ f 9 = B (decide (¬ (1 ≤ q.Facts ∧ q.Facts ≤ 16))) ∧ St H0 NoB NoB [blkE g4 (.cells #[I (0), I (0)] 27), blkE g1 (.cells #[I (q.Facts), vf, vg, va] 25), rdE vf q.First, rdE vg q.Goal, rdE va q.Acts] H) ?_ ?_
  · refine wpF_region ?_
    refine wpL_q (U := NoB) rfl (q_fieldAddr rfl Try.underlying25 rfl Try.sizeOf3 a7_1) ?_
    refine wpL_q (U := NoB) rfl (q_loadBlk rfl rfl Try.isAgg3 (hS7.blk 1 rfl) rfl (fun h => h)) ?_
    refine wpL_o rfl ?_
    refine e_call rfl Try.call38 (arr3 (v0 := I (q.Facts)) (v1 := I (1)) (v2 := I (16)) rfl rfl rfl) (in_R q.Facts 1 16) ?_
    rintro _ H8 ⟨hxx, rfl⟩
    have hS9 : St H0 NoB NoB [blkE g4 (.cells #[I (0), I (0)] 27), blkE g1 (.cells #[I (q.Facts), vf, vg, va] 25), rdE vf q.First, rdE vg q.Goal, rdE va q.Acts] H8 := hS7.ext hxx
    refine wpL_q (U := NoB) rfl (q_notP rfl rfl) ?_
    exact ⟨a7_1, a7_2, rfl, hS9⟩
  rintro f11 H11 ⟨a11_1, a11_2, a11_9, hS11⟩
  clear a7_1 a7_2
  refine wpF_condP a11_9 (fun h1 => ?t141) (fun h1 => ?e141)
  case t141 =>
    refine wpF_seq ?_
    refine wpF_cut (fun f H => f 2 = PT g4 0 ∧ St H0 NoB NoB [blkE g4 (.cells #[I (3), I (-1)] 27), blkE g1 (.cells #[I (q.Facts), vf, vg, va] 25), rdE vf q.First, rdE vg q.Goal, rdE va q.Acts] H) ?_ ?_
    · refine wpF_region ?_
      refine wpL_o rfl ?_
      refine e_call rfl Try.call39 (arr2 (v0 := I (3)) (v1 := I (-1)) rfl rfl) (fault_R 3 (-1)) ?_
      rintro _ H13 ⟨hxx, rfl⟩
      have hS14 : St H0 NoB NoB [blkE g4 (.cells #[I (0), I (0)] 27), blkE g1 (.cells #[I (q.Facts), vf, vg, va] 25), rdE vf q.First, rdE vg q.Goal, rdE va q.Acts] H13 := hS11.ext hxx
      refine wpL_o rfl ?_
      refine e_storeBlkA (cs' := #[I (3), I (-1)]) rfl a11_2 rfl Try.sizeOf27 rfl rfl (List.forall_mem_cons.2 ⟨rfl, List.forall_mem_cons.2 ⟨rfl, List.forall_mem_nil _⟩⟩) hS14 (fun H16 hS17 hxx => ?_)
      replace hS17 : St H0 NoB NoB [blkE g4 (.cells #[I (3), I (-1)] 27), blkE g1 (.cells #[I (q.Facts), vf, vg, va] 25), rdE vf q.First, rdE vg q.Goal, rdE va q.Acts] H16 := hS17
      exact ⟨a11_2, hS17⟩
    rintro f18 H18 ⟨a18_2, hS18⟩
    clear a11_1 a11_2 a11_9
    refine wpF_ret ?_
    refine ⟨_, resC a18_2 (loadV_blkA Try.isAgg27 Try.sizeOf27 rfl (hS18.blk 0 rfl)) (resN), hS18.frame, ?_⟩
    show (Value.agg #[I (3), I (-1)]) = Value.agg #[I (questFault q).1, I (questFault q).2]
    have hq := questFault_facts (q := q) (by omega)
    rw [hq]
  refine wpF_skip ?_
  refine wpF_seq ?_
  refine wpF_seq ?_
  refine wpF_cut (fun f H => f 1 = PT g1 0 ∧ f 2 = PT g4 0 ∧ f 14 = B (decide (12 < (q.Acts.length : Int))) ∧ H11 = H) ?_ ?_
  · refine wpF_region ?_
    refine wpL_q (U := NoB) rfl (q_fieldAddr rfl Try.underlying25 rfl Try.sizeOf23 a11_1) ?_
    refine wpL_q (U := NoB) rfl (q_loadBlk rfl rfl Try.isAgg23 (hS11.blk 1 rfl) rfl (fun h => h)) ?_
    refine wpL_q (U := NoB) rfl (q_lenRd rfl Try.underlying23 rfl (hS11.rdl 4 rfl)) ?_
    refine wpL_q (U := NoB) rfl (q_gtr rfl rfl rfl) ?_
    exact ⟨a11_1, a11_2, rfl, rfl⟩
  rintro f19 _ ⟨a19_1, a19_2, a19_14, rfl⟩
  clear a11_1 a11_2 a11_9
  refine wpF_condP a19_14 (fun h2 => ?t140) (fun h2 => ?e140)
  case t140 =>
    refine wpF_seq ?_
    refine wpF_cut (fun f H => f 2 = PT g4 0 ∧ St H0 NoB NoB [blkE g4 (.cells #[I (2), I (-1)] 27), blkE g1 (.cells #[I (q.Facts), vf, vg, va] 25), rdE vf q.First, rdE vg q.Goal, rdE va q.Acts] H) ?_ ?_
    · refine wpF_region ?_
      refine wpL_o rfl ?_
      refine e_call rfl Try.call39 (arr2 (v0 := I (2)) (v1 := I (-1)) rfl rfl) (fault_R 2 (-1)) ?_
      rintro _ H21 ⟨hxx, rfl⟩
      have hS22 : St H0 NoB NoB [blkE g4 (.cells #[I (0), I (0)] 27), blkE g1 (.cells #[I (q.Facts), vf, vg, va] 25), rdE vf q.First, rdE vg q.Goal, rdE va q.Acts] H21 := hS11.ext hxx
      refine wpL_o rfl ?_
      refine e_storeBlkA (cs' := #[I (2), I (-1)]) rfl a19_2 rfl Try.sizeOf27 rfl rfl (List.forall_mem_cons.2 ⟨rfl, List.forall_mem_cons.2 ⟨rfl, List.forall_mem_nil _⟩⟩) hS22 (fun H24 hS25 hxx => ?_)
      replace hS25 : St H0 NoB NoB [blkE g4 (.cells #[I (2), I (-1)] 27), blkE g1 (.cells #[I (q.Facts), vf, vg, va] 25), rdE vf q.First, rdE vg q.Goal, rdE va q.Acts] H24 := hS25
      exact ⟨a19_2, hS25⟩
    rintro f26 H26 ⟨a26_2, hS26⟩
    clear a19_1 a19_14 a19_2
    refine wpF_ret ?_
    refine ⟨_, resC a26_2 (loadV_blkA Try.isAgg27 Try.sizeOf27 rfl (hS26.blk 0 rfl)) (resN), hS26.frame, ?_⟩
    show (Value.agg #[I (2), I (-1)]) = Value.agg #[I (questFault q).1, I (questFault q).2]
    have hq := questFault_many (q := q) (by omega) h2
    rw [hq]
  refine wpF_skip ?_
  refine wpF_seq ?_
  refine wpF_seq ?_
  refine wpF_cut (fun f H => f 1 = PT g1 0 ∧ f 2 = PT g4 0 ∧ f 29 = B (decide ((¬ (Rising q.First q.Facts)) ∨ (¬ (Rising q.Goal q.Facts)))) ∧ St H0 NoB NoB [blkE g4 (.cells #[I (0), I (0)] 27), blkE g1 (.cells #[I (q.Facts), vf, vg, va] 25), rdE vf q.First, rdE vg q.Goal, rdE va q.Acts] H) ?_ ?_
  · refine wpF_region ?_
    refine wpL_q (U := NoB) rfl (q_fieldAddr rfl Try.underlying25 rfl Try.sizeOf22 a19_1) ?_
    refine wpL_q (U := NoB) rfl (q_loadBlk rfl rfl Try.isAgg22 (hS11.blk 1 rfl) rfl (fun h => h)) ?_
    refine wpL_q (U := NoB) rfl (q_fieldAddr rfl Try.underlying25 rfl Try.sizeOf3 a19_1) ?_
    refine wpL_q (U := NoB) rfl (q_loadBlk rfl rfl Try.isAgg3 (hS11.blk 1 rfl) rfl (fun h => h)) ?_
    refine wpL_o rfl ?_
    refine e_call rfl Try.call40 (arr2 (v0 := vf) (v1 := I (q.Facts)) rfl rfl) (rising_R vf q.First q.Facts (hS11.rdN 2 rfl) (by omega)) ?_
    rintro _ H27 ⟨hxx, rfl⟩
    have hS28 : St H0 NoB NoB [blkE g4 (.cells #[I (0), I (0)] 27), blkE g1 (.cells #[I (q.Facts), vf, vg, va] 25), rdE vf q.First, rdE vg q.Goal, rdE va q.Acts] H27 := hS11.ext hxx
    refine wpL_q (U := NoB) rfl (q_notP rfl rfl) ?_
    refine wpL_q (U := NoB) rfl (q_move (v := B (decide (¬ (Rising q.First q.Facts)))) rfl rfl) ?_
    by_cases hg30 : ¬ (Rising q.First q.Facts)
    · have hb31 := Eq.trans rfl (congrArg B (decide_eq_true hg30))
      refine wpL_gs rfl rfl rfl hb31 rfl ?_
      refine wpL_gs rfl rfl rfl hb31 rfl ?_
      refine wpL_gs rfl rfl rfl hb31 rfl ?_
      refine wpL_gs rfl rfl rfl hb31 rfl ?_
      refine wpL_gs rfl rfl rfl hb31 rfl ?_
      refine wpL_gs rfl rfl rfl hb31 rfl ?_
      refine wpL_q (U := NoB) rfl (q_pickT (v := B (true)) rfl hb31 rfl) ?_
      exact ⟨a19_1, a19_2, (Eq.trans rfl (congrArg B ((decide_eq_true (Or.inl hg30)).symm))), hS28⟩
    · have hb32 := Eq.trans rfl (congrArg B (decide_eq_false hg30))
      refine wpL_gq (U := NoB) rfl rfl rfl hb32 (q_fieldAddr rfl Try.underlying25 rfl Try.sizeOf22 a19_1) ?_
      refine wpL_gq (U := NoB) rfl rfl rfl hb32 (q_loadBlk rfl rfl Try.isAgg22 (hS28.blk 1 rfl) rfl (fun h => h)) ?_
      refine wpL_gq (U := NoB) rfl rfl rfl hb32 (q_fieldAddr rfl Try.underlying25 rfl Try.sizeOf3 a19_1) ?_
      refine wpL_gq (U := NoB) rfl rfl rfl hb32 (q_loadBlk rfl rfl Try.isAgg3 (hS28.blk 1 rfl) rfl (fun h => h)) ?_
      refine wpL_go rfl rfl rfl hb32 ?_
      refine e_call rfl Try.call40 (arr2 (v0 := vg) (v1 := I (q.Facts)) rfl rfl) (rising_R vg q.Goal q.Facts (hS28.rdN 3 rfl) (by omega)) ?_
      rintro _ H33 ⟨hxx, rfl⟩
      have hS34 : St H0 NoB NoB [blkE g4 (.cells #[I (0), I (0)] 27), blkE g1 (.cells #[I (q.Facts), vf, vg, va] 25), rdE vf q.First, rdE vg q.Goal, rdE va q.Acts] H33 := hS28.ext hxx
      refine wpL_gq (U := NoB) rfl rfl rfl hb32 (q_notP rfl rfl) ?_
      refine wpL_q (U := NoB) rfl (q_pickF (v := B (decide (¬ (Rising q.Goal q.Facts)))) rfl hb32 rfl) ?_
      exact ⟨a19_1, a19_2, (Eq.trans rfl (congrArg B (decide_congr_of (((not_congr Iff.rfl)).trans (((or_iff_right hg30).trans (not_congr Iff.rfl))).symm)))), hS34⟩
  rintro f36 H36 ⟨a36_1, a36_2, a36_29, hS36⟩
  clear a19_1 a19_14 a19_2
  refine wpF_condP a36_29 (fun h3 => ?t139) (fun h3 => ?e139)
  case t139 =>
    refine wpF_seq ?_
    refine wpF_cut (fun f H => f 2 = PT g4 0 ∧ St H0 NoB NoB [blkE g4 (.cells #[I (5), I (-1)] 27), blkE g1 (.cells #[I (q.Facts), vf, vg, va] 25), rdE vf q.First, rdE vg q.Goal, rdE va q.Acts] H) ?_ ?_
    · refine wpF_region ?_
      refine wpL_o rfl ?_
      refine e_call rfl Try.call39 (arr2 (v0 := I (5)) (v1 := I (-1)) rfl rfl) (fault_R 5 (-1)) ?_
      rintro _ H38 ⟨hxx, rfl⟩
      have hS39 : St H0 NoB NoB [blkE g4 (.cells #[I (0), I (0)] 27), blkE g1 (.cells #[I (q.Facts), vf, vg, va] 25), rdE vf q.First, rdE vg q.Goal, rdE va q.Acts] H38 := hS36.ext hxx
      refine wpL_o rfl ?_
      refine e_storeBlkA (cs' := #[I (5), I (-1)]) rfl a36_2 rfl Try.sizeOf27 rfl rfl (List.forall_mem_cons.2 ⟨rfl, List.forall_mem_cons.2 ⟨rfl, List.forall_mem_nil _⟩⟩) hS39 (fun H41 hS42 hxx => ?_)
      replace hS42 : St H0 NoB NoB [blkE g4 (.cells #[I (5), I (-1)] 27), blkE g1 (.cells #[I (q.Facts), vf, vg, va] 25), rdE vf q.First, rdE vg q.Goal, rdE va q.Acts] H41 := hS42
      exact ⟨a36_2, hS42⟩
    rintro f43 H43 ⟨a43_2, hS43⟩
    clear a36_1 a36_2 a36_29
    refine wpF_ret ?_
    refine ⟨_, resC a43_2 (loadV_blkA Try.isAgg27 Try.sizeOf27 rfl (hS43.blk 0 rfl)) (resN), hS43.frame, ?_⟩
    show (Value.agg #[I (5), I (-1)]) = Value.agg #[I (questFault q).1, I (questFault q).2]
    have hq := questFault_form (q := q) (by omega) h2 h3
    rw [hq]
  refine wpF_skip ?_
  refine wpF_seq ?_
  refine wpF_seq ?_
  refine wpF_cut (fun f H => f 1 = PT g1 0 ∧ f 2 = PT g4 0 ∧ f 3 = I (0) ∧ H36 = H) ?_ ?_
  · refine wpF_region ?_
    refine wpL_q (U := NoB) rfl (q_assign (v := I (0)) rfl rfl) ?_
    exact ⟨a36_1, a36_2, rfl, rfl⟩
  rintro f44 _ ⟨a44_1, a44_2, a44_3, rfl⟩
  clear a36_1 a36_2 a36_29
  refine wpF_block ?_
  refine wpF_loop (fun mz f H => ∃ (k : Nat), mz = q.Acts.length - k ∧ (k ≤ q.Acts.length) ∧ (∀ j, j < k → actBad q j = none) ∧ f 1 = PT g1 0 ∧ f 2 = PT g4 0 ∧ f 3 = I ((k : Int)) ∧ St H0 NoB NoB [blkE g4 (.cells #[I (0), I (0)] 27), blkE g1 (.cells #[I (q.Facts), vf, vg, va] 25), rdE vf q.First, rdE vg q.Goal, rdE va q.Acts] H) (q.Acts.length - 0) ?_ ?_
  · exact ⟨0, rfl, Nat.zero_le _, (fun j hj => absurd hj (Nat.not_lt_zero j)), a44_1, a44_2, (Eq.trans a44_3 (congrArg I (by omega))), hS36⟩
  intro m45 f45 H45 hI45
  obtain ⟨k, hm45, hk, hp, a45_1, a45_2, a45_3, hS45⟩ := hI45
  clear a44_1 a44_2 a44_3
  refine wpF_seq ?_
  refine wpF_seq ?_
  refine wpF_cut (fun f H => f 1 = PT g1 0 ∧ f 2 = PT g4 0 ∧ f 3 = I ((k : Int)) ∧ f 35 = B (decide ((k : Int) < (q.Acts.length : Int))) ∧ H45 = H) ?_ ?_
  · refine wpF_region ?_
    refine wpL_q (U := NoB) rfl (q_move (v := I ((k : Int))) rfl a45_3) ?_
    refine wpL_q (U := NoB) rfl (q_fieldAddr rfl Try.underlying25 rfl Try.sizeOf23 a45_1) ?_
    refine wpL_q (U := NoB) rfl (q_loadBlk rfl rfl Try.isAgg23 (hS45.blk 1 rfl) rfl (fun h => h)) ?_
    refine wpL_q (U := NoB) rfl (q_lenRd rfl Try.underlying23 rfl (hS45.rdl 4 rfl)) ?_
    refine wpL_q (U := NoB) rfl (q_lss rfl rfl rfl) ?_
    exact ⟨a45_1, a45_2, a45_3, rfl, rfl⟩
  rintro f46 _ ⟨a46_1, a46_2, a46_3, a46_35, rfl⟩
  clear a45_1 a45_2 a45_3
  refine wpF_condP a46_35 (fun hlt => ?t138) (fun hlt => ?e138)
  case e138 =>
    refine wpF_exit ?_
    refine atX_here ?_
    refine wpF_seq ?_
    refine wpF_cut (fun f H => f 2 = PT g4 0 ∧ St H0 NoB NoB [blkE g4 (.cells #[I (0), I (0)] 27), blkE g1 (.cells #[I (q.Facts), vf, vg, va] 25), rdE vf q.First, rdE vg q.Goal, rdE va q.Acts] H) ?_ ?_
    · refine wpF_region ?_
      refine wpL_q (U := NoB) rfl (q_build (v := Value.agg #[I (0), I (0)]) rfl par0 (fun w => by kernel_rfl)) ?_
      refine wpL_o rfl ?_
      refine e_storeBlkA (cs' := #[I (0), I (0)]) rfl a46_2 rfl Try.sizeOf27 rfl rfl (List.forall_mem_cons.2 ⟨rfl, List.forall_mem_cons.2 ⟨rfl, List.forall_mem_nil _⟩⟩) hS45 (fun H135 hS136 hxx => ?_)
      replace hS136 : St H0 NoB NoB [blkE g4 (.cells #[I (0), I (0)] 27), blkE g1 (.cells #[I (q.Facts), vf, vg, va] 25), rdE vf q.First, rdE vg q.Goal, rdE va q.Acts] H135 := hS136
      exact ⟨a46_2, hS136⟩
    rintro f137 H137 ⟨a137_2, hS137⟩
    clear a46_1 a46_2 a46_3 a46_35
    refine wpF_ret ?_
    refine ⟨_, resC a137_2 (loadV_blkA Try.isAgg27 Try.sizeOf27 rfl (hS137.blk 0 rfl)) (resN), hS137.frame, ?_⟩
    show (Value.agg #[I (0), I (0)]) = Value.agg #[I (questFault q).1, I (questFault q).2]
    have hq := questFault_no (q := q) (by omega) h2 h3 fun j hj => hp j (by omega)
    rw [hq]
  refine wpF_skip ?_
  refine wpF_seq ?_
  refine wpF_block ?_
  refine wpF_seq ?_
  refine wpF_cut (fun f H => ∃ (u48n0 : Value), ∃ (u48n1 : Value), ∃ (u48n2 : Value), ∃ (u48n3 : Value), ∃ (g53 : Nat), f 1 = PT g1 0 ∧ f 2 = PT g4 0 ∧ f 3 = I ((k : Int)) ∧ f 4 = PT g53 0 ∧ St H0 NoB NoB [blkE g53 (.cells #[u48n0, u48n1, u48n2, u48n3] 37), rdE u48n3 ((nth q.Acts k).Drop), rdE u48n2 ((nth q.Acts k).Add), rdE u48n1 ((nth q.Acts k).Bar), rdE u48n0 ((nth q.Acts k).Need), blkE g4 (.cells #[I (0), I (0)] 27), blkE g1 (.cells #[I (q.Facts), vf, vg, va] 25), rdE vf q.First, rdE vg q.Goal, rdE va q.Acts] H) ?_ ?_
  · refine wpF_region ?_
    refine wpL_q (U := NoB) rfl (q_fieldAddr rfl Try.underlying25 rfl Try.sizeOf23 a46_1) ?_
    refine wpL_q (U := NoB) rfl (q_loadBlk rfl rfl Try.isAgg23 (hS45.blk 1 rfl) rfl (fun h => h)) ?_
    refine wpL_q (U := NoB) rfl (q_move (v := I ((k : Int))) rfl a46_3) ?_
    refine wpL_q (U := NoB) rfl (q_indexRd (k := k) rfl Try.underlying23 el_Act_37_ActC1 rfl rfl (hS45.rdl 4 rfl) (by omega) (by omega)) ?_
    obtain ⟨u48, huu48, hlu48⟩ := (Rd.list.1 (hS45.rdS 4 rfl)).elem k (by omega)
    obtain ⟨u48n0, u48n1, u48n2, u48n3, rfl, hu480, hu481, hu482, hu483⟩ := Rd.act.1 huu48
    have hS49 : St H0 NoB NoB [rdE u48n0 ((nth q.Acts k).Need), blkE g4 (.cells #[I (0), I (0)] 27), blkE g1 (.cells #[I (q.Facts), vf, vg, va] 25), rdE vf q.First, rdE vg q.Goal, rdE va q.Acts] H45 := hS45.rd hu480
    have hS50 : St H0 NoB NoB [rdE u48n1 ((nth q.Acts k).Bar), rdE u48n0 ((nth q.Acts k).Need), blkE g4 (.cells #[I (0), I (0)] 27), blkE g1 (.cells #[I (q.Facts), vf, vg, va] 25), rdE vf q.First, rdE vg q.Goal, rdE va q.Acts] H45 := hS49.rd (hu481.sub fun _ hb => SL_rd hb)
    have hS51 : St H0 NoB NoB [rdE u48n2 ((nth q.Acts k).Add), rdE u48n1 ((nth q.Acts k).Bar), rdE u48n0 ((nth q.Acts k).Need), blkE g4 (.cells #[I (0), I (0)] 27), blkE g1 (.cells #[I (q.Facts), vf, vg, va] 25), rdE vf q.First, rdE vg q.Goal, rdE va q.Acts] H45 := hS50.rd (hu482.sub fun _ hb => SL_rd (SL_rd (hb)))
    have hS52 : St H0 NoB NoB [rdE u48n3 ((nth q.Acts k).Drop), rdE u48n2 ((nth q.Acts k).Add), rdE u48n1 ((nth q.Acts k).Bar), rdE u48n0 ((nth q.Acts k).Need), blkE g4 (.cells #[I (0), I (0)] 27), blkE g1 (.cells #[I (q.Facts), vf, vg, va] 25), rdE vf q.First, rdE vg q.Goal, rdE va q.Acts] H45 := hS51.rd (hu483.sub fun _ hb => SL_rd (SL_rd (SL_rd (hb))))
    refine wpL_q (U := NoB) rfl (q_loadE rfl rfl (hlu48 Try.prog 37 _ el_Act_37_ActC1 (fun _ h => False.elim h))) ?_
    refine wpL_o rfl ?_
    refine e_alloc rfl Try.zeroValue37 hS52 (fun g53 H54 hS55 hxx => ?_)
    replace hS55 : St H0 NoB NoB [blkE g53 (.cells #[(Value.slice none 0 0), (Value.slice none 0 0), (Value.slice none 0 0), (Value.slice none 0 0)] 37), rdE u48n3 ((nth q.Acts k).Drop), rdE u48n2 ((nth q.Acts k).Add), rdE u48n1 ((nth q.Acts k).Bar), rdE u48n0 ((nth q.Acts k).Need), blkE g4 (.cells #[I (0), I (0)] 27), blkE g1 (.cells #[I (q.Facts), vf, vg, va] 25), rdE vf q.First, rdE vg q.Goal, rdE va q.Acts] H54 := hS55
    refine wpL_o rfl ?_
    refine e_storeBlkA (cs' := #[u48n0, u48n1, u48n2, u48n3]) rfl rfl rfl Try.sizeOf37 rfl rfl (List.forall_mem_cons.2 ⟨(oneCell_rdL (hS55.rdl 4 rfl)), List.forall_mem_cons.2 ⟨(oneCell_rdL (hS55.rdl 3 rfl)), List.forall_mem_cons.2 ⟨(oneCell_rdL (hS55.rdl 2 rfl)), List.forall_mem_cons.2 ⟨(oneCell_rdL (hS55.rdl 1 rfl)), List.forall_mem_nil _⟩⟩⟩⟩) hS55 (fun H56 hS57 hxx => ?_)
    replace hS57 : St H0 NoB NoB [blkE g53 (.cells #[u48n0, u48n1, u48n2, u48n3] 37), rdE u48n3 ((nth q.Acts k).Drop), rdE u48n2 ((nth q.Acts k).Add), rdE u48n1 ((nth q.Acts k).Bar), rdE u48n0 ((nth q.Acts k).Need), blkE g4 (.cells #[I (0), I (0)] 27), blkE g1 (.cells #[I (q.Facts), vf, vg, va] 25), rdE vf q.First, rdE vg q.Goal, rdE va q.Acts] H56 := hS57
    exact ⟨u48n0, u48n1, u48n2, u48n3, g53, a46_1, a46_2, a46_3, rfl, hS57⟩
  rintro f58 H58 ⟨u48n0, u48n1, u48n2, u48n3, g53, a58_1, a58_2, a58_3, a58_4, hS58⟩
  clear a46_1 a46_2 a46_3 a46_35
  refine wpF_seq ?_
  refine wpF_seq ?_
  refine wpF_cut (fun f H => f 1 = PT g1 0 ∧ f 2 = PT g4 0 ∧ f 3 = I ((k : Int)) ∧ f 4 = PT g53 0 ∧ f 72 = B (decide ((((¬ (Rising ((nth q.Acts k).Need) q.Facts)) ∨ (¬ (Rising ((nth q.Acts k).Bar) q.Facts))) ∨ (¬ (Rising ((nth q.Acts k).Add) q.Facts))) ∨ (¬ (Rising ((nth q.Acts k).Drop) q.Facts)))) ∧ St H0 NoB NoB [blkE g53 (.cells #[u48n0, u48n1, u48n2, u48n3] 37), rdE u48n3 ((nth q.Acts k).Drop), rdE u48n2 ((nth q.Acts k).Add), rdE u48n1 ((nth q.Acts k).Bar), rdE u48n0 ((nth q.Acts k).Need), blkE g4 (.cells #[I (0), I (0)] 27), blkE g1 (.cells #[I (q.Facts), vf, vg, va] 25), rdE vf q.First, rdE vg q.Goal, rdE va q.Acts] H) ?_ ?_
  · refine wpF_region ?_
    refine wpL_q (U := NoB) rfl (q_fieldAddr rfl Try.underlying37 rfl Try.sizeOf22 a58_4) ?_
    refine wpL_q (U := NoB) rfl (q_loadBlk rfl rfl Try.isAgg22 (hS58.blk 0 rfl) rfl (fun h => h)) ?_
    refine wpL_q (U := NoB) rfl (q_fieldAddr rfl Try.underlying25 rfl Try.sizeOf3 a58_1) ?_
    refine wpL_q (U := NoB) rfl (q_loadBlk rfl rfl Try.isAgg3 (hS58.blk 6 rfl) rfl (fun h => h)) ?_
    refine wpL_o rfl ?_
    refine e_call rfl Try.call40 (arr2 (v0 := u48n0) (v1 := I (q.Facts)) rfl rfl) (rising_R u48n0 ((nth q.Acts k).Need) q.Facts (hS58.rdN 4 rfl) (by omega)) ?_
    rintro _ H59 ⟨hxx, rfl⟩
    have hS60 : St H0 NoB NoB [blkE g53 (.cells #[u48n0, u48n1, u48n2, u48n3] 37), rdE u48n3 ((nth q.Acts k).Drop), rdE u48n2 ((nth q.Acts k).Add), rdE u48n1 ((nth q.Acts k).Bar), rdE u48n0 ((nth q.Acts k).Need), blkE g4 (.cells #[I (0), I (0)] 27), blkE g1 (.cells #[I (q.Facts), vf, vg, va] 25), rdE vf q.First, rdE vg q.Goal, rdE va q.Acts] H59 := hS58.ext hxx
    refine wpL_q (U := NoB) rfl (q_notP rfl rfl) ?_
    refine wpL_q (U := NoB) rfl (q_move (v := B (decide (¬ (Rising ((nth q.Acts k).Need) q.Facts)))) rfl rfl) ?_
    by_cases hg62 : ¬ (Rising ((nth q.Acts k).Need) q.Facts)
    · have hb63 := Eq.trans rfl (congrArg B (decide_eq_true hg62))
      refine wpL_gs rfl rfl rfl hb63 rfl ?_
      refine wpL_gs rfl rfl rfl hb63 rfl ?_
      refine wpL_gs rfl rfl rfl hb63 rfl ?_
      refine wpL_gs rfl rfl rfl hb63 rfl ?_
      refine wpL_gs rfl rfl rfl hb63 rfl ?_
      refine wpL_gs rfl rfl rfl hb63 rfl ?_
      refine wpL_q (U := NoB) rfl (q_pickT (v := B (true)) rfl hb63 rfl) ?_
      refine wpL_q (U := NoB) rfl (q_move (v := B (true)) rfl rfl) ?_
      refine wpL_gs rfl rfl rfl rfl rfl ?_
      refine wpL_gs rfl rfl rfl rfl rfl ?_
      refine wpL_gs rfl rfl rfl rfl rfl ?_
      refine wpL_gs rfl rfl rfl rfl rfl ?_
      refine wpL_gs rfl rfl rfl rfl rfl ?_
      refine wpL_gs rfl rfl rfl rfl rfl ?_
      refine wpL_q (U := NoB) rfl (q_pickT (v := B (true)) rfl rfl rfl) ?_
      refine wpL_q (U := NoB) rfl (q_move (v := B (true)) rfl rfl) ?_
      refine wpL_gs rfl rfl rfl rfl rfl ?_
      refine wpL_gs rfl rfl rfl rfl rfl ?_
      refine wpL_gs rfl rfl rfl rfl rfl ?_
      refine wpL_gs rfl rfl rfl rfl rfl ?_
      refine wpL_gs rfl rfl rfl rfl rfl ?_
      refine wpL_gs rfl rfl rfl rfl rfl ?_
      refine wpL_q (U := NoB) rfl (q_pickT (v := B (true)) rfl rfl rfl) ?_
      exact ⟨a58_1, a58_2, a58_3, a58_4, (Eq.trans rfl (congrArg B ((decide_eq_true (Or.inl (Or.inl (Or.inl hg62)))).symm))), hS60⟩
    · have hb64 := Eq.trans rfl (congrArg B (decide_eq_false hg62))
      refine wpL_gq (U := NoB) rfl rfl rfl hb64 (q_fieldAddr rfl Try.underlying37 rfl Try.sizeOf22 a58_4) ?_
      refine wpL_gq (U := NoB) rfl rfl rfl hb64 (q_loadBlk rfl rfl Try.isAgg22 (hS60.blk 0 rfl) rfl (fun h => h)) ?_
      refine wpL_gq (U := NoB) rfl rfl rfl hb64 (q_fieldAddr rfl Try.underlying25 rfl Try.sizeOf3 a58_1) ?_
      refine wpL_gq (U := NoB) rfl rfl rfl hb64 (q_loadBlk rfl rfl Try.isAgg3 (hS60.blk 6 rfl) rfl (fun h => h)) ?_
      refine wpL_go rfl rfl rfl hb64 ?_
      refine e_call rfl Try.call40 (arr2 (v0 := u48n1) (v1 := I (q.Facts)) rfl rfl) (rising_R u48n1 ((nth q.Acts k).Bar) q.Facts (hS60.rdN 3 rfl) (by omega)) ?_
      rintro _ H65 ⟨hxx, rfl⟩
      have hS66 : St H0 NoB NoB [blkE g53 (.cells #[u48n0, u48n1, u48n2, u48n3] 37), rdE u48n3 ((nth q.Acts k).Drop), rdE u48n2 ((nth q.Acts k).Add), rdE u48n1 ((nth q.Acts k).Bar), rdE u48n0 ((nth q.Acts k).Need), blkE g4 (.cells #[I (0), I (0)] 27), blkE g1 (.cells #[I (q.Facts), vf, vg, va] 25), rdE vf q.First, rdE vg q.Goal, rdE va q.Acts] H65 := hS60.ext hxx
      refine wpL_gq (U := NoB) rfl rfl rfl hb64 (q_notP rfl rfl) ?_
      refine wpL_q (U := NoB) rfl (q_pickF (v := B (decide (¬ (Rising ((nth q.Acts k).Bar) q.Facts)))) rfl hb64 rfl) ?_
      refine wpL_q (U := NoB) rfl (q_move (v := B (decide (¬ (Rising ((nth q.Acts k).Bar) q.Facts)))) rfl rfl) ?_
      by_cases hg68 : ¬ (Rising ((nth q.Acts k).Bar) q.Facts)
      · have hb69 := Eq.trans rfl (congrArg B (decide_eq_true hg68))
        refine wpL_gs rfl rfl rfl hb69 rfl ?_
        refine wpL_gs rfl rfl rfl hb69 rfl ?_
        refine wpL_gs rfl rfl rfl hb69 rfl ?_
        refine wpL_gs rfl rfl rfl hb69 rfl ?_
        refine wpL_gs rfl rfl rfl hb69 rfl ?_
        refine wpL_gs rfl rfl rfl hb69 rfl ?_
        refine wpL_q (U := NoB) rfl (q_pickT (v := B (true)) rfl hb69 rfl) ?_
        refine wpL_q (U := NoB) rfl (q_move (v := B (true)) rfl rfl) ?_
        refine wpL_gs rfl rfl rfl rfl rfl ?_
        refine wpL_gs rfl rfl rfl rfl rfl ?_
        refine wpL_gs rfl rfl rfl rfl rfl ?_
        refine wpL_gs rfl rfl rfl rfl rfl ?_
        refine wpL_gs rfl rfl rfl rfl rfl ?_
        refine wpL_gs rfl rfl rfl rfl rfl ?_
        refine wpL_q (U := NoB) rfl (q_pickT (v := B (true)) rfl rfl rfl) ?_
        exact ⟨a58_1, a58_2, a58_3, a58_4, (Eq.trans rfl (congrArg B ((decide_eq_true (Or.inl (Or.inl (Or.inr hg68)))).symm))), hS66⟩
      · have hb70 := Eq.trans rfl (congrArg B (decide_eq_false hg68))
        refine wpL_gq (U := NoB) rfl rfl rfl hb70 (q_fieldAddr rfl Try.underlying37 rfl Try.sizeOf22 a58_4) ?_
        refine wpL_gq (U := NoB) rfl rfl rfl hb70 (q_loadBlk rfl rfl Try.isAgg22 (hS66.blk 0 rfl) rfl (fun h => h)) ?_
        refine wpL_gq (U := NoB) rfl rfl rfl hb70 (q_fieldAddr rfl Try.underlying25 rfl Try.sizeOf3 a58_1) ?_
        refine wpL_gq (U := NoB) rfl rfl rfl hb70 (q_loadBlk rfl rfl Try.isAgg3 (hS66.blk 6 rfl) rfl (fun h => h)) ?_
        refine wpL_go rfl rfl rfl hb70 ?_
        refine e_call rfl Try.call40 (arr2 (v0 := u48n2) (v1 := I (q.Facts)) rfl rfl) (rising_R u48n2 ((nth q.Acts k).Add) q.Facts (hS66.rdN 2 rfl) (by omega)) ?_
        rintro _ H71 ⟨hxx, rfl⟩
        have hS72 : St H0 NoB NoB [blkE g53 (.cells #[u48n0, u48n1, u48n2, u48n3] 37), rdE u48n3 ((nth q.Acts k).Drop), rdE u48n2 ((nth q.Acts k).Add), rdE u48n1 ((nth q.Acts k).Bar), rdE u48n0 ((nth q.Acts k).Need), blkE g4 (.cells #[I (0), I (0)] 27), blkE g1 (.cells #[I (q.Facts), vf, vg, va] 25), rdE vf q.First, rdE vg q.Goal, rdE va q.Acts] H71 := hS66.ext hxx
        refine wpL_gq (U := NoB) rfl rfl rfl hb70 (q_notP rfl rfl) ?_
        refine wpL_q (U := NoB) rfl (q_pickF (v := B (decide (¬ (Rising ((nth q.Acts k).Add) q.Facts)))) rfl hb70 rfl) ?_
        refine wpL_q (U := NoB) rfl (q_move (v := B (decide (¬ (Rising ((nth q.Acts k).Add) q.Facts)))) rfl rfl) ?_
        by_cases hg74 : ¬ (Rising ((nth q.Acts k).Add) q.Facts)
        · have hb75 := Eq.trans rfl (congrArg B (decide_eq_true hg74))
          refine wpL_gs rfl rfl rfl hb75 rfl ?_
          refine wpL_gs rfl rfl rfl hb75 rfl ?_
          refine wpL_gs rfl rfl rfl hb75 rfl ?_
          refine wpL_gs rfl rfl rfl hb75 rfl ?_
          refine wpL_gs rfl rfl rfl hb75 rfl ?_
          refine wpL_gs rfl rfl rfl hb75 rfl ?_
          refine wpL_q (U := NoB) rfl (q_pickT (v := B (true)) rfl hb75 rfl) ?_
          exact ⟨a58_1, a58_2, a58_3, a58_4, (Eq.trans rfl (congrArg B ((decide_eq_true (Or.inl (Or.inr hg74))).symm))), hS72⟩
        · have hb76 := Eq.trans rfl (congrArg B (decide_eq_false hg74))
          refine wpL_gq (U := NoB) rfl rfl rfl hb76 (q_fieldAddr rfl Try.underlying37 rfl Try.sizeOf22 a58_4) ?_
          refine wpL_gq (U := NoB) rfl rfl rfl hb76 (q_loadBlk rfl rfl Try.isAgg22 (hS72.blk 0 rfl) rfl (fun h => h)) ?_
          refine wpL_gq (U := NoB) rfl rfl rfl hb76 (q_fieldAddr rfl Try.underlying25 rfl Try.sizeOf3 a58_1) ?_
          refine wpL_gq (U := NoB) rfl rfl rfl hb76 (q_loadBlk rfl rfl Try.isAgg3 (hS72.blk 6 rfl) rfl (fun h => h)) ?_
          refine wpL_go rfl rfl rfl hb76 ?_
          refine e_call rfl Try.call40 (arr2 (v0 := u48n3) (v1 := I (q.Facts)) rfl rfl) (rising_R u48n3 ((nth q.Acts k).Drop) q.Facts (hS72.rdN 1 rfl) (by omega)) ?_
          rintro _ H77 ⟨hxx, rfl⟩
          have hS78 : St H0 NoB NoB [blkE g53 (.cells #[u48n0, u48n1, u48n2, u48n3] 37), rdE u48n3 ((nth q.Acts k).Drop), rdE u48n2 ((nth q.Acts k).Add), rdE u48n1 ((nth q.Acts k).Bar), rdE u48n0 ((nth q.Acts k).Need), blkE g4 (.cells #[I (0), I (0)] 27), blkE g1 (.cells #[I (q.Facts), vf, vg, va] 25), rdE vf q.First, rdE vg q.Goal, rdE va q.Acts] H77 := hS72.ext hxx
          refine wpL_gq (U := NoB) rfl rfl rfl hb76 (q_notP rfl rfl) ?_
          refine wpL_q (U := NoB) rfl (q_pickF (v := B (decide (¬ (Rising ((nth q.Acts k).Drop) q.Facts)))) rfl hb76 rfl) ?_
          exact ⟨a58_1, a58_2, a58_3, a58_4, (Eq.trans rfl (congrArg B (decide_congr_of (((not_congr Iff.rfl)).trans (((or_iff_right (not_or.2 ⟨(not_or.2 ⟨hg62, hg68⟩), hg74⟩)).trans (not_congr Iff.rfl))).symm)))), hS78⟩
  rintro f80 H80 ⟨a80_1, a80_2, a80_3, a80_4, a80_72, hS80⟩
  clear a58_1 a58_2 a58_3 a58_4
  refine wpF_condP a80_72 (fun h4 => ?t134) (fun h4 => ?e134)
  case t134 =>
    refine wpF_seq ?_
    refine wpF_cut (fun f H => f 2 = PT g4 0 ∧ St H0 NoB NoB [blkE g4 (.cells #[I (5), I ((k : Int))] 27), blkE g53 (.cells #[u48n0, u48n1, u48n2, u48n3] 37), rdE u48n3 ((nth q.Acts k).Drop), rdE u48n2 ((nth q.Acts k).Add), rdE u48n1 ((nth q.Acts k).Bar), rdE u48n0 ((nth q.Acts k).Need), blkE g1 (.cells #[I (q.Facts), vf, vg, va] 25), rdE vf q.First, rdE vg q.Goal, rdE va q.Acts] H) ?_ ?_
    · refine wpF_region ?_
      refine wpL_q (U := NoB) rfl (q_move (v := I ((k : Int))) rfl a80_3) ?_
      refine wpL_o rfl ?_
      refine e_call rfl Try.call39 (arr2 (v0 := I (5)) (v1 := I ((k : Int))) rfl rfl) (fault_R 5 (k : Int)) ?_
      rintro _ H82 ⟨hxx, rfl⟩
      have hS83 : St H0 NoB NoB [blkE g53 (.cells #[u48n0, u48n1, u48n2, u48n3] 37), rdE u48n3 ((nth q.Acts k).Drop), rdE u48n2 ((nth q.Acts k).Add), rdE u48n1 ((nth q.Acts k).Bar), rdE u48n0 ((nth q.Acts k).Need), blkE g4 (.cells #[I (0), I (0)] 27), blkE g1 (.cells #[I (q.Facts), vf, vg, va] 25), rdE vf q.First, rdE vg q.Goal, rdE va q.Acts] H82 := hS80.ext hxx
      refine wpL_o rfl ?_
      refine e_storeBlkA (cs' := #[I (5), I ((k : Int))]) rfl a80_2 rfl Try.sizeOf27 rfl rfl (List.forall_mem_cons.2 ⟨rfl, List.forall_mem_cons.2 ⟨rfl, List.forall_mem_nil _⟩⟩) (hS83.front 5 rfl) (fun H85 hS86 hxx => ?_)
      replace hS86 : St H0 NoB NoB [blkE g4 (.cells #[I (5), I ((k : Int))] 27), blkE g53 (.cells #[u48n0, u48n1, u48n2, u48n3] 37), rdE u48n3 ((nth q.Acts k).Drop), rdE u48n2 ((nth q.Acts k).Add), rdE u48n1 ((nth q.Acts k).Bar), rdE u48n0 ((nth q.Acts k).Need), blkE g1 (.cells #[I (q.Facts), vf, vg, va] 25), rdE vf q.First, rdE vg q.Goal, rdE va q.Acts] H85 := hS86
      exact ⟨a80_2, hS86⟩
    rintro f87 H87 ⟨a87_2, hS87⟩
    clear a80_1 a80_2 a80_3 a80_4 a80_72
    refine wpF_ret ?_
    refine ⟨_, resC a87_2 (loadV_blkA Try.isAgg27 Try.sizeOf27 rfl (hS87.blk 0 rfl)) (resN), hS87.frame, ?_⟩
    show (Value.agg #[I (5), I ((k : Int))]) = Value.agg #[I (questFault q).1, I (questFault q).2]
    have hq := questFault_at (q := q) (by omega) h2 h3 (by omega) hp (actBad_form (or4_no h4))
    rw [hq]
  refine wpF_skip ?_
  refine wpF_seq ?_
  refine wpF_cut (fun f H => f 1 = PT g1 0 ∧ f 2 = PT g4 0 ∧ f 3 = I ((k : Int)) ∧ f 4 = PT g53 0 ∧ f 5 = I (0) ∧ H80 = H) ?_ ?_
  · refine wpF_region ?_
    refine wpL_q (U := NoB) rfl (q_assign (v := I (0)) rfl rfl) ?_
    exact ⟨a80_1, a80_2, a80_3, a80_4, rfl, rfl⟩
  rintro f88 _ ⟨a88_1, a88_2, a88_3, a88_4, a88_5, rfl⟩
  clear a80_1 a80_2 a80_3 a80_4 a80_72
  refine wpF_block ?_
  refine wpF_loop (fun mz f H => ∃ (u : Nat), mz = q.Facts.toNat - u ∧ (u ≤ q.Facts.toNat) ∧ (∀ j, j < u → ¬ twAt (nth q.Acts k) j) ∧ f 1 = PT g1 0 ∧ f 2 = PT g4 0 ∧ f 3 = I ((k : Int)) ∧ f 4 = PT g53 0 ∧ f 5 = I ((u : Int)) ∧ St H0 NoB NoB [blkE g53 (.cells #[u48n0, u48n1, u48n2, u48n3] 37), rdE u48n3 ((nth q.Acts k).Drop), rdE u48n2 ((nth q.Acts k).Add), rdE u48n1 ((nth q.Acts k).Bar), rdE u48n0 ((nth q.Acts k).Need), blkE g4 (.cells #[I (0), I (0)] 27), blkE g1 (.cells #[I (q.Facts), vf, vg, va] 25), rdE vf q.First, rdE vg q.Goal, rdE va q.Acts] H) (q.Facts.toNat - 0) ?_ ?_
  · exact ⟨0, rfl, Nat.zero_le _, (fun j hj => absurd hj (Nat.not_lt_zero j)), a88_1, a88_2, a88_3, a88_4, (Eq.trans a88_5 (congrArg I (by omega))), hS80⟩
  intro m89 f89 H89 hI89
  obtain ⟨u, hm89, hf, hq, a89_1, a89_2, a89_3, a89_4, a89_5, hS89⟩ := hI89
  clear a88_1 a88_2 a88_3 a88_4 a88_5
  refine wpF_seq ?_
  refine wpF_seq ?_
  refine wpF_cut (fun f H => f 1 = PT g1 0 ∧ f 2 = PT g4 0 ∧ f 3 = I ((k : Int)) ∧ f 4 = PT g53 0 ∧ f 5 = I ((u : Int)) ∧ f 78 = B (decide ((u : Int) < q.Facts)) ∧ H89 = H) ?_ ?_
  · refine wpF_region ?_
    refine wpL_q (U := NoB) rfl (q_move (v := I ((u : Int))) rfl a89_5) ?_
    refine wpL_q (U := NoB) rfl (q_fieldAddr rfl Try.underlying25 rfl Try.sizeOf3 a89_1) ?_
    refine wpL_q (U := NoB) rfl (q_loadBlk rfl rfl Try.isAgg3 (hS89.blk 6 rfl) rfl (fun h => h)) ?_
    refine wpL_q (U := NoB) rfl (q_lss rfl rfl rfl) ?_
    exact ⟨a89_1, a89_2, a89_3, a89_4, a89_5, rfl, rfl⟩
  rintro f90 _ ⟨a90_1, a90_2, a90_3, a90_4, a90_5, a90_78, rfl⟩
  clear a89_1 a89_2 a89_3 a89_4 a89_5
  refine wpF_condP a90_78 (fun hlt2 => ?t133) (fun hlt2 => ?e133)
  case e133 =>
    refine wpF_exit ?_
    refine atX_here ?_
    refine wpF_cut (fun f H => f 1 = PT g1 0 ∧ f 2 = PT g4 0 ∧ f 3 = I ((k : Int) + 1) ∧ H89 = H) ?_ ?_
    · refine wpF_region ?_
      refine wpL_q (U := NoB) rfl (q_move (v := I ((k : Int))) rfl a90_3) ?_
      refine wpL_q (U := NoB) rfl (q_add rfl rfl rfl (by constructor <;> omega)) ?_
      refine wpL_q (U := NoB) rfl (q_assign (v := I ((k : Int) + 1)) rfl rfl) ?_
      exact ⟨a90_1, a90_2, rfl, rfl⟩
    rintro f132 _ ⟨a132_1, a132_2, a132_3, rfl⟩
    clear a90_1 a90_2 a90_3 a90_4 a90_5 a90_78
    refine ⟨_, ?_, k + 1, rfl, (by omega), (all_succ hp (actBad_no (or4_ok h4) (actTwice_no (or4_ok h4) (by omega) hq))), a132_1, a132_2, (Eq.trans a132_3 (congrArg I (by omega))), (hS89.drop (sn (sn (sn (sn (sn (sk (sk (sk (sk (sk (List.Sublist.slnil))))))))))))⟩
    omega
  refine wpF_skip ?_
  refine wpF_seq ?_
  refine wpF_block ?_
  refine wpF_seq ?_
  refine wpF_cut (fun f H => f 1 = PT g1 0 ∧ f 2 = PT g4 0 ∧ f 3 = I ((k : Int)) ∧ f 4 = PT g53 0 ∧ f 5 = I ((u : Int)) ∧ f 102 = B (decide ((((hasB ((nth q.Acts k).Add) (u : Int)) = true) ∧ ((hasB ((nth q.Acts k).Drop) (u : Int)) = true)) ∨ (((hasB ((nth q.Acts k).Need) (u : Int)) = true) ∧ ((hasB ((nth q.Acts k).Bar) (u : Int)) = true)))) ∧ St H0 NoB NoB [blkE g53 (.cells #[u48n0, u48n1, u48n2, u48n3] 37), rdE u48n3 ((nth q.Acts k).Drop), rdE u48n2 ((nth q.Acts k).Add), rdE u48n1 ((nth q.Acts k).Bar), rdE u48n0 ((nth q.Acts k).Need), blkE g4 (.cells #[I (0), I (0)] 27), blkE g1 (.cells #[I (q.Facts), vf, vg, va] 25), rdE vf q.First, rdE vg q.Goal, rdE va q.Acts] H) ?_ ?_
  · refine wpF_region ?_
    refine wpL_q (U := NoB) rfl (q_fieldAddr rfl Try.underlying37 rfl Try.sizeOf22 a90_4) ?_
    refine wpL_q (U := NoB) rfl (q_loadBlk rfl rfl Try.isAgg22 (hS89.blk 0 rfl) rfl (fun h => h)) ?_
    refine wpL_q (U := NoB) rfl (q_move (v := I ((u : Int))) rfl a90_5) ?_
    refine wpL_o rfl ?_
    refine e_call rfl Try.call41 (arr2 (v0 := u48n2) (v1 := I ((u : Int))) rfl rfl) (Has_R u48n2 ((nth q.Acts k).Add) (u : Int) (hS89.rdN 2 rfl) ) ?_
    rintro _ H92 ⟨hxx, rfl⟩
    have hS93 : St H0 NoB NoB [blkE g53 (.cells #[u48n0, u48n1, u48n2, u48n3] 37), rdE u48n3 ((nth q.Acts k).Drop), rdE u48n2 ((nth q.Acts k).Add), rdE u48n1 ((nth q.Acts k).Bar), rdE u48n0 ((nth q.Acts k).Need), blkE g4 (.cells #[I (0), I (0)] 27), blkE g1 (.cells #[I (q.Facts), vf, vg, va] 25), rdE vf q.First, rdE vg q.Goal, rdE va q.Acts] H92 := hS89.ext hxx
    refine wpL_q (U := NoB) rfl (q_move (v := B (hasB ((nth q.Acts k).Add) (u : Int))) rfl rfl) ?_
    by_cases hg95 : (hasB ((nth q.Acts k).Add) (u : Int)) = true
    · have hb96 := Eq.trans rfl (congrArg B hg95)
      refine wpL_gq (U := NoB) rfl rfl rfl hb96 (q_fieldAddr rfl Try.underlying37 rfl Try.sizeOf22 a90_4) ?_
      refine wpL_gq (U := NoB) rfl rfl rfl hb96 (q_loadBlk rfl rfl Try.isAgg22 (hS93.blk 0 rfl) rfl (fun h => h)) ?_
      refine wpL_gq (U := NoB) rfl rfl rfl hb96 (q_move (v := I ((u : Int))) rfl a90_5) ?_
      refine wpL_go rfl rfl rfl hb96 ?_
      refine e_call rfl Try.call41 (arr2 (v0 := u48n3) (v1 := I ((u : Int))) rfl rfl) (Has_R u48n3 ((nth q.Acts k).Drop) (u : Int) (hS93.rdN 1 rfl) ) ?_
      rintro _ H98 ⟨hxx, rfl⟩
      have hS99 : St H0 NoB NoB [blkE g53 (.cells #[u48n0, u48n1, u48n2, u48n3] 37), rdE u48n3 ((nth q.Acts k).Drop), rdE u48n2 ((nth q.Acts k).Add), rdE u48n1 ((nth q.Acts k).Bar), rdE u48n0 ((nth q.Acts k).Need), blkE g4 (.cells #[I (0), I (0)] 27), blkE g1 (.cells #[I (q.Facts), vf, vg, va] 25), rdE vf q.First, rdE vg q.Goal, rdE va q.Acts] H98 := hS93.ext hxx
      refine wpL_q (U := NoB) rfl (q_pickT (v := B (hasB ((nth q.Acts k).Drop) (u : Int))) rfl hb96 rfl) ?_
      refine wpL_q (U := NoB) rfl (q_move (v := B (hasB ((nth q.Acts k).Drop) (u : Int))) rfl rfl) ?_
      by_cases hg101 : (hasB ((nth q.Acts k).Drop) (u : Int)) = true
      · have hb102 := Eq.trans rfl (congrArg B hg101)
        refine wpL_gs rfl rfl rfl hb102 rfl ?_
        refine wpL_gs rfl rfl rfl hb102 rfl ?_
        refine wpL_gs rfl rfl rfl hb102 rfl ?_
        refine wpL_gs rfl rfl rfl hb102 rfl ?_
        refine wpL_gs rfl rfl rfl hb102 rfl ?_
        refine wpL_gs' rfl rfl rfl rfl ?_
        refine wpL_gs' rfl rfl rfl rfl ?_
        refine wpL_gs' rfl rfl rfl rfl ?_
        refine wpL_gs' rfl rfl rfl rfl ?_
        refine wpL_gs rfl rfl rfl hb102 rfl ?_
        refine wpL_q (U := NoB) rfl (q_pickT (v := B (true)) rfl hb102 rfl) ?_
        exact ⟨a90_1, a90_2, a90_3, a90_4, a90_5, (Eq.trans rfl (congrArg B ((decide_eq_true (Or.inl ⟨hg95, hg101⟩)).symm))), hS99⟩
      · have hb103 := Eq.trans rfl (congrArg B (Bool.eq_false_iff.2 hg101))
        refine wpL_gq (U := NoB) rfl rfl rfl hb103 (q_fieldAddr rfl Try.underlying37 rfl Try.sizeOf22 a90_4) ?_
        refine wpL_gq (U := NoB) rfl rfl rfl hb103 (q_loadBlk rfl rfl Try.isAgg22 (hS99.blk 0 rfl) rfl (fun h => h)) ?_
        refine wpL_gq (U := NoB) rfl rfl rfl hb103 (q_move (v := I ((u : Int))) rfl a90_5) ?_
        refine wpL_go rfl rfl rfl hb103 ?_
        refine e_call rfl Try.call41 (arr2 (v0 := u48n0) (v1 := I ((u : Int))) rfl rfl) (Has_R u48n0 ((nth q.Acts k).Need) (u : Int) (hS99.rdN 4 rfl) ) ?_
        rintro _ H104 ⟨hxx, rfl⟩
        have hS105 : St H0 NoB NoB [blkE g53 (.cells #[u48n0, u48n1, u48n2, u48n3] 37), rdE u48n3 ((nth q.Acts k).Drop), rdE u48n2 ((nth q.Acts k).Add), rdE u48n1 ((nth q.Acts k).Bar), rdE u48n0 ((nth q.Acts k).Need), blkE g4 (.cells #[I (0), I (0)] 27), blkE g1 (.cells #[I (q.Facts), vf, vg, va] 25), rdE vf q.First, rdE vg q.Goal, rdE va q.Acts] H104 := hS99.ext hxx
        refine wpL_gq (U := NoB) rfl rfl rfl hb103 (q_move (v := B (hasB ((nth q.Acts k).Need) (u : Int))) rfl rfl) ?_
        by_cases hg107 : (hasB ((nth q.Acts k).Need) (u : Int)) = true
        · have hb108 := Eq.trans rfl (congrArg B hg107)
          refine wpL_gq (U := NoB) rfl rfl rfl hb108 (q_fieldAddr rfl Try.underlying37 rfl Try.sizeOf22 a90_4) ?_
          refine wpL_gq (U := NoB) rfl rfl rfl hb108 (q_loadBlk rfl rfl Try.isAgg22 (hS105.blk 0 rfl) rfl (fun h => h)) ?_
          refine wpL_gq (U := NoB) rfl rfl rfl hb108 (q_move (v := I ((u : Int))) rfl a90_5) ?_
          refine wpL_go rfl rfl rfl hb108 ?_
          refine e_call rfl Try.call41 (arr2 (v0 := u48n1) (v1 := I ((u : Int))) rfl rfl) (Has_R u48n1 ((nth q.Acts k).Bar) (u : Int) (hS105.rdN 3 rfl) ) ?_
          rintro _ H110 ⟨hxx, rfl⟩
          have hS111 : St H0 NoB NoB [blkE g53 (.cells #[u48n0, u48n1, u48n2, u48n3] 37), rdE u48n3 ((nth q.Acts k).Drop), rdE u48n2 ((nth q.Acts k).Add), rdE u48n1 ((nth q.Acts k).Bar), rdE u48n0 ((nth q.Acts k).Need), blkE g4 (.cells #[I (0), I (0)] 27), blkE g1 (.cells #[I (q.Facts), vf, vg, va] 25), rdE vf q.First, rdE vg q.Goal, rdE va q.Acts] H110 := hS105.ext hxx
          refine wpL_gq (U := NoB) rfl rfl rfl hb103 (q_pickT (v := B (hasB ((nth q.Acts k).Bar) (u : Int))) rfl hb108 rfl) ?_
          refine wpL_q (U := NoB) rfl (q_pickF (v := B (hasB ((nth q.Acts k).Bar) (u : Int))) rfl hb103 rfl) ?_
          exact ⟨a90_1, a90_2, a90_3, a90_4, a90_5, (Eq.trans rfl (congrArg B (bool_congr_of ((Iff.rfl).trans (((or_iff_right (fun h => hg101 h.2)).trans ((and_iff_right hg107).trans Iff.rfl))).symm)))), hS111⟩
        · have hb109 := Eq.trans rfl (congrArg B (Bool.eq_false_iff.2 hg107))
          refine wpL_gs rfl rfl rfl hb109 rfl ?_
          refine wpL_gs rfl rfl rfl hb109 rfl ?_
          refine wpL_gs rfl rfl rfl hb109 rfl ?_
          refine wpL_gs rfl rfl rfl hb109 rfl ?_
          refine wpL_gq (U := NoB) rfl rfl rfl hb103 (q_pickF (v := B (false)) rfl hb109 rfl) ?_
          refine wpL_q (U := NoB) rfl (q_pickF (v := B (false)) rfl hb103 rfl) ?_
          exact ⟨a90_1, a90_2, a90_3, a90_4, a90_5, (Eq.trans rfl (congrArg B ((decide_eq_false (not_or.2 ⟨(fun h => hg101 h.2), (fun h => hg107 h.1)⟩)).symm))), hS105⟩
    · have hb97 := Eq.trans rfl (congrArg B (Bool.eq_false_iff.2 hg95))
      refine wpL_gs rfl rfl rfl hb97 rfl ?_
      refine wpL_gs rfl rfl rfl hb97 rfl ?_
      refine wpL_gs rfl rfl rfl hb97 rfl ?_
      refine wpL_gs rfl rfl rfl hb97 rfl ?_
      refine wpL_q (U := NoB) rfl (q_pickF (v := B (false)) rfl hb97 rfl) ?_
      refine wpL_q (U := NoB) rfl (q_move (v := B (false)) rfl rfl) ?_
      refine wpL_gq (U := NoB) rfl rfl rfl rfl (q_fieldAddr rfl Try.underlying37 rfl Try.sizeOf22 a90_4) ?_
      refine wpL_gq (U := NoB) rfl rfl rfl rfl (q_loadBlk rfl rfl Try.isAgg22 (hS93.blk 0 rfl) rfl (fun h => h)) ?_
      refine wpL_gq (U := NoB) rfl rfl rfl rfl (q_move (v := I ((u : Int))) rfl a90_5) ?_
      refine wpL_go rfl rfl rfl rfl ?_
      refine e_call rfl Try.call41 (arr2 (v0 := u48n0) (v1 := I ((u : Int))) rfl rfl) (Has_R u48n0 ((nth q.Acts k).Need) (u : Int) (hS93.rdN 4 rfl) ) ?_
      rintro _ H113 ⟨hxx, rfl⟩
      have hS114 : St H0 NoB NoB [blkE g53 (.cells #[u48n0, u48n1, u48n2, u48n3] 37), rdE u48n3 ((nth q.Acts k).Drop), rdE u48n2 ((nth q.Acts k).Add), rdE u48n1 ((nth q.Acts k).Bar), rdE u48n0 ((nth q.Acts k).Need), blkE g4 (.cells #[I (0), I (0)] 27), blkE g1 (.cells #[I (q.Facts), vf, vg, va] 25), rdE vf q.First, rdE vg q.Goal, rdE va q.Acts] H113 := hS93.ext hxx
      refine wpL_gq (U := NoB) rfl rfl rfl rfl (q_move (v := B (hasB ((nth q.Acts k).Need) (u : Int))) rfl rfl) ?_
      by_cases hg116 : (hasB ((nth q.Acts k).Need) (u : Int)) = true
      · have hb117 := Eq.trans rfl (congrArg B hg116)
        refine wpL_gq (U := NoB) rfl rfl rfl hb117 (q_fieldAddr rfl Try.underlying37 rfl Try.sizeOf22 a90_4) ?_
        refine wpL_gq (U := NoB) rfl rfl rfl hb117 (q_loadBlk rfl rfl Try.isAgg22 (hS114.blk 0 rfl) rfl (fun h => h)) ?_
        refine wpL_gq (U := NoB) rfl rfl rfl hb117 (q_move (v := I ((u : Int))) rfl a90_5) ?_
        refine wpL_go rfl rfl rfl hb117 ?_
        refine e_call rfl Try.call41 (arr2 (v0 := u48n1) (v1 := I ((u : Int))) rfl rfl) (Has_R u48n1 ((nth q.Acts k).Bar) (u : Int) (hS114.rdN 3 rfl) ) ?_
        rintro _ H119 ⟨hxx, rfl⟩
        have hS120 : St H0 NoB NoB [blkE g53 (.cells #[u48n0, u48n1, u48n2, u48n3] 37), rdE u48n3 ((nth q.Acts k).Drop), rdE u48n2 ((nth q.Acts k).Add), rdE u48n1 ((nth q.Acts k).Bar), rdE u48n0 ((nth q.Acts k).Need), blkE g4 (.cells #[I (0), I (0)] 27), blkE g1 (.cells #[I (q.Facts), vf, vg, va] 25), rdE vf q.First, rdE vg q.Goal, rdE va q.Acts] H119 := hS114.ext hxx
        refine wpL_gq (U := NoB) rfl rfl rfl rfl (q_pickT (v := B (hasB ((nth q.Acts k).Bar) (u : Int))) rfl hb117 rfl) ?_
        refine wpL_q (U := NoB) rfl (q_pickF (v := B (hasB ((nth q.Acts k).Bar) (u : Int))) rfl rfl rfl) ?_
        exact ⟨a90_1, a90_2, a90_3, a90_4, a90_5, (Eq.trans rfl (congrArg B (bool_congr_of ((Iff.rfl).trans (((or_iff_right (fun h => hg95 h.1)).trans ((and_iff_right hg116).trans Iff.rfl))).symm)))), hS120⟩
      · have hb118 := Eq.trans rfl (congrArg B (Bool.eq_false_iff.2 hg116))
        refine wpL_gs rfl rfl rfl hb118 rfl ?_
        refine wpL_gs rfl rfl rfl hb118 rfl ?_
        refine wpL_gs rfl rfl rfl hb118 rfl ?_
        refine wpL_gs rfl rfl rfl hb118 rfl ?_
        refine wpL_gq (U := NoB) rfl rfl rfl rfl (q_pickF (v := B (false)) rfl hb118 rfl) ?_
        refine wpL_q (U := NoB) rfl (q_pickF (v := B (false)) rfl rfl rfl) ?_
        exact ⟨a90_1, a90_2, a90_3, a90_4, a90_5, (Eq.trans rfl (congrArg B ((decide_eq_false (not_or.2 ⟨(fun h => hg95 h.1), (fun h => hg116 h.1)⟩)).symm))), hS114⟩
  rintro f122 H122 ⟨a122_1, a122_2, a122_3, a122_4, a122_5, a122_102, hS122⟩
  clear a90_1 a90_2 a90_3 a90_4 a90_5 a90_78
  refine wpF_condP a122_102 (fun h5 => ?t131) (fun h5 => ?e131)
  case e131 =>
    refine wpF_skip ?_
    refine wpF_cut (fun f H => f 1 = PT g1 0 ∧ f 2 = PT g4 0 ∧ f 3 = I ((k : Int)) ∧ f 4 = PT g53 0 ∧ f 5 = I ((u : Int) + 1) ∧ H122 = H) ?_ ?_
    · refine wpF_region ?_
      refine wpL_q (U := NoB) rfl (q_move (v := I ((u : Int))) rfl a122_5) ?_
      refine wpL_q (U := NoB) rfl (q_add rfl rfl rfl (by constructor <;> omega)) ?_
      refine wpL_q (U := NoB) rfl (q_assign (v := I ((u : Int) + 1)) rfl rfl) ?_
      exact ⟨a122_1, a122_2, a122_3, a122_4, rfl, rfl⟩
    rintro f130 _ ⟨a130_1, a130_2, a130_3, a130_4, a130_5, rfl⟩
    clear a122_1 a122_102 a122_2 a122_3 a122_4 a122_5
    refine ⟨_, ?_, u + 1, rfl, (by omega), (all_succ hq h5), a130_1, a130_2, a130_3, a130_4, (Eq.trans a130_5 (congrArg I (by omega))), hS122⟩
    omega
  refine wpF_seq ?_
  refine wpF_cut (fun f H => f 2 = PT g4 0 ∧ St H0 NoB NoB [blkE g4 (.cells #[I (7), I ((k : Int))] 27), blkE g53 (.cells #[u48n0, u48n1, u48n2, u48n3] 37), rdE u48n3 ((nth q.Acts k).Drop), rdE u48n2 ((nth q.Acts k).Add), rdE u48n1 ((nth q.Acts k).Bar), rdE u48n0 ((nth q.Acts k).Need), blkE g1 (.cells #[I (q.Facts), vf, vg, va] 25), rdE vf q.First, rdE vg q.Goal, rdE va q.Acts] H) ?_ ?_
  · refine wpF_region ?_
    refine wpL_q (U := NoB) rfl (q_move (v := I ((k : Int))) rfl a122_3) ?_
    refine wpL_o rfl ?_
    refine e_call rfl Try.call39 (arr2 (v0 := I (7)) (v1 := I ((k : Int))) rfl rfl) (fault_R 7 (k : Int)) ?_
    rintro _ H124 ⟨hxx, rfl⟩
    have hS125 : St H0 NoB NoB [blkE g53 (.cells #[u48n0, u48n1, u48n2, u48n3] 37), rdE u48n3 ((nth q.Acts k).Drop), rdE u48n2 ((nth q.Acts k).Add), rdE u48n1 ((nth q.Acts k).Bar), rdE u48n0 ((nth q.Acts k).Need), blkE g4 (.cells #[I (0), I (0)] 27), blkE g1 (.cells #[I (q.Facts), vf, vg, va] 25), rdE vf q.First, rdE vg q.Goal, rdE va q.Acts] H124 := hS122.ext hxx
    refine wpL_o rfl ?_
    refine e_storeBlkA (cs' := #[I (7), I ((k : Int))]) rfl a122_2 rfl Try.sizeOf27 rfl rfl (List.forall_mem_cons.2 ⟨rfl, List.forall_mem_cons.2 ⟨rfl, List.forall_mem_nil _⟩⟩) (hS125.front 5 rfl) (fun H127 hS128 hxx => ?_)
    replace hS128 : St H0 NoB NoB [blkE g4 (.cells #[I (7), I ((k : Int))] 27), blkE g53 (.cells #[u48n0, u48n1, u48n2, u48n3] 37), rdE u48n3 ((nth q.Acts k).Drop), rdE u48n2 ((nth q.Acts k).Add), rdE u48n1 ((nth q.Acts k).Bar), rdE u48n0 ((nth q.Acts k).Need), blkE g1 (.cells #[I (q.Facts), vf, vg, va] 25), rdE vf q.First, rdE vg q.Goal, rdE va q.Acts] H127 := hS128
    exact ⟨a122_2, hS128⟩
  rintro f129 H129 ⟨a129_2, hS129⟩
  clear a122_1 a122_102 a122_2 a122_3 a122_4 a122_5
  refine wpF_ret ?_
  refine ⟨_, resC a129_2 (loadV_blkA Try.isAgg27 Try.sizeOf27 rfl (hS129.blk 0 rfl)) (resN), hS129.frame, ?_⟩
  show (Value.agg #[I (7), I ((k : Int))]) = Value.agg #[I (questFault q).1, I (questFault q).2]
  have hq := questFault_at (q := q) (by omega) h2 h3 (by omega) hp (actBad_twice (or4_ok h4) (actTwice_at h5))
  rw [hq]

set_option maxRecDepth 100000 in
theorem Bits_L {H0 : Heap} (vl : Value) (l : List Int) (rl : Rd NoB H0 vl l) (hm : ∀ x ∈ l, 0 ≤ x ∧ x < 16) : CallsH Try.prog 44 #[vl] H0 (fun rv_ H' => Ext NoB H0 H' ∧ rv_ = I (((bitsN l : Nat) : Int))) := by
  have hsm := (Rd.list.1 rl).small
  have hS0 : St H0 NoB NoB [rdE vl l] H0 := St.arg (St.start (fun _ h => h.elim)) (Bl0.nil) rl (fun _ h => h)
  refine callsH_of_wpF (args := [vl]) (rs := [.tmp 2]) Try.func44 rfl Try.ntmps44 Try.results44 (by kernel_rfl) (Nat.le_of_ble_eq_true rfl) ?_
  have a0_0 : argF [vl] 0 = vl := rfl
  generalize argF [vl] = f0 at *
  refine wpF_seq ?_
  refine wpF_cut (fun f H => f 0 = vl ∧ H0 = H) ?_ ?_
  · refine wpF_region ?_
    refine wpL_q (U := NoB) rfl (q_assign (v := I (0)) rfl rfl) ?_
    exact ⟨a0_0, rfl⟩
  rintro f1 _ ⟨a1_0, rfl⟩
  clear a0_0
  refine wpF_seq ?_
  refine wpF_cut (fun f H => f 0 = vl ∧ f 3 = I (0) ∧ H0 = H) ?_ ?_
  · refine wpF_region ?_
    refine wpL_q (U := NoB) rfl (q_assign (v := I (0)) rfl rfl) ?_
    exact ⟨a1_0, rfl, rfl⟩
  rintro f2 _ ⟨a2_0, a2_3, rfl⟩
  clear a1_0
  refine wpF_seq ?_
  refine wpF_seq ?_
  refine wpF_cut (fun f H => f 3 = I (0) ∧ f 6 = vl ∧ f 7 = I ((l.length : Int)) ∧ f 8 = I (0) ∧ H0 = H) ?_ ?_
  · refine wpF_region ?_
    refine wpL_q (U := NoB) rfl (q_move (v := vl) rfl a2_0) ?_
    refine wpL_q (U := NoB) rfl (q_lenRd rfl Try.underlying22 rfl (hS0.rdl 0 rfl)) ?_
    refine wpL_q (U := NoB) rfl (q_move (v := I (0)) rfl rfl) ?_
    exact ⟨a2_3, rfl, rfl, rfl, rfl⟩
  rintro f3 _ ⟨a3_3, a3_6, a3_7, a3_8, rfl⟩
  clear a2_0 a2_3
  refine wpF_block ?_
  refine wpF_loop (fun mz f H => ∃ (k : Nat), mz = l.length - k ∧ (k ≤ l.length) ∧ f 3 = I (((bitsN (l.take k) : Nat) : Int)) ∧ f 6 = vl ∧ f 7 = I ((l.length : Int)) ∧ f 8 = I ((k : Int)) ∧ St H0 NoB NoB [rdE vl l] H) (l.length - 0) ?_ ?_
  · exact ⟨0, rfl, Nat.zero_le _, a3_3, a3_6, a3_7, (Eq.trans a3_8 (congrArg I (by omega))), hS0⟩
  intro m4 f4 H4 hI4
  obtain ⟨k, hm4, hk, a4_3, a4_6, a4_7, a4_8, hS4⟩ := hI4
  clear a3_3 a3_6 a3_7 a3_8
  refine wpF_seq ?_
  refine wpF_cut (fun f H => f 3 = I (((bitsN (l.take k) : Nat) : Int)) ∧ f 6 = vl ∧ f 7 = I ((l.length : Int)) ∧ f 8 = I ((k : Int)) ∧ f 9 = B (decide ((k : Int) < (l.length : Int))) ∧ H4 = H) ?_ ?_
  · refine wpF_region ?_
    refine wpL_q (U := NoB) rfl (q_lss rfl a4_8 a4_7) ?_
    exact ⟨a4_3, a4_6, a4_7, a4_8, rfl, rfl⟩
  rintro f5 _ ⟨a5_3, a5_6, a5_7, a5_8, a5_9, rfl⟩
  clear a4_3 a4_6 a4_7 a4_8
  refine wpF_seq ?_
  refine wpF_condP a5_9 (fun hlt => ?t11) (fun hlt => ?e11)
  case e11 =>
    refine wpF_exit ?_
    refine atX_here ?_
    refine wpF_seq ?_
    refine wpF_cut (fun f H => f 2 = I (((bitsN (l.take k) : Nat) : Int)) ∧ H4 = H) ?_ ?_
    · refine wpF_region ?_
      refine wpL_q (U := NoB) rfl (q_move (v := I (((bitsN (l.take k) : Nat) : Int))) rfl a5_3) ?_
      refine wpL_q (U := NoB) rfl (q_assign (v := I (((bitsN (l.take k) : Nat) : Int))) rfl rfl) ?_
      exact ⟨rfl, rfl⟩
    rintro f10 _ ⟨a10_2, rfl⟩
    clear a5_3 a5_6 a5_7 a5_8 a5_9
    refine wpF_ret ?_
    refine ⟨_, resT a10_2 resN, hS4.frame, ?_⟩
    show (I (((bitsN (l.take k) : Nat) : Int))) = I (((bitsN l : Nat) : Int))
    exact congrArg I (by rw [List.take_of_length_le (by omega)])
  have hx := hm _ (nth_mem (l := l) (k := k) (by omega))
  have hb1 := bitsN_lt (l := l.take k) (fun x hx => (hm x (List.mem_of_mem_take hx)).2)
  have hp1 : 2 ^ (nth l k).toNat < 65536 := Nat.pow_lt_pow_right (a := 2) (m := (nth l k).toNat) (n := 16) (by decide) (by omega)
  refine wpF_skip ?_
  refine wpF_seq ?_
  refine wpF_block ?_
  refine wpF_seq ?_
  refine wpF_cut (fun f H => f 3 = I (((bitsN (l.take k) : Nat) : Int)) ∧ f 5 = I (nth l k) ∧ f 6 = vl ∧ f 7 = I ((l.length : Int)) ∧ f 8 = I ((k : Int)) ∧ H4 = H) ?_ ?_
  · refine wpF_region ?_
    refine wpL_q (U := NoB) rfl (q_indexRd (k := k) rfl Try.underlying22 el_Int_3_ActC1 a5_6 a5_8 (hS4.rdl 0 rfl) (by omega) (by omega)) ?_
    refine wpL_q (U := NoB) rfl (q_loadInt (k := k) rfl rfl el_Int_3_ActC1 (hS4.rdl 0 rfl) (by omega) (fun _ h => h)) ?_
    refine wpL_q (U := NoB) rfl (q_assign (v := I (nth l k)) rfl rfl) ?_
    exact ⟨a5_3, rfl, a5_6, a5_7, a5_8, rfl⟩
  rintro f7 _ ⟨a7_3, a7_5, a7_6, a7_7, a7_8, rfl⟩
  clear a5_3 a5_6 a5_7 a5_8 a5_9
  refine wpF_cut (fun f H => f 3 = I ((((bitsN (l.take k)) ||| (2 ^ ((nth l k).toNat)) : Nat) : Int)) ∧ f 6 = vl ∧ f 7 = I ((l.length : Int)) ∧ f 8 = I ((k : Int)) ∧ H4 = H) ?_ ?_
  · refine wpF_region ?_
    refine wpL_q (U := NoB) rfl (q_move (v := I (((bitsN (l.take k) : Nat) : Int))) rfl a7_3) ?_
    refine wpL_q (U := NoB) rfl (q_move (v := I (nth l k)) rfl a7_5) ?_
    refine wpL_q (U := NoB) rfl (q_shl1 rfl rfl rfl (by omega) (by omega)) ?_
    refine wpL_q (U := NoB) rfl (q_orN (a := bitsN (l.take k)) (b := 2 ^ ((nth l k).toNat)) rfl rfl rfl (by first | omega | exact lt62_andNot (by omega) (by omega) | exact lt62_and (by omega) | exact shr_lt (by omega)) (by first | omega | exact lt62_andNot (by omega) (by omega) | exact lt62_and (by omega) | exact shr_lt (by omega))) ?_
    refine wpL_q (U := NoB) rfl (q_assign (v := I ((((bitsN (l.take k)) ||| (2 ^ ((nth l k).toNat)) : Nat) : Int))) rfl rfl) ?_
    exact ⟨rfl, a7_6, a7_7, a7_8, rfl⟩
  rintro f8 _ ⟨a8_3, a8_6, a8_7, a8_8, rfl⟩
  clear a7_3 a7_5 a7_6 a7_7 a7_8
  refine wpF_cut (fun f H => f 3 = I ((((bitsN (l.take k)) ||| (2 ^ ((nth l k).toNat)) : Nat) : Int)) ∧ f 6 = vl ∧ f 7 = I ((l.length : Int)) ∧ f 8 = I ((k : Int) + 1) ∧ H4 = H) ?_ ?_
  · refine wpF_region ?_
    refine wpL_q (U := NoB) rfl (q_add rfl a8_8 rfl (by constructor <;> omega)) ?_
    refine wpL_q (U := NoB) rfl (q_move (v := I ((k : Int) + 1)) rfl rfl) ?_
    exact ⟨a8_3, a8_6, a8_7, rfl, rfl⟩
  rintro f9 _ ⟨a9_3, a9_6, a9_7, a9_8, rfl⟩
  clear a8_3 a8_6 a8_7 a8_8
  refine ⟨_, ?_, k + 1, rfl, (by omega), (Eq.trans a9_3 (congrArg I (congrArg Int.ofNat (bitsN_take (by omega)).symm))), a9_6, a9_7, (Eq.trans a9_8 (congrArg I (by omega))), hS4⟩
  omega

set_option maxRecDepth 100000 in
theorem Apply_L {H0 : Heap} (vn vb vd vp : Value) (a : Act) (s : Nat) {N : Int} (rvn : Rd NoB H0 vn a.Need) (rvb : Rd NoB H0 vb a.Bar) (rvd : Rd NoB H0 vd a.Add) (rvp : Rd NoB H0 vp a.Drop) (ha : actForm N a) (hN : N ≤ 16) (hs : s < 65536) : CallsH Try.prog 45 #[Value.agg #[vn, vb, vd, vp], I (((s : Nat) : Int))] H0 (fun rv_ H' => Ext NoB H0 H' ∧ rv_ = Value.tuple #[I (((if actOk a s then actTo a s else 0) : Nat) : Int), B (decide (actOk a s))]) := by
  have q1 := fun x hx => act_mem ha.1.1.1 hN (x := x) hx
  have q2 := fun x hx => act_mem ha.1.1.2 hN (x := x) hx
  have q3 := fun x hx => act_mem ha.1.2 hN (x := x) hx
  have q4 := fun x hx => act_mem ha.2 hN (x := x) hx
  have b1 := bitsN_lt (fun x hx => (q1 x hx).2)
  have b2 := bitsN_lt (fun x hx => (q2 x hx).2)
  have b3 := bitsN_lt (fun x hx => (q3 x hx).2)
  have b4 := bitsN_lt (fun x hx => (q4 x hx).2)
  have hS0 : St H0 NoB NoB [rdE vn a.Need, rdE vb a.Bar, rdE vd a.Add, rdE vp a.Drop] H0 := St.arg (St.arg (St.arg (St.arg (St.start (fun _ h => h.elim)) (Bl0.nil) rvp (fun _ h => h)) (Bl0.cons (Bl0.nil)) rvd (fun _ h => h)) (Bl0.cons (Bl0.cons (Bl0.nil))) rvb (fun _ h => h)) (Bl0.cons (Bl0.cons (Bl0.cons (Bl0.nil)))) rvn (fun _ h => h)
  refine callsH_of_wpF (args := [Value.agg #[vn, vb, vd, vp], I (((s : Nat) : Int))]) (rs := [.tmp 4, .tmp 5]) Try.func45 rfl Try.ntmps45 Try.results45 (by kernel_rfl) (Nat.le_of_ble_eq_true rfl) ?_
  have a0_0 : argF [Value.agg #[vn, vb, vd, vp], I (((s : Nat) : Int))] 0 = Value.agg #[vn, vb, vd, vp] := rfl
  have a0_1 : argF [Value.agg #[vn, vb, vd, vp], I (((s : Nat) : Int))] 1 = I (((s : Nat) : Int)) := rfl
  generalize argF [Value.agg #[vn, vb, vd, vp], I (((s : Nat) : Int))] = f0 at *
  refine wpF_seq ?_
  refine wpF_cut (fun f H => ∃ (g1 : Nat), f 1 = I (((s : Nat) : Int)) ∧ f 2 = PT g1 0 ∧ St H0 NoB NoB [blkE g1 (.cells #[vn, vb, vd, vp] 37), rdE vn a.Need, rdE vb a.Bar, rdE vd a.Add, rdE vp a.Drop] H) ?_ ?_
  · refine wpF_region ?_
    refine wpL_o rfl ?_
    refine e_box (v := Value.agg #[vn, vb, vd, vp]) rfl a0_0 hS0 (fun g1 H2 hS3 hxx => ?_)
    replace hS3 : St H0 NoB NoB [blkE g1 (.cells #[vn, vb, vd, vp] 37), rdE vn a.Need, rdE vb a.Bar, rdE vd a.Add, rdE vp a.Drop] H2 := hS3
    refine wpL_q (U := NoB) rfl (q_assign (v := I (0)) rfl rfl) ?_
    refine wpL_q (U := NoB) rfl (q_assign (v := B (false)) rfl rfl) ?_
    exact ⟨g1, a0_1, rfl, hS3⟩
  rintro f4 H4 ⟨g1, a4_1, a4_2, hS4⟩
  clear a0_0 a0_1
  refine wpF_seq ?_
  refine wpF_seq ?_
  refine wpF_cut (fun f H => f 1 = I (((s : Nat) : Int)) ∧ f 2 = PT g1 0 ∧ f 22 = B (decide ((((s &&& (bitsN a.Need) : Nat) : Int) ≠ ((bitsN a.Need : Nat) : Int)) ∨ (((s &&& (bitsN a.Bar) : Nat) : Int) ≠ 0))) ∧ St H0 NoB NoB [blkE g1 (.cells #[vn, vb, vd, vp] 37), rdE vn a.Need, rdE vb a.Bar, rdE vd a.Add, rdE vp a.Drop] H) ?_ ?_
  · refine wpF_drawn [] [] (fun _ _ => False) (by kernel_rfl) (by kernel_rfl) ?_
    refine wpR_q 0 (by kernel_rfl) rfl (quietAt rfl rfl (q_move (v := I (((s : Nat) : Int))) rfl a4_1)) ?_
    refine wpR_q 1 (by kernel_rfl) rfl (quietAt rfl rfl (q_fieldAddr rfl Try.underlying37 rfl Try.sizeOf22 a4_2)) ?_
    refine wpR_q 2 (by kernel_rfl) rfl (quietAt rfl rfl (q_loadBlk rfl rfl Try.isAgg22 (hS4.blk 0 rfl) rfl (labU_not [] rfl (List.forall_mem_nil _)))) ?_
    refine wpR_q 5 (by kernel_rfl) rfl (quietAt rfl rfl (q_fieldAddr rfl Try.underlying37 rfl Try.sizeOf22 a4_2)) ?_
    refine wpR_q 6 (by kernel_rfl) rfl (quietAt rfl rfl (q_loadBlk rfl rfl Try.isAgg22 (hS4.blk 0 rfl) rfl (labU_not [] rfl (List.forall_mem_nil _)))) ?_
    refine wpR_n [3] (by kernel_rfl) ?_
    refine List.forall_mem_cons.2 ⟨?_, List.forall_mem_nil _⟩
    refine exE rfl rfl ?_
    refine e_call rfl Try.call44 (arr1 (v0 := vn) rfl) (Bits_L vn a.Need (hS4.rdN 1 rfl) q1) ?_
    rintro _ H5o3 ⟨hxx, rfl⟩
    have hS5o3 : St H0 NoB NoB [blkE g1 (.cells #[vn, vb, vd, vp] 37), rdE vn a.Need, rdE vb a.Bar, rdE vd a.Add, rdE vp a.Drop] H5o3 := hS4.ext hxx
    refine ⟨Ext.mono hxx (fun _ h => h.elim), ?_⟩
    refine wpR_q 4 (by kernel_rfl) rfl (quietAt rfl rfl (q_andN (a := s) (b := bitsN a.Need) rfl rfl rfl (by first | omega | exact lt62_andNot (by omega) (by omega) | exact lt62_and (by omega) | exact shr_lt (by omega)) (by first | omega | exact lt62_andNot (by omega) (by omega) | exact lt62_and (by omega) | exact shr_lt (by omega)))) ?_
    refine wpR_n [7] (by kernel_rfl) ?_
    refine List.forall_mem_cons.2 ⟨?_, List.forall_mem_nil _⟩
    refine exE rfl rfl ?_
    refine e_call rfl Try.call44 (arr1 (v0 := vn) rfl) (Bits_L vn a.Need (hS5o3.rdN 1 rfl) q1) ?_
    rintro _ H5o7 ⟨hxx, rfl⟩
    have hS5o7 : St H0 NoB NoB [blkE g1 (.cells #[vn, vb, vd, vp] 37), rdE vn a.Need, rdE vb a.Bar, rdE vd a.Add, rdE vp a.Drop] H5o7 := hS5o3.ext hxx
    refine ⟨Ext.mono hxx (fun _ h => h.elim), ?_⟩
    refine wpR_q 8 (by kernel_rfl) rfl (quietAt rfl rfl (q_neq rfl rfl rfl)) ?_
    refine wpR_q 9 (by kernel_rfl) rfl (quietAt rfl rfl (q_move (v := B (decide (((s &&& (bitsN a.Need) : Nat) : Int) ≠ ((bitsN a.Need : Nat) : Int)))) rfl rfl)) ?_
    by_cases hg6 : ((s &&& (bitsN a.Need) : Nat) : Int) ≠ ((bitsN a.Need : Nat) : Int)
    · have hb7 := Eq.trans rfl (congrArg B (decide_eq_true hg6))
      refine wpR_q 10 (by kernel_rfl) rfl (quietAt_s rfl rfl rfl rfl hb7 rfl) ?_
      refine wpR_q 11 (by kernel_rfl) rfl (quietAt_s rfl rfl rfl rfl hb7 rfl) ?_
      refine wpR_q 12 (by kernel_rfl) rfl (quietAt_s rfl rfl rfl rfl hb7 rfl) ?_
      refine wpR_q 13 (by kernel_rfl) rfl (quietAt_s rfl rfl rfl rfl hb7 rfl) ?_
      refine wpR_q 14 (by kernel_rfl) rfl (quietAt_s rfl rfl rfl rfl hb7 rfl) ?_
      refine wpR_q 15 (by kernel_rfl) rfl (quietAt_s rfl rfl rfl rfl hb7 rfl) ?_
      refine wpR_q 16 (by kernel_rfl) rfl (quietAt rfl rfl (q_pickT (v := B (true)) rfl hb7 rfl)) ?_
      refine wpR_end (by kernel_rfl) ?_
      exact ⟨a4_1, a4_2, (Eq.trans rfl (congrArg B ((decide_eq_true (Or.inl hg6)).symm))), hS5o7⟩
    · have hb8 := Eq.trans rfl (congrArg B (decide_eq_false hg6))
      refine wpR_q 10 (by kernel_rfl) rfl (quietAt_g rfl rfl rfl rfl hb8 (q_move (v := I (((s : Nat) : Int))) rfl a4_1)) ?_
      refine wpR_q 11 (by kernel_rfl) rfl (quietAt_g rfl rfl rfl rfl hb8 (q_fieldAddr rfl Try.underlying37 rfl Try.sizeOf22 a4_2)) ?_
      refine wpR_q 12 (by kernel_rfl) rfl (quietAt_g rfl rfl rfl rfl hb8 (q_loadBlk rfl rfl Try.isAgg22 (hS5o7.blk 0 rfl) rfl (labU_not [] rfl (List.forall_mem_nil _)))) ?_
      refine wpR_n [13] (by kernel_rfl) ?_
      refine List.forall_mem_cons.2 ⟨?_, List.forall_mem_nil _⟩
      refine exE_g rfl rfl rfl rfl hb8 ?_
      refine e_call rfl Try.call44 (arr1 (v0 := vb) rfl) (Bits_L vb a.Bar (hS5o7.rdN 2 rfl) q2) ?_
      rintro _ H5o13 ⟨hxx, rfl⟩
      have hS5o13 : St H0 NoB NoB [blkE g1 (.cells #[vn, vb, vd, vp] 37), rdE vn a.Need, rdE vb a.Bar, rdE vd a.Add, rdE vp a.Drop] H5o13 := hS5o7.ext hxx
      refine ⟨Ext.mono hxx (fun _ h => h.elim), ?_⟩
      refine wpR_q 14 (by kernel_rfl) rfl (quietAt_g rfl rfl rfl rfl hb8 (q_andN (a := s) (b := bitsN a.Bar) rfl rfl rfl (by first | omega | exact lt62_andNot (by omega) (by omega) | exact lt62_and (by omega) | exact shr_lt (by omega)) (by first | omega | exact lt62_andNot (by omega) (by omega) | exact lt62_and (by omega) | exact shr_lt (by omega)))) ?_
      refine wpR_q 15 (by kernel_rfl) rfl (quietAt_g rfl rfl rfl rfl hb8 (q_neq rfl rfl rfl)) ?_
      refine wpR_q 16 (by kernel_rfl) rfl (quietAt rfl rfl (q_pickF (v := B (decide (((s &&& (bitsN a.Bar) : Nat) : Int) ≠ 0))) rfl hb8 rfl)) ?_
      refine wpR_end (by kernel_rfl) ?_
      exact ⟨a4_1, a4_2, (Eq.trans rfl (congrArg B (decide_congr_of ((Iff.rfl).trans (((or_iff_right hg6).trans Iff.rfl)).symm)))), hS5o13⟩
  rintro f9 H9 ⟨a9_1, a9_2, a9_22, hS9⟩
  clear a4_1 a4_2
  refine wpF_condP a9_22 (fun hno => ?t14) (fun hno => ?e14)
  case t14 =>
    refine wpF_seq ?_
    refine wpF_cut (fun f H => f 4 = I (0) ∧ f 5 = B (false) ∧ H9 = H) ?_ ?_
    · refine wpF_region ?_
      refine wpL_q (U := NoB) rfl (q_assign (v := I (0)) rfl rfl) ?_
      refine wpL_q (U := NoB) rfl (q_assign (v := B (false)) rfl rfl) ?_
      exact ⟨rfl, rfl, rfl⟩
    rintro f11 _ ⟨a11_4, a11_5, rfl⟩
    clear a9_1 a9_2 a9_22
    refine wpF_ret ?_
    refine ⟨_, resT a11_4 (resT a11_5 resN), hS9.frame, ?_⟩
    show (Value.tuple #[I (0), B (false)]) = Value.tuple #[I (((if actOk a s then actTo a s else 0) : Nat) : Int), B (decide (actOk a s))]
    rw [if_neg (act_no hno), decide_eq_false (act_no hno)]; rfl
  refine wpF_skip ?_
  refine wpF_seq ?_
  refine wpF_cut (fun f H => f 4 = I ((((andNotN s (bitsN a.Drop)) ||| (bitsN a.Add) : Nat) : Int)) ∧ f 5 = B (true) ∧ St H0 NoB NoB [blkE g1 (.cells #[vn, vb, vd, vp] 37), rdE vn a.Need, rdE vb a.Bar, rdE vd a.Add, rdE vp a.Drop] H) ?_ ?_
  · refine wpF_drawn [] [] (fun _ _ => False) (by kernel_rfl) (by kernel_rfl) ?_
    refine wpR_q 0 (by kernel_rfl) rfl (quietAt rfl rfl (q_move (v := I (((s : Nat) : Int))) rfl a9_1)) ?_
    refine wpR_q 1 (by kernel_rfl) rfl (quietAt rfl rfl (q_fieldAddr rfl Try.underlying37 rfl Try.sizeOf22 a9_2)) ?_
    refine wpR_q 2 (by kernel_rfl) rfl (quietAt rfl rfl (q_loadBlk rfl rfl Try.isAgg22 (hS9.blk 0 rfl) rfl (labU_not [] rfl (List.forall_mem_nil _)))) ?_
    refine wpR_q 5 (by kernel_rfl) rfl (quietAt rfl rfl (q_fieldAddr rfl Try.underlying37 rfl Try.sizeOf22 a9_2)) ?_
    refine wpR_q 6 (by kernel_rfl) rfl (quietAt rfl rfl (q_loadBlk rfl rfl Try.isAgg22 (hS9.blk 0 rfl) rfl (labU_not [] rfl (List.forall_mem_nil _)))) ?_
    refine wpR_n [3] (by kernel_rfl) ?_
    refine List.forall_mem_cons.2 ⟨?_, List.forall_mem_nil _⟩
    refine exE rfl rfl ?_
    refine e_call rfl Try.call44 (arr1 (v0 := vp) rfl) (Bits_L vp a.Drop (hS9.rdN 4 rfl) q4) ?_
    rintro _ H12o3 ⟨hxx, rfl⟩
    have hS12o3 : St H0 NoB NoB [blkE g1 (.cells #[vn, vb, vd, vp] 37), rdE vn a.Need, rdE vb a.Bar, rdE vd a.Add, rdE vp a.Drop] H12o3 := hS9.ext hxx
    refine ⟨Ext.mono hxx (fun _ h => h.elim), ?_⟩
    refine wpR_q 4 (by kernel_rfl) rfl (quietAt rfl rfl (q_andNotN (a := s) (b := bitsN a.Drop) rfl rfl rfl (by first | omega | exact lt62_andNot (by omega) (by omega) | exact lt62_and (by omega) | exact shr_lt (by omega)) (by first | omega | exact lt62_andNot (by omega) (by omega) | exact lt62_and (by omega) | exact shr_lt (by omega)))) ?_
    refine wpR_n [7] (by kernel_rfl) ?_
    refine List.forall_mem_cons.2 ⟨?_, List.forall_mem_nil _⟩
    refine exE rfl rfl ?_
    refine e_call rfl Try.call44 (arr1 (v0 := vd) rfl) (Bits_L vd a.Add (hS12o3.rdN 3 rfl) q3) ?_
    rintro _ H12o7 ⟨hxx, rfl⟩
    have hS12o7 : St H0 NoB NoB [blkE g1 (.cells #[vn, vb, vd, vp] 37), rdE vn a.Need, rdE vb a.Bar, rdE vd a.Add, rdE vp a.Drop] H12o7 := hS12o3.ext hxx
    refine ⟨Ext.mono hxx (fun _ h => h.elim), ?_⟩
    refine wpR_q 8 (by kernel_rfl) rfl (quietAt rfl rfl (q_orN (a := andNotN s (bitsN a.Drop)) (b := bitsN a.Add) rfl rfl rfl (by first | omega | exact lt62_andNot (by omega) (by omega) | exact lt62_and (by omega) | exact shr_lt (by omega)) (by first | omega | exact lt62_andNot (by omega) (by omega) | exact lt62_and (by omega) | exact shr_lt (by omega)))) ?_
    refine wpR_q 9 (by kernel_rfl) rfl (quietAt rfl rfl (q_assign (v := I ((((andNotN s (bitsN a.Drop)) ||| (bitsN a.Add) : Nat) : Int))) rfl rfl)) ?_
    refine wpR_q 10 (by kernel_rfl) rfl (quietAt rfl rfl (q_assign (v := B (true)) rfl rfl)) ?_
    refine wpR_end (by kernel_rfl) ?_
    exact ⟨rfl, rfl, hS12o7⟩
  rintro f13 H13 ⟨a13_4, a13_5, hS13⟩
  clear a9_1 a9_2 a9_22
  refine wpF_ret ?_
  refine ⟨_, resT a13_4 (resT a13_5 resN), hS13.frame, ?_⟩
  show (Value.tuple #[I ((((andNotN s (bitsN a.Drop)) ||| (bitsN a.Add) : Nat) : Int)), B (true)]) = Value.tuple #[I (((if actOk a s then actTo a s else 0) : Nat) : Int), B (decide (actOk a s))]
  rw [if_pos (act_yes hno), decide_eq_true (act_yes hno)]; rfl

set_option maxRecDepth 100000 in
theorem First_R {H0 : Heap} {S : Nat → Prop} (vf vg va : Value) (q : Quest) (h6qFacts : In64 q.Facts) (rvf : Rd S H0 vf q.First) (rvg : Rd S H0 vg q.Goal) (rva : Rd S H0 va q.Acts) (hF : 0 ≤ q.Facts ∧ q.Facts ≤ 16) : CallsH Try.prog 16 #[Value.agg #[I (q.Facts), vf, vg, va]] H0 (fun rv_ H' => Ext NoB H0 H' ∧ Rd (fun b => S b ∧ b < H0.size) H' rv_ (firstL q)) := by
  have hS0 : St H0 NoB (fun b => S b ∧ b < H0.size) [rdE vf q.First, rdE vg q.Goal, rdE va q.Acts] H0 := St.arg (St.arg (St.arg (St.start (fun _ h => h.2)) (Bl0.nil) rva (fun _ h => h.1)) (Bl0.cons (Bl0.nil)) rvg (fun _ h => h.1)) (Bl0.cons (Bl0.cons (Bl0.nil))) rvf (fun _ h => h.1)
  refine callsH_of_wpF (args := [Value.agg #[I (q.Facts), vf, vg, va]]) (rs := [.tmp 2]) Try.func16 rfl Try.ntmps16 Try.results16 (by kernel_rfl) (Nat.le_of_ble_eq_true rfl) ?_
  have a0_0 : argF [Value.agg #[I (q.Facts), vf, vg, va]] 0 = Value.agg #[I (q.Facts), vf, vg, va] := rfl
  generalize argF [Value.agg #[I (q.Facts), vf, vg, va]] = f0 at *
  refine wpF_seq ?_
  refine wpF_cut (fun f H => ∃ (g1 : Nat), f 1 = PT g1 0 ∧ St H0 NoB (fun b => S b ∧ b < H0.size) [blkE g1 (.cells #[I (q.Facts), vf, vg, va] 25), rdE vf q.First, rdE vg q.Goal, rdE va q.Acts] H) ?_ ?_
  · refine wpF_region ?_
    refine wpL_o rfl ?_
    refine e_box (v := Value.agg #[I (q.Facts), vf, vg, va]) rfl a0_0 hS0 (fun g1 H2 hS3 hxx => ?_)
    replace hS3 : St H0 NoB (fun b => S b ∧ b < H0.size) [blkE g1 (.cells #[I (q.Facts), vf, vg, va] 25), rdE vf q.First, rdE vg q.Goal, rdE va q.Acts] H2 := hS3
    refine wpL_q (U := NoB) rfl (q_assign (v := (Value.slice none 0 0)) rfl rfl) ?_
    exact ⟨g1, rfl, hS3⟩
  rintro f4 H4 ⟨g1, a4_1, hS4⟩
  clear a0_0
  refine wpF_seq ?_
  refine wpF_cut (fun f H => f 1 = PT g1 0 ∧ f 3 = (Value.slice none 0 0) ∧ H4 = H) ?_ ?_
  · refine wpF_region ?_
    refine wpL_q (U := NoB) rfl (q_assign (v := (Value.slice none 0 0)) rfl rfl) ?_
    exact ⟨a4_1, rfl, rfl⟩
  rintro f5 _ ⟨a5_1, a5_3, rfl⟩
  clear a4_1
  have hS6 : St H0 NoB (fun b => S b ∧ b < H0.size) [rowE 4 (Value.slice none 0 0) ([] : List Bool), blkE g1 (.cells #[I (q.Facts), vf, vg, va] 25), rdE vf q.First, rdE vg q.Goal, rdE va q.Acts] H4 := hS4.row0 4
  refine wpF_seq ?_
  refine wpF_seq ?_
  refine wpF_cut (fun f H => f 1 = PT g1 0 ∧ f 3 = (Value.slice none 0 0) ∧ f 4 = I (0) ∧ H4 = H) ?_ ?_
  · refine wpF_region ?_
    refine wpL_q (U := NoB) rfl (q_assign (v := I (0)) rfl rfl) ?_
    exact ⟨a5_1, a5_3, rfl, rfl⟩
  rintro f7 _ ⟨a7_1, a7_3, a7_4, rfl⟩
  clear a5_1 a5_3
  refine wpF_block ?_
  refine wpF_loop (fun mz f H => ∃ (u : Nat), ∃ (vo : Value), mz = q.Facts.toNat - u ∧ (u ≤ q.Facts.toNat) ∧ f 1 = PT g1 0 ∧ f 3 = vo ∧ f 4 = I ((u : Int)) ∧ St H0 NoB (fun b => S b ∧ b < H0.size) [rowE 4 vo ((List.range u).map (fun f => hasB q.First (f : Nat)) : List Bool), blkE g1 (.cells #[I (q.Facts), vf, vg, va] 25), rdE vf q.First, rdE vg q.Goal, rdE va q.Acts] H) (q.Facts.toNat - 0) ?_ ?_
  · exact ⟨0, (Value.slice none 0 0), rfl, Nat.zero_le _, a7_1, a7_3, (Eq.trans a7_4 (congrArg I (by omega))), (show St H0 NoB (fun b => S b ∧ b < H0.size) [rowE 4 (Value.slice none 0 0) ((List.range 0).map (fun f => hasB q.First (f : Nat)) : List Bool), blkE g1 (.cells #[I (q.Facts), vf, vg, va] 25), rdE vf q.First, rdE vg q.Goal, rdE va q.Acts] H4 from hS6)⟩
  intro m8 f8 H8 hI8
  obtain ⟨u, vo, hm8, hf, a8_1, a8_3, a8_4, hS8⟩ := hI8
  clear a7_1 a7_3 a7_4
  refine wpF_seq ?_
  refine wpF_seq ?_
  refine wpF_cut (fun f H => f 1 = PT g1 0 ∧ f 3 = vo ∧ f 4 = I ((u : Int)) ∧ f 8 = B (decide ((u : Int) < q.Facts)) ∧ H8 = H) ?_ ?_
  · refine wpF_region ?_
    refine wpL_q (U := NoB) rfl (q_move (v := I ((u : Int))) rfl a8_4) ?_
    refine wpL_q (U := NoB) rfl (q_fieldAddr rfl Try.underlying25 rfl Try.sizeOf3 a8_1) ?_
    refine wpL_q (U := NoB) rfl (q_loadBlk rfl rfl Try.isAgg3 (hS8.blk 1 rfl) rfl (fun h => h)) ?_
    refine wpL_q (U := NoB) rfl (q_lss rfl rfl rfl) ?_
    exact ⟨a8_1, a8_3, a8_4, rfl, rfl⟩
  rintro f9 _ ⟨a9_1, a9_3, a9_4, a9_8, rfl⟩
  clear a8_1 a8_3 a8_4
  refine wpF_condP a9_8 (fun hlt => ?t27) (fun hlt => ?e27)
  case e27 =>
    refine wpF_exit ?_
    refine atX_here ?_
    refine wpF_seq ?_
    refine wpF_cut (fun f H => f 2 = vo ∧ H8 = H) ?_ ?_
    · refine wpF_region ?_
      refine wpL_q (U := NoB) rfl (q_move (v := vo) rfl a9_3) ?_
      refine wpL_q (U := NoB) rfl (q_assign (v := vo) rfl rfl) ?_
      exact ⟨rfl, rfl⟩
    rintro f25 _ ⟨a25_2, rfl⟩
    clear a9_1 a9_3 a9_4 a9_8
    refine wpF_ret ?_
    refine ⟨_, resT a25_2 resN, hS8.frame, ?_⟩
    show Rd (fun b => S b ∧ b < H0.size) H8 vo (firstL q)
    have hS26 : St H0 NoB (fun b => S b ∧ b < H0.size) [rdE vo ((List.range u).map (fun f => hasB q.First (f : Nat))), blkE g1 (.cells #[I (q.Facts), vf, vg, va] 25), rdE vf q.First, rdE vg q.Goal, rdE va q.Acts] H8 := St.fin hS8
    have hfe : u = q.Facts.toNat := by omega
    rw [firstL, ← hfe]
    exact (hS26.result (hS26.rdS 0 rfl))
  refine wpF_skip ?_
  refine wpF_seq ?_
  refine wpF_block ?_
  refine wpF_cut (fun f H => ∃ (v19 : Value), f 1 = PT g1 0 ∧ f 3 = v19 ∧ f 4 = I ((u : Int)) ∧ St H0 NoB (fun b => S b ∧ b < H0.size) [rowE 4 v19 ((List.range (u + 1)).map (fun f => hasB q.First (f : Nat)) : List Bool), blkE g1 (.cells #[I (q.Facts), vf, vg, va] 25), rdE vf q.First, rdE vg q.Goal, rdE va q.Acts] H) ?_ ?_
  · refine wpF_region ?_
    refine wpL_q (U := NoB) rfl (q_move (v := vo) rfl a9_3) ?_
    refine wpL_q (U := NoB) rfl (q_fieldAddr rfl Try.underlying25 rfl Try.sizeOf22 a9_1) ?_
    refine wpL_q (U := NoB) rfl (q_loadBlk rfl rfl Try.isAgg22 (hS8.blk 1 rfl) rfl (fun h => h)) ?_
    refine wpL_q (U := NoB) rfl (q_move (v := I ((u : Int))) rfl a9_4) ?_
    refine wpL_o rfl ?_
    refine e_call rfl Try.call41 (arr2 (v0 := vf) (v1 := I ((u : Int))) rfl rfl) (Has_R vf q.First (u : Int) (hS8.rdN 2 rfl) ) ?_
    rintro _ H11 ⟨hxx, rfl⟩
    have hS12 : St H0 NoB (fun b => S b ∧ b < H0.size) [rowE 4 vo ((List.range u).map (fun f => hasB q.First (f : Nat)) : List Bool), blkE g1 (.cells #[I (q.Facts), vf, vg, va] 25), rdE vf q.First, rdE vg q.Goal, rdE va q.Acts] H11 := hS8.ext hxx
    refine wpL_o rfl ?_
    refine e_buildSlice (vs := [B (hasB q.First (u : Int))]) (xs := ([hasB q.First (u : Int)] : List Bool)) rfl Try.underlying29 Try.zeroValue4 rfl Try.sizeOf4 (par1 (v0 := B (hasB q.First (u : Int))) rfl) rfl hS12 (RdVs.cons (Rd.bool.2 rfl) (RdVs.nil)) (by decide) (by decide) (fun v14 H15 hS16 hxx hvv14 => ?_)
    replace hS16 : St H0 NoB (fun b => S b ∧ b < H0.size) [rowE 4 v14 ([hasB q.First (u : Int)] : List Bool), rowE 4 vo ((List.range u).map (fun f => hasB q.First (f : Nat)) : List Bool), blkE g1 (.cells #[I (q.Facts), vf, vg, va] 25), rdE vf q.First, rdE vg q.Goal, rdE va q.Acts] H15 := hS16
    have hS17 : St H0 NoB (fun b => S b ∧ b < H0.size) [rdE v14 ([hasB q.First (u : Int)] : List Bool), rowE 4 vo ((List.range u).map (fun f => hasB q.First (f : Nat)) : List Bool), blkE g1 (.cells #[I (q.Facts), vf, vg, va] 25), rdE vf q.First, rdE vg q.Goal, rdE va q.Acts] H15 := St.fin hS16
    have hS18 : St H0 NoB (fun b => S b ∧ b < H0.size) [rowE 4 vo ((List.range u).map (fun f => hasB q.First (f : Nat)) : List Bool), rdE v14 ([hasB q.First (u : Int)] : List Bool), blkE g1 (.cells #[I (q.Facts), vf, vg, va] 25), rdE vf q.First, rdE vg q.Goal, rdE va q.Acts] H15 := (hS17.front 1 rfl)
    refine wpL_o rfl ?_
    refine e_append rfl Try.underlying29 em_Bool_4_ActC1 rfl rfl hS18 (hS18.rdS 1 rfl) (fun _ h => h) (by have hb : GoT.bytes Bool = 1 := rfl; simp [hb]; omega) (by decide) (fun v19 H20 hS21 hxx => ?_)
    replace hS21 : St H0 NoB (fun b => S b ∧ b < H0.size) [rowE 4 v19 (((List.range u).map (fun f => hasB q.First (f : Nat))) ++ ([hasB q.First (u : Int)]) : List Bool), rdE v14 ([hasB q.First (u : Int)] : List Bool), blkE g1 (.cells #[I (q.Facts), vf, vg, va] 25), rdE vf q.First, rdE vg q.Goal, rdE va q.Acts] H20 := hS21
    have hS22 : St H0 NoB (fun b => S b ∧ b < H0.size) [rowE 4 v19 ((List.range (u + 1)).map (fun f => hasB q.First (f : Nat)) : List Bool), rdE v14 ([hasB q.First (u : Int)] : List Bool), blkE g1 (.cells #[I (q.Facts), vf, vg, va] 25), rdE vf q.First, rdE vg q.Goal, rdE va q.Acts] H20 := by rw [show ((List.range (u + 1)).map (fun f => hasB q.First (f : Nat))) = (((List.range u).map (fun f => hasB q.First (f : Nat))) ++ ([hasB q.First (u : Int)])) from (by rw [List.range_succ, List.map_append]; rfl)]; exact hS21
    refine wpL_q (U := NoB) rfl (q_assign (v := v19) rfl rfl) ?_
    exact ⟨v19, a9_1, rfl, a9_4, (hS22.drop (sk (sn (sk (sk (sk (sk (List.Sublist.slnil))))))))⟩
  rintro f23 H23 ⟨v19, a23_1, a23_3, a23_4, hS23⟩
  clear a9_1 a9_3 a9_4 a9_8
  refine wpF_cut (fun f H => f 1 = PT g1 0 ∧ f 3 = v19 ∧ f 4 = I ((u : Int) + 1) ∧ H23 = H) ?_ ?_
  · refine wpF_region ?_
    refine wpL_q (U := NoB) rfl (q_move (v := I ((u : Int))) rfl a23_4) ?_
    refine wpL_q (U := NoB) rfl (q_add rfl rfl rfl (by constructor <;> omega)) ?_
    refine wpL_q (U := NoB) rfl (q_assign (v := I ((u : Int) + 1)) rfl rfl) ?_
    exact ⟨a23_1, a23_3, rfl, rfl⟩
  rintro f24 _ ⟨a24_1, a24_3, a24_4, rfl⟩
  clear a23_1 a23_3 a23_4
  refine ⟨_, ?_, u + 1, v19, rfl, (by omega), a24_1, a24_3, (Eq.trans a24_4 (congrArg I (by omega))), hS23⟩
  omega

set_option maxRecDepth 100000 in
theorem Can_R {H0 : Heap} (vn vb vd vp vw : Value) (a : Act) (now : List Bool) (rvn : Rd NoB H0 vn a.Need) (rvb : Rd NoB H0 vb a.Bar) (rvd : Rd NoB H0 vd a.Add) (rvp : Rd NoB H0 vp a.Drop) (rw : Rd NoB H0 vw now) : CallsH Try.prog 18 #[Value.agg #[vn, vb, vd, vp], vw] H0 (fun rv_ H' => Ext NoB H0 H' ∧ rv_ = B (canA a now)) := by
  have hsm : now.length * 1 ≤ 140737488355328 := (Rd.list.1 rw).bound
  have hS0 : St H0 NoB NoB [rdE vn a.Need, rdE vb a.Bar, rdE vd a.Add, rdE vp a.Drop, rdE vw now] H0 := St.arg (St.arg (St.arg (St.arg (St.arg (St.start (fun _ h => h.elim)) (Bl0.nil) rw (fun _ h => h)) (Bl0.cons (Bl0.nil)) rvp (fun _ h => h)) (Bl0.cons (Bl0.cons (Bl0.nil))) rvd (fun _ h => h)) (Bl0.cons (Bl0.cons (Bl0.cons (Bl0.nil)))) rvb (fun _ h => h)) (Bl0.cons (Bl0.cons (Bl0.cons (Bl0.cons (Bl0.nil))))) rvn (fun _ h => h)
  refine callsH_of_wpF (args := [Value.agg #[vn, vb, vd, vp], vw]) (rs := [.tmp 4]) Try.func18 rfl Try.ntmps18 Try.results18 (by kernel_rfl) (Nat.le_of_ble_eq_true rfl) ?_
  have a0_0 : argF [Value.agg #[vn, vb, vd, vp], vw] 0 = Value.agg #[vn, vb, vd, vp] := rfl
  have a0_1 : argF [Value.agg #[vn, vb, vd, vp], vw] 1 = vw := rfl
  generalize argF [Value.agg #[vn, vb, vd, vp], vw] = f0 at *
  refine wpF_seq ?_
  refine wpF_cut (fun f H => ∃ (g1 : Nat), f 1 = vw ∧ f 2 = PT g1 0 ∧ St H0 NoB NoB [blkE g1 (.cells #[vn, vb, vd, vp] 37), rdE vn a.Need, rdE vb a.Bar, rdE vd a.Add, rdE vp a.Drop, rdE vw now] H) ?_ ?_
  · refine wpF_region ?_
    refine wpL_o rfl ?_
    refine e_box (v := Value.agg #[vn, vb, vd, vp]) rfl a0_0 hS0 (fun g1 H2 hS3 hxx => ?_)
    replace hS3 : St H0 NoB NoB [blkE g1 (.cells #[vn, vb, vd, vp] 37), rdE vn a.Need, rdE vb a.Bar, rdE vd a.Add, rdE vp a.Drop, rdE vw now] H2 := hS3
    refine wpL_q (U := NoB) rfl (q_assign (v := B (false)) rfl rfl) ?_
    exact ⟨g1, a0_1, rfl, hS3⟩
  rintro f4 H4 ⟨g1, a4_1, a4_2, hS4⟩
  clear a0_0 a0_1
  refine wpF_seq ?_
  refine wpF_seq ?_
  refine wpF_cut (fun f H => f 1 = vw ∧ f 2 = PT g1 0 ∧ f 5 = I (0) ∧ H4 = H) ?_ ?_
  · refine wpF_region ?_
    refine wpL_q (U := NoB) rfl (q_assign (v := I (0)) rfl rfl) ?_
    exact ⟨a4_1, a4_2, rfl, rfl⟩
  rintro f5 _ ⟨a5_1, a5_2, a5_5, rfl⟩
  clear a4_1 a4_2
  refine wpF_block ?_
  refine wpF_loop (fun mz f H => ∃ (u : Nat), mz = now.length - u ∧ (u ≤ now.length) ∧ (∀ j, j < u → ¬ canBad a now j) ∧ f 1 = vw ∧ f 2 = PT g1 0 ∧ f 5 = I ((u : Int)) ∧ St H0 NoB NoB [blkE g1 (.cells #[vn, vb, vd, vp] 37), rdE vn a.Need, rdE vb a.Bar, rdE vd a.Add, rdE vp a.Drop, rdE vw now] H) (now.length - 0) ?_ ?_
  · exact ⟨0, rfl, Nat.zero_le _, (fun j hj => absurd hj (Nat.not_lt_zero j)), a5_1, a5_2, (Eq.trans a5_5 (congrArg I (by omega))), hS4⟩
  intro m6 f6 H6 hI6
  obtain ⟨u, hm6, hf, hp, a6_1, a6_2, a6_5, hS6⟩ := hI6
  clear a5_1 a5_2 a5_5
  refine wpF_seq ?_
  refine wpF_seq ?_
  refine wpF_cut (fun f H => f 1 = vw ∧ f 2 = PT g1 0 ∧ f 5 = I ((u : Int)) ∧ f 9 = B (decide ((u : Int) < (now.length : Int))) ∧ H6 = H) ?_ ?_
  · refine wpF_region ?_
    refine wpL_q (U := NoB) rfl (q_move (v := I ((u : Int))) rfl a6_5) ?_
    refine wpL_q (U := NoB) rfl (q_move (v := vw) rfl a6_1) ?_
    refine wpL_q (U := NoB) rfl (q_lenRd rfl Try.underlying29 rfl (hS6.rdl 5 rfl)) ?_
    refine wpL_q (U := NoB) rfl (q_lss rfl rfl rfl) ?_
    exact ⟨a6_1, a6_2, a6_5, rfl, rfl⟩
  rintro f7 _ ⟨a7_1, a7_2, a7_5, a7_9, rfl⟩
  clear a6_1 a6_2 a6_5
  refine wpF_condP a7_9 (fun hlt => ?t36) (fun hlt => ?e36)
  case e36 =>
    refine wpF_exit ?_
    refine atX_here ?_
    refine wpF_seq ?_
    refine wpF_cut (fun f H => f 4 = B (true) ∧ H6 = H) ?_ ?_
    · refine wpF_region ?_
      refine wpL_q (U := NoB) rfl (q_assign (v := B (true)) rfl rfl) ?_
      exact ⟨rfl, rfl⟩
    rintro f35 _ ⟨a35_4, rfl⟩
    clear a7_1 a7_2 a7_5 a7_9
    refine wpF_ret ?_
    refine ⟨_, resT a35_4 resN, hS6.frame, ?_⟩
    show (B (true)) = B (canA a now)
    exact congrArg B (decide_eq_true (fun j hj => hp j (by omega))).symm
  refine wpF_skip ?_
  refine wpF_seq ?_
  refine wpF_block ?_
  refine wpF_seq ?_
  refine wpF_cut (fun f H => f 1 = vw ∧ f 2 = PT g1 0 ∧ f 5 = I ((u : Int)) ∧ f 34 = B (decide ((((hasB a.Need (u : Int)) = true) ∧ ((!(nth now u)) = true)) ∨ (((hasB a.Bar (u : Int)) = true) ∧ ((nth now u) = true)))) ∧ St H0 NoB NoB [blkE g1 (.cells #[vn, vb, vd, vp] 37), rdE vn a.Need, rdE vb a.Bar, rdE vd a.Add, rdE vp a.Drop, rdE vw now] H) ?_ ?_
  · refine wpF_region ?_
    refine wpL_q (U := NoB) rfl (q_fieldAddr rfl Try.underlying37 rfl Try.sizeOf22 a7_2) ?_
    refine wpL_q (U := NoB) rfl (q_loadBlk rfl rfl Try.isAgg22 (hS6.blk 0 rfl) rfl (fun h => h)) ?_
    refine wpL_q (U := NoB) rfl (q_move (v := I ((u : Int))) rfl a7_5) ?_
    refine wpL_o rfl ?_
    refine e_call rfl Try.call41 (arr2 (v0 := vn) (v1 := I ((u : Int))) rfl rfl) (Has_R vn a.Need (u : Int) (hS6.rdN 1 rfl) ) ?_
    rintro _ H9 ⟨hxx, rfl⟩
    have hS10 : St H0 NoB NoB [blkE g1 (.cells #[vn, vb, vd, vp] 37), rdE vn a.Need, rdE vb a.Bar, rdE vd a.Add, rdE vp a.Drop, rdE vw now] H9 := hS6.ext hxx
    refine wpL_q (U := NoB) rfl (q_move (v := B (hasB a.Need (u : Int))) rfl rfl) ?_
    by_cases hg12 : (hasB a.Need (u : Int)) = true
    · have hb13 := Eq.trans rfl (congrArg B hg12)
      refine wpL_gq (U := NoB) rfl rfl rfl hb13 (q_move (v := vw) rfl a7_1) ?_
      refine wpL_gq (U := NoB) rfl rfl rfl hb13 (q_move (v := I ((u : Int))) rfl a7_5) ?_
      refine wpL_gq (U := NoB) rfl rfl rfl hb13 (q_indexRd (k := u) rfl Try.underlying29 el_Bool_4_ActC1 rfl rfl (hS10.rdl 5 rfl) (by omega) (by omega)) ?_
      refine wpL_gq (U := NoB) rfl rfl rfl hb13 (q_loadBool (k := u) rfl rfl el_Bool_4_ActC1 (hS10.rdl 5 rfl) (by omega) (fun _ h => h)) ?_
      refine wpL_gq (U := NoB) rfl rfl rfl hb13 (q_not rfl rfl) ?_
      refine wpL_q (U := NoB) rfl (q_pickT (v := B (!(nth now u))) rfl hb13 rfl) ?_
      refine wpL_q (U := NoB) rfl (q_move (v := B (!(nth now u))) rfl rfl) ?_
      by_cases hg15 : (!(nth now u)) = true
      · have hb16 := Eq.trans rfl (congrArg B hg15)
        refine wpL_gs rfl rfl rfl hb16 rfl ?_
        refine wpL_gs rfl rfl rfl hb16 rfl ?_
        refine wpL_gs rfl rfl rfl hb16 rfl ?_
        refine wpL_gs rfl rfl rfl hb16 rfl ?_
        refine wpL_gs rfl rfl rfl hb16 rfl ?_
        refine wpL_gs' rfl rfl rfl rfl ?_
        refine wpL_gs' rfl rfl rfl rfl ?_
        refine wpL_gs' rfl rfl rfl rfl ?_
        refine wpL_gs' rfl rfl rfl rfl ?_
        refine wpL_gs rfl rfl rfl hb16 rfl ?_
        refine wpL_q (U := NoB) rfl (q_pickT (v := B (true)) rfl hb16 rfl) ?_
        exact ⟨a7_1, a7_2, a7_5, (Eq.trans rfl (congrArg B ((decide_eq_true (Or.inl ⟨hg12, hg15⟩)).symm))), hS10⟩
      · have hb17 := Eq.trans rfl (congrArg B (Bool.eq_false_iff.2 hg15))
        refine wpL_gq (U := NoB) rfl rfl rfl hb17 (q_fieldAddr rfl Try.underlying37 rfl Try.sizeOf22 a7_2) ?_
        refine wpL_gq (U := NoB) rfl rfl rfl hb17 (q_loadBlk rfl rfl Try.isAgg22 (hS10.blk 0 rfl) rfl (fun h => h)) ?_
        refine wpL_gq (U := NoB) rfl rfl rfl hb17 (q_move (v := I ((u : Int))) rfl a7_5) ?_
        refine wpL_go rfl rfl rfl hb17 ?_
        refine e_call rfl Try.call41 (arr2 (v0 := vb) (v1 := I ((u : Int))) rfl rfl) (Has_R vb a.Bar (u : Int) (hS10.rdN 2 rfl) ) ?_
        rintro _ H18 ⟨hxx, rfl⟩
        have hS19 : St H0 NoB NoB [blkE g1 (.cells #[vn, vb, vd, vp] 37), rdE vn a.Need, rdE vb a.Bar, rdE vd a.Add, rdE vp a.Drop, rdE vw now] H18 := hS10.ext hxx
        refine wpL_gq (U := NoB) rfl rfl rfl hb17 (q_move (v := B (hasB a.Bar (u : Int))) rfl rfl) ?_
        by_cases hg21 : (hasB a.Bar (u : Int)) = true
        · have hb22 := Eq.trans rfl (congrArg B hg21)
          refine wpL_gq (U := NoB) rfl rfl rfl hb22 (q_move (v := vw) rfl a7_1) ?_
          refine wpL_gq (U := NoB) rfl rfl rfl hb22 (q_move (v := I ((u : Int))) rfl a7_5) ?_
          refine wpL_gq (U := NoB) rfl rfl rfl hb22 (q_indexRd (k := u) rfl Try.underlying29 el_Bool_4_ActC1 rfl rfl (hS19.rdl 5 rfl) (by omega) (by omega)) ?_
          refine wpL_gq (U := NoB) rfl rfl rfl hb22 (q_loadBool (k := u) rfl rfl el_Bool_4_ActC1 (hS19.rdl 5 rfl) (by omega) (fun _ h => h)) ?_
          refine wpL_gq (U := NoB) rfl rfl rfl hb17 (q_pickT (v := B (nth now u)) rfl hb22 rfl) ?_
          refine wpL_q (U := NoB) rfl (q_pickF (v := B (nth now u)) rfl hb17 rfl) ?_
          exact ⟨a7_1, a7_2, a7_5, (Eq.trans rfl (congrArg B (bool_congr_of ((Iff.rfl).trans (((or_iff_right (fun h => hg15 h.2)).trans ((and_iff_right hg21).trans Iff.rfl))).symm)))), hS19⟩
        · have hb23 := Eq.trans rfl (congrArg B (Bool.eq_false_iff.2 hg21))
          refine wpL_gs rfl rfl rfl hb23 rfl ?_
          refine wpL_gs rfl rfl rfl hb23 rfl ?_
          refine wpL_gs rfl rfl rfl hb23 rfl ?_
          refine wpL_gs rfl rfl rfl hb23 rfl ?_
          refine wpL_gq (U := NoB) rfl rfl rfl hb17 (q_pickF (v := B (false)) rfl hb23 rfl) ?_
          refine wpL_q (U := NoB) rfl (q_pickF (v := B (false)) rfl hb17 rfl) ?_
          exact ⟨a7_1, a7_2, a7_5, (Eq.trans rfl (congrArg B ((decide_eq_false (not_or.2 ⟨(fun h => hg15 h.2), (fun h => hg21 h.1)⟩)).symm))), hS19⟩
    · have hb14 := Eq.trans rfl (congrArg B (Bool.eq_false_iff.2 hg12))
      refine wpL_gs rfl rfl rfl hb14 rfl ?_
      refine wpL_gs rfl rfl rfl hb14 rfl ?_
      refine wpL_gs rfl rfl rfl hb14 rfl ?_
      refine wpL_gs rfl rfl rfl hb14 rfl ?_
      refine wpL_gs rfl rfl rfl hb14 rfl ?_
      refine wpL_q (U := NoB) rfl (q_pickF (v := B (false)) rfl hb14 rfl) ?_
      refine wpL_q (U := NoB) rfl (q_move (v := B (false)) rfl rfl) ?_
      refine wpL_gq (U := NoB) rfl rfl rfl rfl (q_fieldAddr rfl Try.underlying37 rfl Try.sizeOf22 a7_2) ?_
      refine wpL_gq (U := NoB) rfl rfl rfl rfl (q_loadBlk rfl rfl Try.isAgg22 (hS10.blk 0 rfl) rfl (fun h => h)) ?_
      refine wpL_gq (U := NoB) rfl rfl rfl rfl (q_move (v := I ((u : Int))) rfl a7_5) ?_
      refine wpL_go rfl rfl rfl rfl ?_
      refine e_call rfl Try.call41 (arr2 (v0 := vb) (v1 := I ((u : Int))) rfl rfl) (Has_R vb a.Bar (u : Int) (hS10.rdN 2 rfl) ) ?_
      rintro _ H24 ⟨hxx, rfl⟩
      have hS25 : St H0 NoB NoB [blkE g1 (.cells #[vn, vb, vd, vp] 37), rdE vn a.Need, rdE vb a.Bar, rdE vd a.Add, rdE vp a.Drop, rdE vw now] H24 := hS10.ext hxx
      refine wpL_gq (U := NoB) rfl rfl rfl rfl (q_move (v := B (hasB a.Bar (u : Int))) rfl rfl) ?_
      by_cases hg27 : (hasB a.Bar (u : Int)) = true
      · have hb28 := Eq.trans rfl (congrArg B hg27)
        refine wpL_gq (U := NoB) rfl rfl rfl hb28 (q_move (v := vw) rfl a7_1) ?_
        refine wpL_gq (U := NoB) rfl rfl rfl hb28 (q_move (v := I ((u : Int))) rfl a7_5) ?_
        refine wpL_gq (U := NoB) rfl rfl rfl hb28 (q_indexRd (k := u) rfl Try.underlying29 el_Bool_4_ActC1 rfl rfl (hS25.rdl 5 rfl) (by omega) (by omega)) ?_
        refine wpL_gq (U := NoB) rfl rfl rfl hb28 (q_loadBool (k := u) rfl rfl el_Bool_4_ActC1 (hS25.rdl 5 rfl) (by omega) (fun _ h => h)) ?_
        refine wpL_gq (U := NoB) rfl rfl rfl rfl (q_pickT (v := B (nth now u)) rfl hb28 rfl) ?_
        refine wpL_q (U := NoB) rfl (q_pickF (v := B (nth now u)) rfl rfl rfl) ?_
        exact ⟨a7_1, a7_2, a7_5, (Eq.trans rfl (congrArg B (bool_congr_of ((Iff.rfl).trans (((or_iff_right (fun h => hg12 h.1)).trans ((and_iff_right hg27).trans Iff.rfl))).symm)))), hS25⟩
      · have hb29 := Eq.trans rfl (congrArg B (Bool.eq_false_iff.2 hg27))
        refine wpL_gs rfl rfl rfl hb29 rfl ?_
        refine wpL_gs rfl rfl rfl hb29 rfl ?_
        refine wpL_gs rfl rfl rfl hb29 rfl ?_
        refine wpL_gs rfl rfl rfl hb29 rfl ?_
        refine wpL_gq (U := NoB) rfl rfl rfl rfl (q_pickF (v := B (false)) rfl hb29 rfl) ?_
        refine wpL_q (U := NoB) rfl (q_pickF (v := B (false)) rfl rfl rfl) ?_
        exact ⟨a7_1, a7_2, a7_5, (Eq.trans rfl (congrArg B ((decide_eq_false (not_or.2 ⟨(fun h => hg12 h.1), (fun h => hg27 h.1)⟩)).symm))), hS25⟩
  rintro f30 H30 ⟨a30_1, a30_2, a30_5, a30_34, hS30⟩
  clear a7_1 a7_2 a7_5 a7_9
  refine wpF_condP a30_34 (fun hb => ?t34) (fun hb => ?e34)
  case t34 =>
    refine wpF_seq ?_
    refine wpF_cut (fun f H => f 4 = B (false) ∧ H30 = H) ?_ ?_
    · refine wpF_region ?_
      refine wpL_q (U := NoB) rfl (q_assign (v := B (false)) rfl rfl) ?_
      exact ⟨rfl, rfl⟩
    rintro f32 _ ⟨a32_4, rfl⟩
    clear a30_1 a30_2 a30_34 a30_5
    refine wpF_ret ?_
    refine ⟨_, resT a32_4 resN, hS30.frame, ?_⟩
    show (B (false)) = B (canA a now)
    exact congrArg B (decide_eq_false (fun h => h u (by omega) hb)).symm
  refine wpF_skip ?_
  refine wpF_cut (fun f H => f 1 = vw ∧ f 2 = PT g1 0 ∧ f 5 = I ((u : Int) + 1) ∧ H30 = H) ?_ ?_
  · refine wpF_region ?_
    refine wpL_q (U := NoB) rfl (q_move (v := I ((u : Int))) rfl a30_5) ?_
    refine wpL_q (U := NoB) rfl (q_add rfl rfl rfl (by constructor <;> omega)) ?_
    refine wpL_q (U := NoB) rfl (q_assign (v := I ((u : Int) + 1)) rfl rfl) ?_
    exact ⟨a30_1, a30_2, rfl, rfl⟩
  rintro f33 _ ⟨a33_1, a33_2, a33_5, rfl⟩
  clear a30_1 a30_2 a30_34 a30_5
  refine ⟨_, ?_, u + 1, rfl, (by omega), (all_succ hp hb), a33_1, a33_2, (Eq.trans a33_5 (congrArg I (by omega))), hS30⟩
  omega

set_option maxRecDepth 100000 in
theorem After_R {H0 : Heap} {S : Nat → Prop} (vn vb vd vp vw : Value) (a : Act) (now : List Bool) (rvn : Rd S H0 vn a.Need) (rvb : Rd S H0 vb a.Bar) (rvd : Rd S H0 vd a.Add) (rvp : Rd S H0 vp a.Drop) (rw : Rd S H0 vw now) : CallsH Try.prog 19 #[Value.agg #[vn, vb, vd, vp], vw] H0 (fun rv_ H' => Ext NoB H0 H' ∧ Rd (fun b => S b ∧ b < H0.size) H' rv_ (afterA a now)) := by
  have hsm : now.length * 1 ≤ 140737488355328 := (Rd.list.1 rw).bound
  have hS0 : St H0 NoB (fun b => S b ∧ b < H0.size) [rdE vn a.Need, rdE vb a.Bar, rdE vd a.Add, rdE vp a.Drop, rdE vw now] H0 := St.arg (St.arg (St.arg (St.arg (St.arg (St.start (fun _ h => h.2)) (Bl0.nil) rw (fun _ h => h.1)) (Bl0.cons (Bl0.nil)) rvp (fun _ h => h.1)) (Bl0.cons (Bl0.cons (Bl0.nil))) rvd (fun _ h => h.1)) (Bl0.cons (Bl0.cons (Bl0.cons (Bl0.nil)))) rvb (fun _ h => h.1)) (Bl0.cons (Bl0.cons (Bl0.cons (Bl0.cons (Bl0.nil))))) rvn (fun _ h => h.1)
  refine callsH_of_wpF (args := [Value.agg #[vn, vb, vd, vp], vw]) (rs := [.tmp 4]) Try.func19 rfl Try.ntmps19 Try.results19 (by kernel_rfl) (Nat.le_of_ble_eq_true rfl) ?_
  have a0_0 : argF [Value.agg #[vn, vb, vd, vp], vw] 0 = Value.agg #[vn, vb, vd, vp] := rfl
  have a0_1 : argF [Value.agg #[vn, vb, vd, vp], vw] 1 = vw := rfl
  generalize argF [Value.agg #[vn, vb, vd, vp], vw] = f0 at *
  refine wpF_seq ?_
  refine wpF_cut (fun f H => ∃ (g1 : Nat), f 1 = vw ∧ f 2 = PT g1 0 ∧ St H0 NoB (fun b => S b ∧ b < H0.size) [blkE g1 (.cells #[vn, vb, vd, vp] 37), rdE vn a.Need, rdE vb a.Bar, rdE vd a.Add, rdE vp a.Drop, rdE vw now] H) ?_ ?_
  · refine wpF_region ?_
    refine wpL_o rfl ?_
    refine e_box (v := Value.agg #[vn, vb, vd, vp]) rfl a0_0 hS0 (fun g1 H2 hS3 hxx => ?_)
    replace hS3 : St H0 NoB (fun b => S b ∧ b < H0.size) [blkE g1 (.cells #[vn, vb, vd, vp] 37), rdE vn a.Need, rdE vb a.Bar, rdE vd a.Add, rdE vp a.Drop, rdE vw now] H2 := hS3
    refine wpL_q (U := NoB) rfl (q_assign (v := (Value.slice none 0 0)) rfl rfl) ?_
    exact ⟨g1, a0_1, rfl, hS3⟩
  rintro f4 H4 ⟨g1, a4_1, a4_2, hS4⟩
  clear a0_0 a0_1
  refine wpF_seq ?_
  refine wpF_cut (fun f H => f 1 = vw ∧ f 2 = PT g1 0 ∧ f 5 = (Value.slice none 0 0) ∧ H4 = H) ?_ ?_
  · refine wpF_region ?_
    refine wpL_q (U := NoB) rfl (q_assign (v := (Value.slice none 0 0)) rfl rfl) ?_
    exact ⟨a4_1, a4_2, rfl, rfl⟩
  rintro f5 _ ⟨a5_1, a5_2, a5_5, rfl⟩
  clear a4_1 a4_2
  have hS6 : St H0 NoB (fun b => S b ∧ b < H0.size) [rowE 4 (Value.slice none 0 0) ([] : List Bool), blkE g1 (.cells #[vn, vb, vd, vp] 37), rdE vn a.Need, rdE vb a.Bar, rdE vd a.Add, rdE vp a.Drop, rdE vw now] H4 := hS4.row0 4
  refine wpF_seq ?_
  refine wpF_seq ?_
  refine wpF_cut (fun f H => f 1 = vw ∧ f 2 = PT g1 0 ∧ f 5 = (Value.slice none 0 0) ∧ f 6 = I (0) ∧ H4 = H) ?_ ?_
  · refine wpF_region ?_
    refine wpL_q (U := NoB) rfl (q_assign (v := I (0)) rfl rfl) ?_
    exact ⟨a5_1, a5_2, a5_5, rfl, rfl⟩
  rintro f7 _ ⟨a7_1, a7_2, a7_5, a7_6, rfl⟩
  clear a5_1 a5_2 a5_5
  refine wpF_block ?_
  refine wpF_loop (fun mz f H => ∃ (u : Nat), ∃ (vo : Value), mz = now.length - u ∧ (u ≤ now.length) ∧ f 1 = vw ∧ f 2 = PT g1 0 ∧ f 5 = vo ∧ f 6 = I ((u : Int)) ∧ St H0 NoB (fun b => S b ∧ b < H0.size) [rowE 4 vo ((List.range u).map (fun f => decide (hasB a.Add (f : Nat) = true ∨ (nth now f = true ∧ (!hasB a.Drop (f : Nat)) = true))) : List Bool), blkE g1 (.cells #[vn, vb, vd, vp] 37), rdE vn a.Need, rdE vb a.Bar, rdE vd a.Add, rdE vp a.Drop, rdE vw now] H) (now.length - 0) ?_ ?_
  · exact ⟨0, (Value.slice none 0 0), rfl, Nat.zero_le _, a7_1, a7_2, a7_5, (Eq.trans a7_6 (congrArg I (by omega))), (show St H0 NoB (fun b => S b ∧ b < H0.size) [rowE 4 (Value.slice none 0 0) ((List.range 0).map (fun f => decide (hasB a.Add (f : Nat) = true ∨ (nth now f = true ∧ (!hasB a.Drop (f : Nat)) = true))) : List Bool), blkE g1 (.cells #[vn, vb, vd, vp] 37), rdE vn a.Need, rdE vb a.Bar, rdE vd a.Add, rdE vp a.Drop, rdE vw now] H4 from hS6)⟩
  intro m8 f8 H8 hI8
  obtain ⟨u, vo, hm8, hf, a8_1, a8_2, a8_5, a8_6, hS8⟩ := hI8
  clear a7_1 a7_2 a7_5 a7_6
  refine wpF_seq ?_
  refine wpF_seq ?_
  refine wpF_cut (fun f H => f 1 = vw ∧ f 2 = PT g1 0 ∧ f 5 = vo ∧ f 6 = I ((u : Int)) ∧ f 10 = B (decide ((u : Int) < (now.length : Int))) ∧ H8 = H) ?_ ?_
  · refine wpF_region ?_
    refine wpL_q (U := NoB) rfl (q_move (v := I ((u : Int))) rfl a8_6) ?_
    refine wpL_q (U := NoB) rfl (q_move (v := vw) rfl a8_1) ?_
    refine wpL_q (U := NoB) rfl (q_lenRd rfl Try.underlying29 rfl (hS8.rdl 6 rfl)) ?_
    refine wpL_q (U := NoB) rfl (q_lss rfl rfl rfl) ?_
    exact ⟨a8_1, a8_2, a8_5, a8_6, rfl, rfl⟩
  rintro f9 _ ⟨a9_1, a9_2, a9_5, a9_6, a9_10, rfl⟩
  clear a8_1 a8_2 a8_5 a8_6
  refine wpF_condP a9_10 (fun hlt => ?t54) (fun hlt => ?e54)
  case e54 =>
    refine wpF_exit ?_
    refine atX_here ?_
    refine wpF_seq ?_
    refine wpF_cut (fun f H => f 4 = vo ∧ H8 = H) ?_ ?_
    · refine wpF_region ?_
      refine wpL_q (U := NoB) rfl (q_move (v := vo) rfl a9_5) ?_
      refine wpL_q (U := NoB) rfl (q_assign (v := vo) rfl rfl) ?_
      exact ⟨rfl, rfl⟩
    rintro f52 _ ⟨a52_4, rfl⟩
    clear a9_1 a9_10 a9_2 a9_5 a9_6
    refine wpF_ret ?_
    refine ⟨_, resT a52_4 resN, hS8.frame, ?_⟩
    show Rd (fun b => S b ∧ b < H0.size) H8 vo (afterA a now)
    have hS53 : St H0 NoB (fun b => S b ∧ b < H0.size) [rdE vo ((List.range u).map (fun f => decide (hasB a.Add (f : Nat) = true ∨ (nth now f = true ∧ (!hasB a.Drop (f : Nat)) = true)))), blkE g1 (.cells #[vn, vb, vd, vp] 37), rdE vn a.Need, rdE vb a.Bar, rdE vd a.Add, rdE vp a.Drop, rdE vw now] H8 := St.fin hS8
    have hfe : u = now.length := by omega
    rw [afterA, ← hfe]
    exact (hS53.result (hS53.rdS 0 rfl))
  refine wpF_skip ?_
  refine wpF_seq ?_
  refine wpF_block ?_
  refine wpF_cut (fun f H => ∃ (vN : Value), f 1 = vw ∧ f 2 = PT g1 0 ∧ f 5 = vN ∧ f 6 = I ((u : Int)) ∧ St H0 NoB (fun b => S b ∧ b < H0.size) [rowE 4 vN ((List.range (u + 1)).map (fun f => decide (hasB a.Add (f : Nat) = true ∨ (nth now f = true ∧ (!hasB a.Drop (f : Nat)) = true))) : List Bool), blkE g1 (.cells #[vn, vb, vd, vp] 37), rdE vn a.Need, rdE vb a.Bar, rdE vd a.Add, rdE vp a.Drop, rdE vw now] H) ?_ ?_
  · refine wpF_region ?_
    refine wpL_q (U := NoB) rfl (q_move (v := vo) rfl a9_5) ?_
    refine wpL_q (U := NoB) rfl (q_fieldAddr rfl Try.underlying37 rfl Try.sizeOf22 a9_2) ?_
    refine wpL_q (U := NoB) rfl (q_loadBlk rfl rfl Try.isAgg22 (hS8.blk 1 rfl) rfl (fun h => h)) ?_
    refine wpL_q (U := NoB) rfl (q_move (v := I ((u : Int))) rfl a9_6) ?_
    refine wpL_o rfl ?_
    refine e_call rfl Try.call41 (arr2 (v0 := vd) (v1 := I ((u : Int))) rfl rfl) (Has_R vd a.Add (u : Int) (hS8.rdN 4 rfl) ) ?_
    rintro _ H11 ⟨hxx, rfl⟩
    have hS12 : St H0 NoB (fun b => S b ∧ b < H0.size) [rowE 4 vo ((List.range u).map (fun f => decide (hasB a.Add (f : Nat) = true ∨ (nth now f = true ∧ (!hasB a.Drop (f : Nat)) = true))) : List Bool), blkE g1 (.cells #[vn, vb, vd, vp] 37), rdE vn a.Need, rdE vb a.Bar, rdE vd a.Add, rdE vp a.Drop, rdE vw now] H11 := hS8.ext hxx
    refine wpL_q (U := NoB) rfl (q_move (v := B (hasB a.Add (u : Int))) rfl rfl) ?_
    by_cases hg14 : (hasB a.Add (u : Int)) = true
    · have hb15 := Eq.trans rfl (congrArg B hg14)
      refine wpL_gs rfl rfl rfl hb15 rfl ?_
      refine wpL_gs rfl rfl rfl hb15 rfl ?_
      refine wpL_gs rfl rfl rfl hb15 rfl ?_
      refine wpL_gs rfl rfl rfl hb15 rfl ?_
      refine wpL_gs rfl rfl rfl hb15 rfl ?_
      refine wpL_gs' rfl rfl rfl rfl ?_
      refine wpL_gs' rfl rfl rfl rfl ?_
      refine wpL_gs' rfl rfl rfl rfl ?_
      refine wpL_gs' rfl rfl rfl rfl ?_
      refine wpL_gs' rfl rfl rfl rfl ?_
      refine wpL_gs rfl rfl rfl hb15 rfl ?_
      refine wpL_q (U := NoB) rfl (q_pickT (v := B (true)) rfl hb15 rfl) ?_
      refine wpL_o rfl ?_
      refine e_buildSlice (vs := [B (true)]) (xs := ([true] : List Bool)) rfl Try.underlying29 Try.zeroValue4 rfl Try.sizeOf4 (par1 (v0 := B (true)) rfl) rfl hS12 (RdVs.cons (Rd.bool.2 rfl) (RdVs.nil)) (by decide) (by decide) (fun v17 H18 hS19 hxx hvv17 => ?_)
      replace hS19 : St H0 NoB (fun b => S b ∧ b < H0.size) [rowE 4 v17 ([true] : List Bool), rowE 4 vo ((List.range u).map (fun f => decide (hasB a.Add (f : Nat) = true ∨ (nth now f = true ∧ (!hasB a.Drop (f : Nat)) = true))) : List Bool), blkE g1 (.cells #[vn, vb, vd, vp] 37), rdE vn a.Need, rdE vb a.Bar, rdE vd a.Add, rdE vp a.Drop, rdE vw now] H18 := hS19
      have hS20 : St H0 NoB (fun b => S b ∧ b < H0.size) [rdE v17 ([true] : List Bool), rowE 4 vo ((List.range u).map (fun f => decide (hasB a.Add (f : Nat) = true ∨ (nth now f = true ∧ (!hasB a.Drop (f : Nat)) = true))) : List Bool), blkE g1 (.cells #[vn, vb, vd, vp] 37), rdE vn a.Need, rdE vb a.Bar, rdE vd a.Add, rdE vp a.Drop, rdE vw now] H18 := St.fin hS19
      have hS21 : St H0 NoB (fun b => S b ∧ b < H0.size) [rowE 4 vo ((List.range u).map (fun f => decide (hasB a.Add (f : Nat) = true ∨ (nth now f = true ∧ (!hasB a.Drop (f : Nat)) = true))) : List Bool), rdE v17 ([true] : List Bool), blkE g1 (.cells #[vn, vb, vd, vp] 37), rdE vn a.Need, rdE vb a.Bar, rdE vd a.Add, rdE vp a.Drop, rdE vw now] H18 := (hS20.front 1 rfl)
      refine wpL_o rfl ?_
      refine e_append rfl Try.underlying29 em_Bool_4_ActC1 rfl rfl hS21 (hS21.rdS 1 rfl) (fun _ h => h) (by have hb : GoT.bytes Bool = 1 := rfl; simp [hb]; omega) (by decide) (fun v22 H23 hS24 hxx => ?_)
      replace hS24 : St H0 NoB (fun b => S b ∧ b < H0.size) [rowE 4 v22 (((List.range u).map (fun f => decide (hasB a.Add (f : Nat) = true ∨ (nth now f = true ∧ (!hasB a.Drop (f : Nat)) = true)))) ++ ([true]) : List Bool), rdE v17 ([true] : List Bool), blkE g1 (.cells #[vn, vb, vd, vp] 37), rdE vn a.Need, rdE vb a.Bar, rdE vd a.Add, rdE vp a.Drop, rdE vw now] H23 := hS24
      have hS25 : St H0 NoB (fun b => S b ∧ b < H0.size) [rowE 4 v22 ((List.range (u + 1)).map (fun f => decide (hasB a.Add (f : Nat) = true ∨ (nth now f = true ∧ (!hasB a.Drop (f : Nat)) = true))) : List Bool), rdE v17 ([true] : List Bool), blkE g1 (.cells #[vn, vb, vd, vp] 37), rdE vn a.Need, rdE vb a.Bar, rdE vd a.Add, rdE vp a.Drop, rdE vw now] H23 := by rw [show ((List.range (u + 1)).map (fun f => decide (hasB a.Add (f : Nat) = true ∨ (nth now f = true ∧ (!hasB a.Drop (f : Nat)) = true)))) = (((List.range u).map (fun f => decide (hasB a.Add (f : Nat) = true ∨ (nth now f = true ∧ (!hasB a.Drop (f : Nat)) = true)))) ++ ([true])) from (by rw [List.range_succ, List.map_append]; simp [*])]; exact hS24
      refine wpL_q (U := NoB) rfl (q_assign (v := v22) rfl rfl) ?_
      exact ⟨v22, a9_1, a9_2, rfl, a9_6, (hS25.drop (sk (sn (sk (sk (sk (sk (sk (sk (List.Sublist.slnil))))))))))⟩
    · have hb16 := Eq.trans rfl (congrArg B (Bool.eq_false_iff.2 hg14))
      refine wpL_gq (U := NoB) rfl rfl rfl hb16 (q_move (v := vw) rfl a9_1) ?_
      refine wpL_gq (U := NoB) rfl rfl rfl hb16 (q_move (v := I ((u : Int))) rfl a9_6) ?_
      refine wpL_gq (U := NoB) rfl rfl rfl hb16 (q_indexRd (k := u) rfl Try.underlying29 el_Bool_4_ActC1 rfl rfl (hS12.rdl 6 rfl) (by omega) (by omega)) ?_
      refine wpL_gq (U := NoB) rfl rfl rfl hb16 (q_loadBool (k := u) rfl rfl el_Bool_4_ActC1 (hS12.rdl 6 rfl) (by omega) (fun _ h => h)) ?_
      refine wpL_gq (U := NoB) rfl rfl rfl hb16 (q_move (v := B (nth now u)) rfl rfl) ?_
      by_cases hg26 : (nth now u) = true
      · have hb27 := Eq.trans rfl (congrArg B hg26)
        refine wpL_gq (U := NoB) rfl rfl rfl hb27 (q_fieldAddr rfl Try.underlying37 rfl Try.sizeOf22 a9_2) ?_
        refine wpL_gq (U := NoB) rfl rfl rfl hb27 (q_loadBlk rfl rfl Try.isAgg22 (hS12.blk 1 rfl) rfl (fun h => h)) ?_
        refine wpL_gq (U := NoB) rfl rfl rfl hb27 (q_move (v := I ((u : Int))) rfl a9_6) ?_
        refine wpL_go rfl rfl rfl hb27 ?_
        refine e_call rfl Try.call41 (arr2 (v0 := vp) (v1 := I ((u : Int))) rfl rfl) (Has_R vp a.Drop (u : Int) (hS12.rdN 5 rfl) ) ?_
        rintro _ H29 ⟨hxx, rfl⟩
        have hS30 : St H0 NoB (fun b => S b ∧ b < H0.size) [rowE 4 vo ((List.range u).map (fun f => decide (hasB a.Add (f : Nat) = true ∨ (nth now f = true ∧ (!hasB a.Drop (f : Nat)) = true))) : List Bool), blkE g1 (.cells #[vn, vb, vd, vp] 37), rdE vn a.Need, rdE vb a.Bar, rdE vd a.Add, rdE vp a.Drop, rdE vw now] H29 := hS12.ext hxx
        refine wpL_gq (U := NoB) rfl rfl rfl hb27 (q_not rfl rfl) ?_
        refine wpL_gq (U := NoB) rfl rfl rfl hb16 (q_pickT (v := B (!(hasB a.Drop (u : Int)))) rfl hb27 rfl) ?_
        refine wpL_q (U := NoB) rfl (q_pickF (v := B (!(hasB a.Drop (u : Int)))) rfl hb16 rfl) ?_
        refine wpL_o rfl ?_
        refine e_buildSlice (vs := [B (!(hasB a.Drop (u : Int)))]) (xs := ([!(hasB a.Drop (u : Int))] : List Bool)) rfl Try.underlying29 Try.zeroValue4 rfl Try.sizeOf4 (par1 (v0 := B (!(hasB a.Drop (u : Int)))) rfl) rfl hS30 (RdVs.cons (Rd.bool.2 rfl) (RdVs.nil)) (by decide) (by decide) (fun v32 H33 hS34 hxx hvv32 => ?_)
        replace hS34 : St H0 NoB (fun b => S b ∧ b < H0.size) [rowE 4 v32 ([!(hasB a.Drop (u : Int))] : List Bool), rowE 4 vo ((List.range u).map (fun f => decide (hasB a.Add (f : Nat) = true ∨ (nth now f = true ∧ (!hasB a.Drop (f : Nat)) = true))) : List Bool), blkE g1 (.cells #[vn, vb, vd, vp] 37), rdE vn a.Need, rdE vb a.Bar, rdE vd a.Add, rdE vp a.Drop, rdE vw now] H33 := hS34
        have hS35 : St H0 NoB (fun b => S b ∧ b < H0.size) [rdE v32 ([!(hasB a.Drop (u : Int))] : List Bool), rowE 4 vo ((List.range u).map (fun f => decide (hasB a.Add (f : Nat) = true ∨ (nth now f = true ∧ (!hasB a.Drop (f : Nat)) = true))) : List Bool), blkE g1 (.cells #[vn, vb, vd, vp] 37), rdE vn a.Need, rdE vb a.Bar, rdE vd a.Add, rdE vp a.Drop, rdE vw now] H33 := St.fin hS34
        have hS36 : St H0 NoB (fun b => S b ∧ b < H0.size) [rowE 4 vo ((List.range u).map (fun f => decide (hasB a.Add (f : Nat) = true ∨ (nth now f = true ∧ (!hasB a.Drop (f : Nat)) = true))) : List Bool), rdE v32 ([!(hasB a.Drop (u : Int))] : List Bool), blkE g1 (.cells #[vn, vb, vd, vp] 37), rdE vn a.Need, rdE vb a.Bar, rdE vd a.Add, rdE vp a.Drop, rdE vw now] H33 := (hS35.front 1 rfl)
        refine wpL_o rfl ?_
        refine e_append rfl Try.underlying29 em_Bool_4_ActC1 rfl rfl hS36 (hS36.rdS 1 rfl) (fun _ h => h) (by have hb : GoT.bytes Bool = 1 := rfl; simp [hb]; omega) (by decide) (fun v37 H38 hS39 hxx => ?_)
        replace hS39 : St H0 NoB (fun b => S b ∧ b < H0.size) [rowE 4 v37 (((List.range u).map (fun f => decide (hasB a.Add (f : Nat) = true ∨ (nth now f = true ∧ (!hasB a.Drop (f : Nat)) = true)))) ++ ([!(hasB a.Drop (u : Int))]) : List Bool), rdE v32 ([!(hasB a.Drop (u : Int))] : List Bool), blkE g1 (.cells #[vn, vb, vd, vp] 37), rdE vn a.Need, rdE vb a.Bar, rdE vd a.Add, rdE vp a.Drop, rdE vw now] H38 := hS39
        have hS40 : St H0 NoB (fun b => S b ∧ b < H0.size) [rowE 4 v37 ((List.range (u + 1)).map (fun f => decide (hasB a.Add (f : Nat) = true ∨ (nth now f = true ∧ (!hasB a.Drop (f : Nat)) = true))) : List Bool), rdE v32 ([!(hasB a.Drop (u : Int))] : List Bool), blkE g1 (.cells #[vn, vb, vd, vp] 37), rdE vn a.Need, rdE vb a.Bar, rdE vd a.Add, rdE vp a.Drop, rdE vw now] H38 := by rw [show ((List.range (u + 1)).map (fun f => decide (hasB a.Add (f : Nat) = true ∨ (nth now f = true ∧ (!hasB a.Drop (f : Nat)) = true)))) = (((List.range u).map (fun f => decide (hasB a.Add (f : Nat) = true ∨ (nth now f = true ∧ (!hasB a.Drop (f : Nat)) = true)))) ++ ([!(hasB a.Drop (u : Int))])) from (by rw [List.range_succ, List.map_append]; simp [*])]; exact hS39
        refine wpL_q (U := NoB) rfl (q_assign (v := v37) rfl rfl) ?_
        exact ⟨v37, a9_1, a9_2, rfl, a9_6, (hS40.drop (sk (sn (sk (sk (sk (sk (sk (sk (List.Sublist.slnil))))))))))⟩
      · have hb28 := Eq.trans rfl (congrArg B (Bool.eq_false_iff.2 hg26))
        refine wpL_gs rfl rfl rfl hb28 rfl ?_
        refine wpL_gs rfl rfl rfl hb28 rfl ?_
        refine wpL_gs rfl rfl rfl hb28 rfl ?_
        refine wpL_gs rfl rfl rfl hb28 rfl ?_
        refine wpL_gs rfl rfl rfl hb28 rfl ?_
        refine wpL_gq (U := NoB) rfl rfl rfl hb16 (q_pickF (v := B (false)) rfl hb28 rfl) ?_
        refine wpL_q (U := NoB) rfl (q_pickF (v := B (false)) rfl hb16 rfl) ?_
        refine wpL_o rfl ?_
        refine e_buildSlice (vs := [B (false)]) (xs := ([false] : List Bool)) rfl Try.underlying29 Try.zeroValue4 rfl Try.sizeOf4 (par1 (v0 := B (false)) rfl) rfl hS12 (RdVs.cons (Rd.bool.2 rfl) (RdVs.nil)) (by decide) (by decide) (fun v41 H42 hS43 hxx hvv41 => ?_)
        replace hS43 : St H0 NoB (fun b => S b ∧ b < H0.size) [rowE 4 v41 ([false] : List Bool), rowE 4 vo ((List.range u).map (fun f => decide (hasB a.Add (f : Nat) = true ∨ (nth now f = true ∧ (!hasB a.Drop (f : Nat)) = true))) : List Bool), blkE g1 (.cells #[vn, vb, vd, vp] 37), rdE vn a.Need, rdE vb a.Bar, rdE vd a.Add, rdE vp a.Drop, rdE vw now] H42 := hS43
        have hS44 : St H0 NoB (fun b => S b ∧ b < H0.size) [rdE v41 ([false] : List Bool), rowE 4 vo ((List.range u).map (fun f => decide (hasB a.Add (f : Nat) = true ∨ (nth now f = true ∧ (!hasB a.Drop (f : Nat)) = true))) : List Bool), blkE g1 (.cells #[vn, vb, vd, vp] 37), rdE vn a.Need, rdE vb a.Bar, rdE vd a.Add, rdE vp a.Drop, rdE vw now] H42 := St.fin hS43
        have hS45 : St H0 NoB (fun b => S b ∧ b < H0.size) [rowE 4 vo ((List.range u).map (fun f => decide (hasB a.Add (f : Nat) = true ∨ (nth now f = true ∧ (!hasB a.Drop (f : Nat)) = true))) : List Bool), rdE v41 ([false] : List Bool), blkE g1 (.cells #[vn, vb, vd, vp] 37), rdE vn a.Need, rdE vb a.Bar, rdE vd a.Add, rdE vp a.Drop, rdE vw now] H42 := (hS44.front 1 rfl)
        refine wpL_o rfl ?_
        refine e_append rfl Try.underlying29 em_Bool_4_ActC1 rfl rfl hS45 (hS45.rdS 1 rfl) (fun _ h => h) (by have hb : GoT.bytes Bool = 1 := rfl; simp [hb]; omega) (by decide) (fun v46 H47 hS48 hxx => ?_)
        replace hS48 : St H0 NoB (fun b => S b ∧ b < H0.size) [rowE 4 v46 (((List.range u).map (fun f => decide (hasB a.Add (f : Nat) = true ∨ (nth now f = true ∧ (!hasB a.Drop (f : Nat)) = true)))) ++ ([false]) : List Bool), rdE v41 ([false] : List Bool), blkE g1 (.cells #[vn, vb, vd, vp] 37), rdE vn a.Need, rdE vb a.Bar, rdE vd a.Add, rdE vp a.Drop, rdE vw now] H47 := hS48
        have hS49 : St H0 NoB (fun b => S b ∧ b < H0.size) [rowE 4 v46 ((List.range (u + 1)).map (fun f => decide (hasB a.Add (f : Nat) = true ∨ (nth now f = true ∧ (!hasB a.Drop (f : Nat)) = true))) : List Bool), rdE v41 ([false] : List Bool), blkE g1 (.cells #[vn, vb, vd, vp] 37), rdE vn a.Need, rdE vb a.Bar, rdE vd a.Add, rdE vp a.Drop, rdE vw now] H47 := by rw [show ((List.range (u + 1)).map (fun f => decide (hasB a.Add (f : Nat) = true ∨ (nth now f = true ∧ (!hasB a.Drop (f : Nat)) = true)))) = (((List.range u).map (fun f => decide (hasB a.Add (f : Nat) = true ∨ (nth now f = true ∧ (!hasB a.Drop (f : Nat)) = true)))) ++ ([false])) from (by rw [List.range_succ, List.map_append]; simp [*])]; exact hS48
        refine wpL_q (U := NoB) rfl (q_assign (v := v46) rfl rfl) ?_
        exact ⟨v46, a9_1, a9_2, rfl, a9_6, (hS49.drop (sk (sn (sk (sk (sk (sk (sk (sk (List.Sublist.slnil))))))))))⟩
  rintro f50 H50 ⟨vN, a50_1, a50_2, a50_5, a50_6, hS50⟩
  clear a9_1 a9_10 a9_2 a9_5 a9_6
  refine wpF_cut (fun f H => f 1 = vw ∧ f 2 = PT g1 0 ∧ f 5 = vN ∧ f 6 = I ((u : Int) + 1) ∧ H50 = H) ?_ ?_
  · refine wpF_region ?_
    refine wpL_q (U := NoB) rfl (q_move (v := I ((u : Int))) rfl a50_6) ?_
    refine wpL_q (U := NoB) rfl (q_add rfl rfl rfl (by constructor <;> omega)) ?_
    refine wpL_q (U := NoB) rfl (q_assign (v := I ((u : Int) + 1)) rfl rfl) ?_
    exact ⟨a50_1, a50_2, a50_5, rfl, rfl⟩
  rintro f51 _ ⟨a51_1, a51_2, a51_5, a51_6, rfl⟩
  clear a50_1 a50_2 a50_5 a50_6
  refine ⟨_, ?_, u + 1, vN, rfl, (by omega), a51_1, a51_2, a51_5, (Eq.trans a51_6 (congrArg I (by omega))), hS50⟩
  omega

set_option maxRecDepth 100000 in
theorem Goal_R {H0 : Heap} (vf vg va vw : Value) (q : Quest) (now : List Bool) (h6qFacts : In64 q.Facts) (rvf : Rd NoB H0 vf q.First) (rvg : Rd NoB H0 vg q.Goal) (rva : Rd NoB H0 va q.Acts) (rw : Rd NoB H0 vw now) (hg : Rising q.Goal q.Facts) (hl : now.length = q.Facts.toNat) : CallsH Try.prog 21 #[Value.agg #[I (q.Facts), vf, vg, va], vw] H0 (fun rv_ H' => Ext NoB H0 H' ∧ rv_ = B (goalA q now)) := by
  have hsm := (Rd.list.1 rvg).small
  have hS0 : St H0 NoB NoB [rdE vf q.First, rdE vg q.Goal, rdE va q.Acts, rdE vw now] H0 := St.arg (St.arg (St.arg (St.arg (St.start (fun _ h => h.elim)) (Bl0.nil) rw (fun _ h => h)) (Bl0.cons (Bl0.nil)) rva (fun _ h => h)) (Bl0.cons (Bl0.cons (Bl0.nil))) rvg (fun _ h => h)) (Bl0.cons (Bl0.cons (Bl0.cons (Bl0.nil)))) rvf (fun _ h => h)
  refine callsH_of_wpF (args := [Value.agg #[I (q.Facts), vf, vg, va], vw]) (rs := [.tmp 4]) Try.func21 rfl Try.ntmps21 Try.results21 (by kernel_rfl) (Nat.le_of_ble_eq_true rfl) ?_
  have a0_0 : argF [Value.agg #[I (q.Facts), vf, vg, va], vw] 0 = Value.agg #[I (q.Facts), vf, vg, va] := rfl
  have a0_1 : argF [Value.agg #[I (q.Facts), vf, vg, va], vw] 1 = vw := rfl
  generalize argF [Value.agg #[I (q.Facts), vf, vg, va], vw] = f0 at *
  refine wpF_seq ?_
  refine wpF_cut (fun f H => ∃ (g1 : Nat), f 1 = vw ∧ f 2 = PT g1 0 ∧ St H0 NoB NoB [blkE g1 (.cells #[I (q.Facts), vf, vg, va] 25), rdE vf q.First, rdE vg q.Goal, rdE va q.Acts, rdE vw now] H) ?_ ?_
  · refine wpF_region ?_
    refine wpL_o rfl ?_
    refine e_box (v := Value.agg #[I (q.Facts), vf, vg, va]) rfl a0_0 hS0 (fun g1 H2 hS3 hxx => ?_)
    replace hS3 : St H0 NoB NoB [blkE g1 (.cells #[I (q.Facts), vf, vg, va] 25), rdE vf q.First, rdE vg q.Goal, rdE va q.Acts, rdE vw now] H2 := hS3
    refine wpL_q (U := NoB) rfl (q_assign (v := B (false)) rfl rfl) ?_
    exact ⟨g1, a0_1, rfl, hS3⟩
  rintro f4 H4 ⟨g1, a4_1, a4_2, hS4⟩
  clear a0_0 a0_1
  refine wpF_seq ?_
  refine wpF_seq ?_
  refine wpF_cut (fun f H => f 1 = vw ∧ f 2 = PT g1 0 ∧ f 5 = I (0) ∧ H4 = H) ?_ ?_
  · refine wpF_region ?_
    refine wpL_q (U := NoB) rfl (q_assign (v := I (0)) rfl rfl) ?_
    exact ⟨a4_1, a4_2, rfl, rfl⟩
  rintro f5 _ ⟨a5_1, a5_2, a5_5, rfl⟩
  clear a4_1 a4_2
  refine wpF_block ?_
  refine wpF_loop (fun mz f H => ∃ (i : Nat), mz = q.Goal.length - i ∧ (i ≤ q.Goal.length) ∧ (∀ j, j < i → nth now (nth q.Goal j).toNat = true) ∧ f 1 = vw ∧ f 2 = PT g1 0 ∧ f 5 = I ((i : Int)) ∧ St H0 NoB NoB [blkE g1 (.cells #[I (q.Facts), vf, vg, va] 25), rdE vf q.First, rdE vg q.Goal, rdE va q.Acts, rdE vw now] H) (q.Goal.length - 0) ?_ ?_
  · exact ⟨0, rfl, Nat.zero_le _, (fun j hj => absurd hj (Nat.not_lt_zero j)), a5_1, a5_2, (Eq.trans a5_5 (congrArg I (by omega))), hS4⟩
  intro m6 f6 H6 hI6
  obtain ⟨i, hm6, hi, hp, a6_1, a6_2, a6_5, hS6⟩ := hI6
  clear a5_1 a5_2 a5_5
  refine wpF_seq ?_
  refine wpF_seq ?_
  refine wpF_cut (fun f H => f 1 = vw ∧ f 2 = PT g1 0 ∧ f 5 = I ((i : Int)) ∧ f 10 = B (decide ((i : Int) < (q.Goal.length : Int))) ∧ H6 = H) ?_ ?_
  · refine wpF_region ?_
    refine wpL_q (U := NoB) rfl (q_move (v := I ((i : Int))) rfl a6_5) ?_
    refine wpL_q (U := NoB) rfl (q_fieldAddr rfl Try.underlying25 rfl Try.sizeOf22 a6_2) ?_
    refine wpL_q (U := NoB) rfl (q_loadBlk rfl rfl Try.isAgg22 (hS6.blk 0 rfl) rfl (fun h => h)) ?_
    refine wpL_q (U := NoB) rfl (q_lenRd rfl Try.underlying22 rfl (hS6.rdl 2 rfl)) ?_
    refine wpL_q (U := NoB) rfl (q_lss rfl rfl rfl) ?_
    exact ⟨a6_1, a6_2, a6_5, rfl, rfl⟩
  rintro f7 _ ⟨a7_1, a7_2, a7_5, a7_10, rfl⟩
  clear a6_1 a6_2 a6_5
  refine wpF_condP a7_10 (fun hlt => ?t15) (fun hlt => ?e15)
  case e15 =>
    refine wpF_exit ?_
    refine atX_here ?_
    refine wpF_seq ?_
    refine wpF_cut (fun f H => f 4 = B (true) ∧ H6 = H) ?_ ?_
    · refine wpF_region ?_
      refine wpL_q (U := NoB) rfl (q_assign (v := B (true)) rfl rfl) ?_
      exact ⟨rfl, rfl⟩
    rintro f14 _ ⟨a14_4, rfl⟩
    clear a7_1 a7_10 a7_2 a7_5
    refine wpF_ret ?_
    refine ⟨_, resT a14_4 resN, hS6.frame, ?_⟩
    show (B (true)) = B (goalA q now)
    exact congrArg B (decide_eq_true (fun j hj => hp j (by omega))).symm
  have hgi := (hg i (by omega)).1
  refine wpF_skip ?_
  refine wpF_seq ?_
  refine wpF_block ?_
  refine wpF_seq ?_
  refine wpF_cut (fun f H => f 1 = vw ∧ f 2 = PT g1 0 ∧ f 5 = I ((i : Int)) ∧ f 21 = B (!(nth now ((nth q.Goal i).toNat))) ∧ H6 = H) ?_ ?_
  · refine wpF_region ?_
    refine wpL_q (U := NoB) rfl (q_move (v := vw) rfl a7_1) ?_
    refine wpL_q (U := NoB) rfl (q_fieldAddr rfl Try.underlying25 rfl Try.sizeOf22 a7_2) ?_
    refine wpL_q (U := NoB) rfl (q_loadBlk rfl rfl Try.isAgg22 (hS6.blk 0 rfl) rfl (fun h => h)) ?_
    refine wpL_q (U := NoB) rfl (q_move (v := I ((i : Int))) rfl a7_5) ?_
    refine wpL_q (U := NoB) rfl (q_indexRd (k := i) rfl Try.underlying22 el_Int_3_ActC1 rfl rfl (hS6.rdl 2 rfl) (by omega) (by omega)) ?_
    refine wpL_q (U := NoB) rfl (q_loadInt (k := i) rfl rfl el_Int_3_ActC1 (hS6.rdl 2 rfl) (by omega) (fun _ h => h)) ?_
    refine wpL_q (U := NoB) rfl (q_indexRd (k := (nth q.Goal i).toNat) rfl Try.underlying29 el_Bool_4_ActC1 rfl rfl (hS6.rdl 4 rfl) (by omega) (by omega)) ?_
    refine wpL_q (U := NoB) rfl (q_loadBool (k := (nth q.Goal i).toNat) rfl rfl el_Bool_4_ActC1 (hS6.rdl 4 rfl) (by omega) (fun _ h => h)) ?_
    refine wpL_q (U := NoB) rfl (q_not rfl rfl) ?_
    exact ⟨a7_1, a7_2, a7_5, rfl, rfl⟩
  rintro f9 _ ⟨a9_1, a9_2, a9_5, a9_21, rfl⟩
  clear a7_1 a7_10 a7_2 a7_5
  refine wpF_cond a9_21 (fun hb => ?t13) (fun hb => ?e13)
  case t13 =>
    refine wpF_seq ?_
    refine wpF_cut (fun f H => f 4 = B (false) ∧ H6 = H) ?_ ?_
    · refine wpF_region ?_
      refine wpL_q (U := NoB) rfl (q_assign (v := B (false)) rfl rfl) ?_
      exact ⟨rfl, rfl⟩
    rintro f11 _ ⟨a11_4, rfl⟩
    clear a9_1 a9_2 a9_21 a9_5
    refine wpF_ret ?_
    refine ⟨_, resT a11_4 resN, hS6.frame, ?_⟩
    show (B (false)) = B (goalA q now)
    exact congrArg B (decide_eq_false (fun h => by rw [h i (by omega)] at hb; cases hb)).symm
  refine wpF_skip ?_
  refine wpF_cut (fun f H => f 1 = vw ∧ f 2 = PT g1 0 ∧ f 5 = I ((i : Int) + 1) ∧ H6 = H) ?_ ?_
  · refine wpF_region ?_
    refine wpL_q (U := NoB) rfl (q_move (v := I ((i : Int))) rfl a9_5) ?_
    refine wpL_q (U := NoB) rfl (q_add rfl rfl rfl (by constructor <;> omega)) ?_
    refine wpL_q (U := NoB) rfl (q_assign (v := I ((i : Int) + 1)) rfl rfl) ?_
    exact ⟨a9_1, a9_2, rfl, rfl⟩
  rintro f12 _ ⟨a12_1, a12_2, a12_5, rfl⟩
  clear a9_1 a9_2 a9_21 a9_5
  refine ⟨_, ?_, i + 1, rfl, (by omega), (all_succ hp (by simpa using hb)), a12_1, a12_2, (Eq.trans a12_5 (congrArg I (by omega))), hS6⟩
  omega

end Go.Um
