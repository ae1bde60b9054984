import Derived.Test.YtacphjgolmolmaaProg
import Derived.Test.YtacphjgolmolmaaArrC3
import Derived.Test.YtacphjgolmolmaaArrType
import Derived.Test.YtacphjgolmolmaaUmSub
namespace Go.Um
open Go.Proofs
open GoT (sz ag rdc)
open KeyT (kv)

theorem el_Int_3_ArrNone1 : ElT Try.prog Int 3 := ⟨Try.isAgg3, Try.sizeOf3⟩
theorem el_Node_37_ArrNone1 : ElT Try.prog Node 37 := ⟨Try.isAgg37, Try.sizeOf37⟩

set_option maxHeartbeats 4000000 in
set_option maxRecDepth 100000 in
theorem ArrNone_L {H0 : Heap} (vD vN vH : Value) (a : Ask) (rvD : Rd NoB H0 vD a.Decls) (rvN : Rd NoB H0 vN a.Nodes) (rvH : Rd NoB H0 vH a.Hold) : CallsH Try.prog 4 #[Value.agg #[vD, vN, vH]] H0 (fun rv_ H' => Ext NoB H0 H' ∧ rv_ = B true) := by
  have hS0 : St H0 NoB NoB [rdE vD a.Decls, rdE vN a.Nodes, rdE vH a.Hold] H0 := St.arg (St.arg (St.arg (St.start (fun _ h => h.elim)) (Bl0.nil) rvH (fun _ h => h)) (Bl0.cons (Bl0.nil)) rvN (fun _ h => h)) (Bl0.cons (Bl0.cons (Bl0.nil))) rvD (fun _ h => h)
  refine callsH_of_wpF (args := [Value.agg #[vD, vN, vH]]) (rs := [.tmp 2]) Try.func4 rfl Try.ntmps4 Try.results4 (by kernel_rfl) (Nat.le_of_ble_eq_true rfl) ?_
  have a0_0 : argF [Value.agg #[vD, vN, vH]] 0 = Value.agg #[vD, vN, vH] := rfl
  generalize argF [Value.agg #[vD, vN, vH]] = f0 at *
  refine wpF_seq ?_
  refine wpF_cut (fun f H => ∃ (g1 : Nat), f 1 = PT g1 0 ∧ St H0 NoB NoB [blkE g1 (.cells #[vD, vN, vH] 26), rdE vD a.Decls, rdE vN a.Nodes, rdE vH a.Hold] H) ?_ ?_
  · refine wpF_region ?_
    refine wpL_o rfl ?_
    refine e_box (v := Value.agg #[vD, vN, vH]) rfl a0_0 hS0 (fun g1 H2 hS3 hxx => ?_)
    replace hS3 : St H0 NoB NoB [blkE g1 (.cells #[vD, vN, vH] 26), rdE vD a.Decls, rdE vN a.Nodes, rdE vH a.Hold] H2 := hS3
    refine wpL_q (U := NoB) rfl (q_assign (v := B (false)) rfl rfl) ?_
    exact ⟨g1, rfl, hS3⟩
  rintro f4 H4 ⟨g1, a4_1, hS4⟩
  clear a0_0
  refine wpF_seq ?_
  refine wpF_cut (fun f H => f 1 = PT g1 0 ∧ f 3 = B (true) ∧ St H0 NoB NoB [blkE g1 (.cells #[vD, vN, vH] 26), rdE vD a.Decls, rdE vN a.Nodes, rdE vH a.Hold] H) ?_ ?_
  · refine wpF_region ?_
    refine wpL_o rfl ?_
    refine e_call rfl Try.call13 arr0 (arrFact_L) ?_
    rintro _ H5 ⟨hxx, rfl⟩
    have hS6 : St H0 NoB NoB [blkE g1 (.cells #[vD, vN, vH] 26), rdE vD a.Decls, rdE vN a.Nodes, rdE vH a.Hold] H5 := hS4.ext hxx
    refine wpL_q (U := NoB) rfl (q_assign (v := B (true)) rfl rfl) ?_
    exact ⟨a4_1, rfl, hS6⟩
  rintro f8 H8 ⟨a8_1, a8_3, hS8⟩
  clear a4_1
  refine wpF_seq ?_
  refine wpF_seq ?_
  refine wpF_cut (fun f H => f 1 = PT g1 0 ∧ f 11 = B (false) ∧ H8 = H) ?_ ?_
  · refine wpF_region ?_
    refine wpL_q (U := NoB) rfl (q_move (v := B (true)) rfl a8_3) ?_
    refine wpL_q (U := NoB) rfl (q_not rfl rfl) ?_
    exact ⟨a8_1, rfl, rfl⟩
  rintro f9 _ ⟨a9_1, a9_11, rfl⟩
  clear a8_1 a8_3
  refine wpF_condF a9_11 ?_
  refine wpF_skip ?_
  refine wpF_seq ?_
  refine wpF_cut (fun f H => ∃ (r10 : Value), ∃ (r11 : Value), ∃ (r12 : Value), ∃ (g16 : Nat), ∃ (g19 : Nat), f 4 = PT g16 0 ∧ f 5 = PT g19 0 ∧ St H0 NoB NoB [blkE g19 (.cells #[I ((doF a).1), I ((doF a).2)] 28), blkE g16 (.cells #[r10, r11, r12] 26), rdE r10 ((doA a).Decls), rdE r11 ((doA a).Nodes), rdE r12 ((doA a).Hold), blkE g1 (.cells #[vD, vN, vH] 26), rdE vD a.Decls, rdE vN a.Nodes, rdE vH a.Hold] H) ?_ ?_
  · refine wpF_region ?_
    refine wpL_q (U := NoB) rfl (q_loadBlkA rfl a9_1 Try.isAgg26 Try.sizeOf26 rfl (hS8.blk 0 rfl) (fun h => h)) ?_
    refine wpL_o rfl ?_
    refine e_call rfl Try.call6 (arr1 (v0 := Value.agg #[vD, vN, vH]) rfl) (Do_L vD vN vH a (hS8.rdS 1 rfl) (hS8.rdS 2 rfl) (hS8.rdS 3 rfl)) ?_
    rintro _ H13 ⟨hxx, r10, r11, r12, rfl, hrr10, hrr11, hrr12⟩
    have hS14 : St H0 NoB NoB [rdE r10 ((doA a).Decls), rdE r11 ((doA a).Nodes), rdE r12 ((doA a).Hold), blkE g1 (.cells #[vD, vN, vH] 26), rdE vD a.Decls, rdE vN a.Nodes, rdE vH a.Hold] H13 := ((((hS8.ext hxx).rd (hrr12.sub fun b hb => ⟨hb, SL.lt hS8 hb⟩)).rd (hrr11.sub fun b hb => ⟨(SL_rd hb), SL.lt hS8 (SL_rd hb)⟩)).rd (hrr10.sub fun b hb => ⟨(SL_rd (SL_rd hb)), SL.lt hS8 (SL_rd (SL_rd hb))⟩))
    refine wpL_q (U := NoB) rfl (q_move (v := Value.tuple #[Value.agg #[r10, r11, r12], Value.agg #[I ((doF a).1), I ((doF a).2)]]) rfl rfl) ?_
    refine wpL_q (U := NoB) rfl (q_extract (vs := #[Value.agg #[r10, r11, r12], Value.agg #[I ((doF a).1), I ((doF a).2)]]) (v := Value.agg #[r10, r11, r12]) rfl rfl rfl) ?_
    refine wpL_q (U := NoB) rfl (q_extract (vs := #[Value.agg #[r10, r11, r12], Value.agg #[I ((doF a).1), I ((doF a).2)]]) (v := Value.agg #[I ((doF a).1), I ((doF a).2)]) rfl rfl rfl) ?_
    refine wpL_o rfl ?_
    refine e_alloc rfl Try.zeroValue26 hS14 (fun g16 H17 hS18 hxx => ?_)
    replace hS18 : St H0 NoB NoB [blkE g16 (.cells #[(Value.slice none 0 0), (Value.slice none 0 0), (Value.slice none 0 0)] 26), rdE r10 ((doA a).Decls), rdE r11 ((doA a).Nodes), rdE r12 ((doA a).Hold), blkE g1 (.cells #[vD, vN, vH] 26), rdE vD a.Decls, rdE vN a.Nodes, rdE vH a.Hold] H17 := hS18
    refine wpL_o rfl ?_
    refine e_alloc rfl Try.zeroValue28 hS18 (fun g19 H20 hS21 hxx => ?_)
    replace hS21 : St H0 NoB NoB [blkE g19 (.cells #[I (0), I (0)] 28), blkE g16 (.cells #[(Value.slice none 0 0), (Value.slice none 0 0), (Value.slice none 0 0)] 26), rdE r10 ((doA a).Decls), rdE r11 ((doA a).Nodes), rdE r12 ((doA a).Hold), blkE g1 (.cells #[vD, vN, vH] 26), rdE vD a.Decls, rdE vN a.Nodes, rdE vH a.Hold] H20 := hS21
    refine wpL_o rfl ?_
    refine e_storeBlkA (cs' := #[r10, r11, r12]) rfl rfl rfl Try.sizeOf26 rfl rfl (List.forall_mem_cons.2 ⟨(oneCell_rdL (hS21.rdl 2 rfl)), List.forall_mem_cons.2 ⟨(oneCell_rdL (hS21.rdl 3 rfl)), List.forall_mem_cons.2 ⟨(oneCell_rdL (hS21.rdl 4 rfl)), List.forall_mem_nil _⟩⟩⟩) (hS21.front 1 rfl) (fun H22 hS23 hxx => ?_)
    replace hS23 : St H0 NoB NoB [blkE g16 (.cells #[r10, r11, r12] 26), blkE g19 (.cells #[I (0), I (0)] 28), rdE r10 ((doA a).Decls), rdE r11 ((doA a).Nodes), rdE r12 ((doA a).Hold), blkE g1 (.cells #[vD, vN, vH] 26), rdE vD a.Decls, rdE vN a.Nodes, rdE vH a.Hold] H22 := hS23
    refine wpL_o rfl ?_
    refine e_storeBlkA (cs' := #[I ((doF a).1), I ((doF a).2)]) rfl rfl rfl Try.sizeOf28 rfl rfl (List.forall_mem_cons.2 ⟨rfl, List.forall_mem_cons.2 ⟨rfl, List.forall_mem_nil _⟩⟩) (hS23.front 1 rfl) (fun H24 hS25 hxx => ?_)
    replace hS25 : St H0 NoB NoB [blkE g19 (.cells #[I ((doF a).1), I ((doF a).2)] 28), blkE g16 (.cells #[r10, r11, r12] 26), rdE r10 ((doA a).Decls), rdE r11 ((doA a).Nodes), rdE r12 ((doA a).Hold), blkE g1 (.cells #[vD, vN, vH] 26), rdE vD a.Decls, rdE vN a.Nodes, rdE vH a.Hold] H24 := hS25
    exact ⟨r10, r11, r12, g16, g19, rfl, rfl, hS25⟩
  rintro f26 H26 ⟨r10, r11, r12, g16, g19, a26_4, a26_5, hS26⟩
  clear a9_1 a9_11
  refine wpF_seq ?_
  refine wpF_seq ?_
  refine wpF_cut (fun f H => f 4 = PT g16 0 ∧ f 5 = PT g19 0 ∧ f 19 = B (decide (((doF a).1) ≠ 0)) ∧ H26 = H) ?_ ?_
  · refine wpF_region ?_
    refine wpL_q (U := NoB) rfl (q_fieldAddr rfl Try.underlying28 rfl Try.sizeOf3 a26_5) ?_
    refine wpL_q (U := NoB) rfl (q_loadBlk rfl rfl Try.isAgg3 (hS26.blk 0 rfl) rfl (fun h => h)) ?_
    refine wpL_q (U := NoB) rfl (q_neq rfl rfl rfl) ?_
    exact ⟨a26_4, a26_5, rfl, rfl⟩
  rintro f27 _ ⟨a27_4, a27_5, a27_19, rfl⟩
  clear a26_4 a26_5
  refine wpF_condP a27_19 (fun h19 => ?t84) (fun h19 => ?e84)
  case t84 =>
    refine wpF_seq ?_
    refine wpF_cut (fun f H => f 2 = B (decide (blankP (doA a))) ∧ St H0 NoB NoB [blkE g19 (.cells #[I ((doF a).1), I ((doF a).2)] 28), blkE g16 (.cells #[r10, r11, r12] 26), rdE r10 ((doA a).Decls), rdE r11 ((doA a).Nodes), rdE r12 ((doA a).Hold), blkE g1 (.cells #[vD, vN, vH] 26), rdE vD a.Decls, rdE vN a.Nodes, rdE vH a.Hold] H) ?_ ?_
    · refine wpF_region ?_
      refine wpL_q (U := NoB) rfl (q_loadBlkA rfl a27_4 Try.isAgg26 Try.sizeOf26 rfl (hS26.blk 1 rfl) (fun h => h)) ?_
      refine wpL_o rfl ?_
      refine e_call rfl Try.call8 (arr1 (v0 := Value.agg #[r10, r11, r12]) rfl) (blank_L r10 r11 r12 (doA a) (hS26.rdN 2 rfl) (hS26.rdN 3 rfl) (hS26.rdN 4 rfl) ) ?_
      rintro _ H29 ⟨hxx, rfl⟩
      have hS30 : St H0 NoB NoB [blkE g19 (.cells #[I ((doF a).1), I ((doF a).2)] 28), blkE g16 (.cells #[r10, r11, r12] 26), rdE r10 ((doA a).Decls), rdE r11 ((doA a).Nodes), rdE r12 ((doA a).Hold), blkE g1 (.cells #[vD, vN, vH] 26), rdE vD a.Decls, rdE vN a.Nodes, rdE vH a.Hold] H29 := hS26.ext hxx
      refine wpL_q (U := NoB) rfl (q_assign (v := B (decide (blankP (doA a)))) rfl rfl) ?_
      exact ⟨rfl, hS30⟩
    rintro f32 H32 ⟨a32_2, hS32⟩
    clear a27_19 a27_4 a27_5
    refine wpF_ret ?_
    refine ⟨_, resT a32_2 resN, hS32.frame, ?_⟩
    show (B (decide (blankP (doA a)))) = B true
    exact congrArg B (decide_eq_true (blank_doA h19))
  have hz : (doF a).1 = 0 := Decidable.of_not_not h19
  obtain ⟨n1, n2, n3⟩ := none_ok hz
  have hsl : (sorts (doA a)).length = (doA a).Nodes.length := sortsTo_len _
  have hbl := (askOk (a := doA a) (by rw [n1])).many
  refine wpF_skip ?_
  refine wpF_seq ?_
  refine wpF_cut (fun f H => ∃ (r33 : Value), f 4 = PT g16 0 ∧ f 5 = PT g19 0 ∧ f 6 = r33 ∧ St H0 NoB NoB [blkE g19 (.cells #[I (((sortsF (doA a))).1), I (((sortsF (doA a))).2)] 28), rdE r33 (sortsL (doA a)), blkE g16 (.cells #[r10, r11, r12] 26), rdE r10 ((doA a).Decls), rdE r11 ((doA a).Nodes), rdE r12 ((doA a).Hold), blkE g1 (.cells #[vD, vN, vH] 26), rdE vD a.Decls, rdE vN a.Nodes, rdE vH a.Hold] H) ?_ ?_
  · refine wpF_region ?_
    refine wpL_q (U := NoB) rfl (q_loadBlkA rfl a27_4 Try.isAgg26 Try.sizeOf26 rfl (hS26.blk 1 rfl) (fun h => h)) ?_
    refine wpL_o rfl ?_
    refine e_call rfl Try.call7 (arr1 (v0 := Value.agg #[r10, r11, r12]) rfl) (Sorts_L r10 r11 r12 (doA a) (hS26.rdS 2 rfl) (hS26.rdS 3 rfl) (hS26.rdS 4 rfl) ) ?_
    rintro _ H34 ⟨hxx, r33, rfl, hrr33⟩
    have hS35 : St H0 NoB NoB [rdE r33 (sortsL (doA a)), blkE g19 (.cells #[I ((doF a).1), I ((doF a).2)] 28), blkE g16 (.cells #[r10, r11, r12] 26), rdE r10 ((doA a).Decls), rdE r11 ((doA a).Nodes), rdE r12 ((doA a).Hold), blkE g1 (.cells #[vD, vN, vH] 26), rdE vD a.Decls, rdE vN a.Nodes, rdE vH a.Hold] H34 := hS26.res hxx hrr33
    refine wpL_q (U := NoB) rfl (q_move (v := Value.tuple #[r33, Value.agg #[I (((sortsF (doA a))).1), I (((sortsF (doA a))).2)]]) rfl rfl) ?_
    refine wpL_q (U := NoB) rfl (q_extract (vs := #[r33, Value.agg #[I (((sortsF (doA a))).1), I (((sortsF (doA a))).2)]]) (v := r33) rfl rfl rfl) ?_
    refine wpL_q (U := NoB) rfl (q_extract (vs := #[r33, Value.agg #[I (((sortsF (doA a))).1), I (((sortsF (doA a))).2)]]) (v := Value.agg #[I (((sortsF (doA a))).1), I (((sortsF (doA a))).2)]) rfl rfl rfl) ?_
    refine wpL_q (U := NoB) rfl (q_assign (v := r33) rfl rfl) ?_
    refine wpL_o rfl ?_
    refine e_storeBlkA (cs' := #[I (((sortsF (doA a))).1), I (((sortsF (doA a))).2)]) rfl a27_5 rfl Try.sizeOf28 rfl rfl (List.forall_mem_cons.2 ⟨rfl, List.forall_mem_cons.2 ⟨rfl, List.forall_mem_nil _⟩⟩) (hS35.front 1 rfl) (fun H37 hS38 hxx => ?_)
    replace hS38 : St H0 NoB NoB [blkE g19 (.cells #[I (((sortsF (doA a))).1), I (((sortsF (doA a))).2)] 28), rdE r33 (sortsL (doA a)), blkE g16 (.cells #[r10, r11, r12] 26), rdE r10 ((doA a).Decls), rdE r11 ((doA a).Nodes), rdE r12 ((doA a).Hold), blkE g1 (.cells #[vD, vN, vH] 26), rdE vD a.Decls, rdE vN a.Nodes, rdE vH a.Hold] H37 := hS38
    exact ⟨r33, a27_4, a27_5, rfl, hS38⟩
  rintro f39 H39 ⟨r33, a39_4, a39_5, a39_6, hS39⟩
  clear a27_19 a27_4 a27_5
  have hS40 : St H0 NoB NoB [blkE g19 (.cells #[I (((sortsF (doA a))).1), I (((sortsF (doA a))).2)] 28), rdE r33 (sorts (doA a)), blkE g16 (.cells #[r10, r11, r12] 26), rdE r10 ((doA a).Decls), rdE r11 ((doA a).Nodes), rdE r12 ((doA a).Hold), blkE g1 (.cells #[vD, vN, vH] 26), rdE vD a.Decls, rdE vN a.Nodes, rdE vH a.Hold] H39 := by have h__ := hS39; rw [sortsL_eq (a := doA a) (by rw [n1]; decide)] at h__; exact h__
  refine wpF_seq ?_
  refine wpF_seq ?_
  refine wpF_cut (fun f H => f 4 = PT g16 0 ∧ f 5 = PT g19 0 ∧ f 6 = r33 ∧ f 37 = B (decide (((((sortsF (doA a))).1) ≠ 0) ∨ (((sorts (doA a)).length : Int) ≠ (((doA a).Nodes).length : Int)))) ∧ H39 = H) ?_ ?_
  · refine wpF_region ?_
    refine wpL_q (U := NoB) rfl (q_fieldAddr rfl Try.underlying28 rfl Try.sizeOf3 a39_5) ?_
    refine wpL_q (U := NoB) rfl (q_loadBlk rfl rfl Try.isAgg3 (hS40.blk 0 rfl) rfl (fun h => h)) ?_
    refine wpL_q (U := NoB) rfl (q_neq rfl rfl rfl) ?_
    refine wpL_q (U := NoB) rfl (q_move (v := B (decide ((((sortsF (doA a))).1) ≠ 0))) rfl rfl) ?_
    by_cases hg41 : (((sortsF (doA a))).1) ≠ 0
    · have hb42 := Eq.trans rfl (congrArg B (decide_eq_true hg41))
      refine wpL_gs rfl rfl rfl hb42 rfl ?_
      refine wpL_gs rfl rfl rfl hb42 rfl ?_
      refine wpL_gs rfl rfl rfl hb42 rfl ?_
      refine wpL_gs rfl rfl rfl hb42 rfl ?_
      refine wpL_gs rfl rfl rfl hb42 rfl ?_
      refine wpL_gs rfl rfl rfl hb42 rfl ?_
      refine wpL_q (U := NoB) rfl (q_pickT (v := B (true)) rfl hb42 rfl) ?_
      exact ⟨a39_4, a39_5, a39_6, (Eq.trans rfl (congrArg B ((decide_eq_true (Or.inl hg41)).symm))), rfl⟩
    · have hb43 := Eq.trans rfl (congrArg B (decide_eq_false hg41))
      refine wpL_gq (U := NoB) rfl rfl rfl hb43 (q_move (v := r33) rfl a39_6) ?_
      refine wpL_gq (U := NoB) rfl rfl rfl hb43 (q_lenRd rfl Try.underlying24 rfl (hS40.rdl 1 rfl)) ?_
      refine wpL_gq (U := NoB) rfl rfl rfl hb43 (q_fieldAddr rfl Try.underlying26 rfl Try.sizeOf23 a39_4) ?_
      refine wpL_gq (U := NoB) rfl rfl rfl hb43 (q_loadBlk rfl rfl Try.isAgg23 (hS40.blk 2 rfl) rfl (fun h => h)) ?_
      refine wpL_gq (U := NoB) rfl rfl rfl hb43 (q_lenRd rfl Try.underlying23 rfl (hS40.rdl 4 rfl)) ?_
      refine wpL_gq (U := NoB) rfl rfl rfl hb43 (q_neq rfl rfl rfl) ?_
      refine wpL_q (U := NoB) rfl (q_pickF (v := B (decide (((sorts (doA a)).length : Int) ≠ (((doA a).Nodes).length : Int)))) rfl hb43 rfl) ?_
      exact ⟨a39_4, a39_5, a39_6, (Eq.trans rfl (congrArg B (decide_congr_of ((Iff.rfl).trans (((or_iff_right hg41).trans Iff.rfl)).symm)))), rfl⟩
  rintro f44 _ ⟨a44_4, a44_5, a44_6, a44_37, rfl⟩
  clear a39_4 a39_5 a39_6
  refine wpF_condP a44_37 (fun h37 => ?t83) (fun h37 => ?e83)
  case t83 =>
    refine wpF_seq ?_
    refine wpF_cut (fun f H => f 2 = B (false) ∧ H39 = H) ?_ ?_
    · refine wpF_region ?_
      refine wpL_q (U := NoB) rfl (q_assign (v := B (false)) rfl rfl) ?_
      exact ⟨rfl, rfl⟩
    rintro f46 _ ⟨a46_2, rfl⟩
    clear a44_37 a44_4 a44_5 a44_6
    refine wpF_ret ?_
    refine ⟨_, resT a46_2 resN, hS40.frame, ?_⟩
    show (B (false)) = B true
    exact absurd h37 (by simp [n1, hsl])
  refine wpF_skip ?_
  refine wpF_seq ?_
  refine wpF_seq ?_
  refine wpF_cut (fun f H => f 4 = PT g16 0 ∧ f 5 = PT g19 0 ∧ f 6 = r33 ∧ f 7 = I (0) ∧ H39 = H) ?_ ?_
  · refine wpF_region ?_
    refine wpL_q (U := NoB) rfl (q_assign (v := I (0)) rfl rfl) ?_
    exact ⟨a44_4, a44_5, a44_6, rfl, rfl⟩
  rintro f47 _ ⟨a47_4, a47_5, a47_6, a47_7, rfl⟩
  clear a44_37 a44_4 a44_5 a44_6
  refine wpF_block ?_
  refine wpF_loop (fun mz f H => ∃ (u : Nat), mz = (sorts (doA a)).length - u ∧ (u ≤ (sorts (doA a)).length) ∧ f 4 = PT g16 0 ∧ f 5 = PT g19 0 ∧ f 6 = r33 ∧ f 7 = I ((u : Int)) ∧ St H0 NoB NoB [blkE g19 (.cells #[I (((sortsF (doA a))).1), I (((sortsF (doA a))).2)] 28), rdE r33 (sorts (doA a)), blkE g16 (.cells #[r10, r11, r12] 26), rdE r10 ((doA a).Decls), rdE r11 ((doA a).Nodes), rdE r12 ((doA a).Hold), blkE g1 (.cells #[vD, vN, vH] 26), rdE vD a.Decls, rdE vN a.Nodes, rdE vH a.Hold] H) ((sorts (doA a)).length - 0) ?_ ?_
  · exact ⟨0, rfl, Nat.zero_le _, a47_4, a47_5, a47_6, (Eq.trans a47_7 (congrArg I (by omega))), hS40⟩
  intro m48 f48 H48 hI48
  obtain ⟨u, hm48, hu, a48_4, a48_5, a48_6, a48_7, hS48⟩ := hI48
  clear a47_4 a47_5 a47_6 a47_7
  refine wpF_seq ?_
  refine wpF_seq ?_
  refine wpF_cut (fun f H => f 4 = PT g16 0 ∧ f 5 = PT g19 0 ∧ f 6 = r33 ∧ f 7 = I ((u : Int)) ∧ f 41 = B (decide ((u : Int) < ((sorts (doA a)).length : Int))) ∧ H48 = H) ?_ ?_
  · refine wpF_region ?_
    refine wpL_q (U := NoB) rfl (q_move (v := I ((u : Int))) rfl a48_7) ?_
    refine wpL_q (U := NoB) rfl (q_move (v := r33) rfl a48_6) ?_
    refine wpL_q (U := NoB) rfl (q_lenRd rfl Try.underlying24 rfl (hS48.rdl 1 rfl)) ?_
    refine wpL_q (U := NoB) rfl (q_lss rfl rfl rfl) ?_
    exact ⟨a48_4, a48_5, a48_6, a48_7, rfl, rfl⟩
  rintro f49 _ ⟨a49_4, a49_5, a49_6, a49_7, a49_41, rfl⟩
  clear a48_4 a48_5 a48_6 a48_7
  refine wpF_condP a49_41 (fun hlt => ?t82) (fun hlt => ?e82)
  case e82 =>
    refine wpF_exit ?_
    refine atX_here ?_
    refine wpF_seq ?_
    refine wpF_cut (fun f H => ∃ (r64 : Value), ∃ (r65 : Value), ∃ (r66 : Value), ∃ (g70 : Nat), f 4 = PT g16 0 ∧ f 5 = PT g19 0 ∧ f 8 = PT g70 0 ∧ St H0 NoB NoB [blkE g19 (.cells #[I ((doF (doA a)).1), I ((doF (doA a)).2)] 28), blkE g70 (.cells #[r64, r65, r66] 26), rdE r64 ((doA (doA a)).Decls), rdE r65 ((doA (doA a)).Nodes), rdE r66 ((doA (doA a)).Hold), blkE g16 (.cells #[r10, r11, r12] 26), rdE r10 ((doA a).Decls), rdE r11 ((doA a).Nodes), rdE r12 ((doA a).Hold), blkE g1 (.cells #[vD, vN, vH] 26), rdE vD a.Decls, rdE vN a.Nodes, rdE vH a.Hold] H) ?_ ?_
    · refine wpF_region ?_
      refine wpL_q (U := NoB) rfl (q_loadBlkA rfl a49_4 Try.isAgg26 Try.sizeOf26 rfl (hS48.blk 2 rfl) (fun h => h)) ?_
      refine wpL_o rfl ?_
      refine e_call rfl Try.call6 (arr1 (v0 := Value.agg #[r10, r11, r12]) rfl) (Do_L r10 r11 r12 (doA a) (hS48.rdS 3 rfl) (hS48.rdS 4 rfl) (hS48.rdS 5 rfl)) ?_
      rintro _ H67 ⟨hxx, r64, r65, r66, rfl, hrr64, hrr65, hrr66⟩
      have hS68 : St H0 NoB NoB [rdE r64 ((doA (doA a)).Decls), rdE r65 ((doA (doA a)).Nodes), rdE r66 ((doA (doA a)).Hold), blkE g19 (.cells #[I (((sortsF (doA a))).1), I (((sortsF (doA a))).2)] 28), rdE r33 (sorts (doA a)), blkE g16 (.cells #[r10, r11, r12] 26), rdE r10 ((doA a).Decls), rdE r11 ((doA a).Nodes), rdE r12 ((doA a).Hold), blkE g1 (.cells #[vD, vN, vH] 26), rdE vD a.Decls, rdE vN a.Nodes, rdE vH a.Hold] H67 := ((((hS48.ext hxx).rd (hrr66.sub fun b hb => ⟨hb, SL.lt hS48 hb⟩)).rd (hrr65.sub fun b hb => ⟨(SL_rd hb), SL.lt hS48 (SL_rd hb)⟩)).rd (hrr64.sub fun b hb => ⟨(SL_rd (SL_rd hb)), SL.lt hS48 (SL_rd (SL_rd hb))⟩))
      refine wpL_q (U := NoB) rfl (q_move (v := Value.tuple #[Value.agg #[r64, r65, r66], Value.agg #[I ((doF (doA a)).1), I ((doF (doA a)).2)]]) rfl rfl) ?_
      refine wpL_q (U := NoB) rfl (q_extract (vs := #[Value.agg #[r64, r65, r66], Value.agg #[I ((doF (doA a)).1), I ((doF (doA a)).2)]]) (v := Value.agg #[r64, r65, r66]) rfl rfl rfl) ?_
      refine wpL_q (U := NoB) rfl (q_extract (vs := #[Value.agg #[r64, r65, r66], Value.agg #[I ((doF (doA a)).1), I ((doF (doA a)).2)]]) (v := Value.agg #[I ((doF (doA a)).1), I ((doF (doA a)).2)]) rfl rfl rfl) ?_
      refine wpL_o rfl ?_
      refine e_alloc rfl Try.zeroValue26 hS68 (fun g70 H71 hS72 hxx => ?_)
      replace hS72 : St H0 NoB NoB [blkE g70 (.cells #[(Value.slice none 0 0), (Value.slice none 0 0), (Value.slice none 0 0)] 26), rdE r64 ((doA (doA a)).Decls), rdE r65 ((doA (doA a)).Nodes), rdE r66 ((doA (doA a)).Hold), blkE g19 (.cells #[I (((sortsF (doA a))).1), I (((sortsF (doA a))).2)] 28), rdE r33 (sorts (doA a)), blkE g16 (.cells #[r10, r11, r12] 26), rdE r10 ((doA a).Decls), rdE r11 ((doA a).Nodes), rdE r12 ((doA a).Hold), blkE g1 (.cells #[vD, vN, vH] 26), rdE vD a.Decls, rdE vN a.Nodes, rdE vH a.Hold] H71 := hS72
      refine wpL_o rfl ?_
      refine e_storeBlkA (cs' := #[r64, r65, r66]) rfl rfl rfl Try.sizeOf26 rfl rfl (List.forall_mem_cons.2 ⟨(oneCell_rdL (hS72.rdl 1 rfl)), List.forall_mem_cons.2 ⟨(oneCell_rdL (hS72.rdl 2 rfl)), List.forall_mem_cons.2 ⟨(oneCell_rdL (hS72.rdl 3 rfl)), List.forall_mem_nil _⟩⟩⟩) hS72 (fun H73 hS74 hxx => ?_)
      replace hS74 : St H0 NoB NoB [blkE g70 (.cells #[r64, r65, r66] 26), rdE r64 ((doA (doA a)).Decls), rdE r65 ((doA (doA a)).Nodes), rdE r66 ((doA (doA a)).Hold), blkE g19 (.cells #[I (((sortsF (doA a))).1), I (((sortsF (doA a))).2)] 28), rdE r33 (sorts (doA a)), blkE g16 (.cells #[r10, r11, r12] 26), rdE r10 ((doA a).Decls), rdE r11 ((doA a).Nodes), rdE r12 ((doA a).Hold), blkE g1 (.cells #[vD, vN, vH] 26), rdE vD a.Decls, rdE vN a.Nodes, rdE vH a.Hold] H73 := hS74
      refine wpL_o rfl ?_
      refine e_storeBlkA (cs' := #[I ((doF (doA a)).1), I ((doF (doA a)).2)]) rfl a49_5 rfl Try.sizeOf28 rfl rfl (List.forall_mem_cons.2 ⟨rfl, List.forall_mem_cons.2 ⟨rfl, List.forall_mem_nil _⟩⟩) (hS74.front 4 rfl) (fun H75 hS76 hxx => ?_)
      replace hS76 : St H0 NoB NoB [blkE g19 (.cells #[I ((doF (doA a)).1), I ((doF (doA a)).2)] 28), blkE g70 (.cells #[r64, r65, r66] 26), rdE r64 ((doA (doA a)).Decls), rdE r65 ((doA (doA a)).Nodes), rdE r66 ((doA (doA a)).Hold), rdE r33 (sorts (doA a)), blkE g16 (.cells #[r10, r11, r12] 26), rdE r10 ((doA a).Decls), rdE r11 ((doA a).Nodes), rdE r12 ((doA a).Hold), blkE g1 (.cells #[vD, vN, vH] 26), rdE vD a.Decls, rdE vN a.Nodes, rdE vH a.Hold] H75 := hS76
      exact ⟨r64, r65, r66, g70, a49_4, a49_5, rfl, (hS76.drop (sk (sk (sk (sk (sk (sn (sk (sk (sk (sk (sk (sk (sk (sk (List.Sublist.slnil))))))))))))))))⟩
    rintro f77 H77 ⟨r64, r65, r66, g70, a77_4, a77_5, a77_8, hS77⟩
    clear a49_4 a49_41 a49_5 a49_6 a49_7
    refine wpF_seq ?_
    refine wpF_cut (fun f H => f 2 = B (decide ((((doF (doA a)).1) = 0) ∧ ((((doA (doA a)).Nodes).length : Int) = (((doA a).Nodes).length : Int)))) ∧ H77 = H) ?_ ?_
    · refine wpF_region ?_
      refine wpL_q (U := NoB) rfl (q_fieldAddr rfl Try.underlying28 rfl Try.sizeOf3 a77_5) ?_
      refine wpL_q (U := NoB) rfl (q_loadBlk rfl rfl Try.isAgg3 (hS77.blk 0 rfl) rfl (fun h => h)) ?_
      refine wpL_q (U := NoB) rfl (q_eql rfl rfl rfl) ?_
      refine wpL_q (U := NoB) rfl (q_move (v := B (decide (((doF (doA a)).1) = 0))) rfl rfl) ?_
      by_cases hg78 : ((doF (doA a)).1) = 0
      · have hb79 := Eq.trans rfl (congrArg B (decide_eq_true hg78))
        refine wpL_gq (U := NoB) rfl rfl rfl hb79 (q_fieldAddr rfl Try.underlying26 rfl Try.sizeOf23 a77_8) ?_
        refine wpL_gq (U := NoB) rfl rfl rfl hb79 (q_loadBlk rfl rfl Try.isAgg23 (hS77.blk 1 rfl) rfl (fun h => h)) ?_
        refine wpL_gq (U := NoB) rfl rfl rfl hb79 (q_lenRd rfl Try.underlying23 rfl (hS77.rdl 3 rfl)) ?_
        refine wpL_gq (U := NoB) rfl rfl rfl hb79 (q_fieldAddr rfl Try.underlying26 rfl Try.sizeOf23 a77_4) ?_
        refine wpL_gq (U := NoB) rfl rfl rfl hb79 (q_loadBlk rfl rfl Try.isAgg23 (hS77.blk 5 rfl) rfl (fun h => h)) ?_
        refine wpL_gq (U := NoB) rfl rfl rfl hb79 (q_lenRd rfl Try.underlying23 rfl (hS77.rdl 7 rfl)) ?_
        refine wpL_gq (U := NoB) rfl rfl rfl hb79 (q_eql rfl rfl rfl) ?_
        refine wpL_q (U := NoB) rfl (q_pickT (v := B (decide ((((doA (doA a)).Nodes).length : Int) = (((doA a).Nodes).length : Int)))) rfl hb79 rfl) ?_
        refine wpL_q (U := NoB) rfl (q_assign (v := B (decide ((((doA (doA a)).Nodes).length : Int) = (((doA a).Nodes).length : Int)))) rfl rfl) ?_
        exact ⟨(Eq.trans rfl (congrArg B (decide_congr_of ((Iff.rfl).trans (((and_iff_right hg78).trans Iff.rfl)).symm)))), rfl⟩
      · have hb80 := Eq.trans rfl (congrArg B (decide_eq_false hg78))
        refine wpL_gs rfl rfl rfl hb80 rfl ?_
        refine wpL_gs rfl rfl rfl hb80 rfl ?_
        refine wpL_gs rfl rfl rfl hb80 rfl ?_
        refine wpL_gs rfl rfl rfl hb80 rfl ?_
        refine wpL_gs rfl rfl rfl hb80 rfl ?_
        refine wpL_gs rfl rfl rfl hb80 rfl ?_
        refine wpL_gs rfl rfl rfl hb80 rfl ?_
        refine wpL_q (U := NoB) rfl (q_pickF (v := B (false)) rfl hb80 rfl) ?_
        refine wpL_q (U := NoB) rfl (q_assign (v := B (false)) rfl rfl) ?_
        exact ⟨(Eq.trans rfl (congrArg B ((decide_eq_false (fun h => hg78 h.1)).symm))), rfl⟩
    rintro f81 _ ⟨a81_2, rfl⟩
    clear a77_4 a77_5 a77_8
    refine wpF_ret ?_
    refine ⟨_, resT a81_2 resN, hS77.frame, ?_⟩
    show (B (decide ((((doF (doA a)).1) = 0) ∧ ((((doA (doA a)).Nodes).length : Int) = (((doA a).Nodes).length : Int))))) = B true
    obtain ⟨g1_, g2_⟩ := again_ok (b := doA a) (by rw [n1]) n2
    exact congrArg B (decide_eq_true ⟨g1_, by rw [g2_]⟩)
  refine wpF_skip ?_
  refine wpF_seq ?_
  refine wpF_block ?_
  refine wpF_seq ?_
  refine wpF_cut (fun f H => f 4 = PT g16 0 ∧ f 5 = PT g19 0 ∧ f 6 = r33 ∧ f 7 = I ((u : Int)) ∧ f 66 = B (decide ((((nth (sorts (doA a)) u) = 5) ∨ (((nth ((doA a).Nodes) u).Op) = 24)) ∨ (((nth ((doA a).Nodes) u).Op) = 25))) ∧ H48 = H) ?_ ?_
  · refine wpF_region ?_
    refine wpL_q (U := NoB) rfl (q_move (v := r33) rfl a49_6) ?_
    refine wpL_q (U := NoB) rfl (q_move (v := I ((u : Int))) rfl a49_7) ?_
    refine wpL_q (U := NoB) rfl (q_indexRd (k := u) rfl Try.underlying24 el_Int_3_ArrNone1 rfl rfl (hS48.rdl 1 rfl) (by omega) (by omega)) ?_
    refine wpL_q (U := NoB) rfl (q_loadInt (k := u) rfl rfl el_Int_3_ArrNone1 (hS48.rdl 1 rfl) (by omega) (fun _ h => h)) ?_
    refine wpL_q (U := NoB) rfl (q_eql rfl rfl rfl) ?_
    refine wpL_q (U := NoB) rfl (q_move (v := B (decide ((nth (sorts (doA a)) u) = 5))) rfl rfl) ?_
    by_cases hg51 : (nth (sorts (doA a)) u) = 5
    · have hb52 := Eq.trans rfl (congrArg B (decide_eq_true hg51))
      refine wpL_gs rfl rfl rfl hb52 rfl ?_
      refine wpL_gs rfl rfl rfl hb52 rfl ?_
      refine wpL_gs rfl rfl rfl hb52 rfl ?_
      refine wpL_gs rfl rfl rfl hb52 rfl ?_
      refine wpL_gs rfl rfl rfl hb52 rfl ?_
      refine wpL_gs rfl rfl rfl hb52 rfl ?_
      refine wpL_gs rfl rfl rfl hb52 rfl ?_
      refine wpL_q (U := NoB) rfl (q_pickT (v := B (true)) rfl hb52 rfl) ?_
      refine wpL_q (U := NoB) rfl (q_move (v := B (true)) rfl rfl) ?_
      refine wpL_gs rfl rfl rfl rfl rfl ?_
      refine wpL_gs rfl rfl rfl rfl rfl ?_
      refine wpL_gs rfl rfl rfl rfl rfl ?_
      refine wpL_gs rfl rfl rfl rfl rfl ?_
      refine wpL_gs rfl rfl rfl rfl rfl ?_
      refine wpL_gs rfl rfl rfl rfl rfl ?_
      refine wpL_gs rfl rfl rfl rfl rfl ?_
      refine wpL_q (U := NoB) rfl (q_pickT (v := B (true)) rfl rfl rfl) ?_
      exact ⟨a49_4, a49_5, a49_6, a49_7, (Eq.trans rfl (congrArg B ((decide_eq_true (Or.inl (Or.inl hg51))).symm))), rfl⟩
    · have hb53 := Eq.trans rfl (congrArg B (decide_eq_false hg51))
      refine wpL_gq (U := NoB) rfl rfl rfl hb53 (q_fieldAddr rfl Try.underlying26 rfl Try.sizeOf23 a49_4) ?_
      refine wpL_gq (U := NoB) rfl rfl rfl hb53 (q_loadBlk rfl rfl Try.isAgg23 (hS48.blk 2 rfl) rfl (fun h => h)) ?_
      refine wpL_gq (U := NoB) rfl rfl rfl hb53 (q_move (v := I ((u : Int))) rfl a49_7) ?_
      refine wpL_gq (U := NoB) rfl rfl rfl hb53 (q_indexRd (k := u) rfl Try.underlying23 el_Node_37_ArrNone1 rfl rfl (hS48.rdl 4 rfl) (by omega) (by omega)) ?_
      refine wpL_gq (U := NoB) rfl rfl rfl hb53 (q_fieldE (k := u) rfl Try.underlying37 rfl Try.sizeOf3 rfl rfl (hS48.rdl 4 rfl) (by omega)) ?_
      obtain ⟨_, hcu54, hFu54⟩ := (Rd.list.1 (hS48.rdS 4 rfl)).cellF u (by omega)
      obtain ⟨u54n1, rfl, hu540, hu541, hu542, hu543, hu544⟩ := hcu54
      refine wpL_gq (U := NoB) rfl rfl rfl hb53 (q_loadF rfl rfl (hFu54 0 _ Try.prog 3 _ rfl Try.isAgg3 (fun _ h => False.elim h))) ?_
      refine wpL_gq (U := NoB) rfl rfl rfl hb53 (q_eql rfl rfl rfl) ?_
      refine wpL_q (U := NoB) rfl (q_pickF (v := B (decide (((nth ((doA a).Nodes) u).Op) = 24))) rfl hb53 rfl) ?_
      refine wpL_q (U := NoB) rfl (q_move (v := B (decide (((nth ((doA a).Nodes) u).Op) = 24))) rfl rfl) ?_
      by_cases hg55 : ((nth ((doA a).Nodes) u).Op) = 24
      · have hb56 := Eq.trans rfl (congrArg B (decide_eq_true hg55))
        refine wpL_gs rfl rfl rfl hb56 rfl ?_
        refine wpL_gs rfl rfl rfl hb56 rfl ?_
        refine wpL_gs rfl rfl rfl hb56 rfl ?_
        refine wpL_gs rfl rfl rfl hb56 rfl ?_
        refine wpL_gs rfl rfl rfl hb56 rfl ?_
        refine wpL_gs rfl rfl rfl hb56 rfl ?_
        refine wpL_gs rfl rfl rfl hb56 rfl ?_
        refine wpL_q (U := NoB) rfl (q_pickT (v := B (true)) rfl hb56 rfl) ?_
        exact ⟨a49_4, a49_5, a49_6, a49_7, (Eq.trans rfl (congrArg B ((decide_eq_true (Or.inl (Or.inr hg55))).symm))), rfl⟩
      · have hb57 := Eq.trans rfl (congrArg B (decide_eq_false hg55))
        refine wpL_gq (U := NoB) rfl rfl rfl hb57 (q_fieldAddr rfl Try.underlying26 rfl Try.sizeOf23 a49_4) ?_
        refine wpL_gq (U := NoB) rfl rfl rfl hb57 (q_loadBlk rfl rfl Try.isAgg23 (hS48.blk 2 rfl) rfl (fun h => h)) ?_
        refine wpL_gq (U := NoB) rfl rfl rfl hb57 (q_move (v := I ((u : Int))) rfl a49_7) ?_
        refine wpL_gq (U := NoB) rfl rfl rfl hb57 (q_indexRd (k := u) rfl Try.underlying23 el_Node_37_ArrNone1 rfl rfl (hS48.rdl 4 rfl) (by omega) (by omega)) ?_
        refine wpL_gq (U := NoB) rfl rfl rfl hb57 (q_fieldE (k := u) rfl Try.underlying37 rfl Try.sizeOf3 rfl rfl (hS48.rdl 4 rfl) (by omega)) ?_
        obtain ⟨_, hcu58, hFu58⟩ := (Rd.list.1 (hS48.rdS 4 rfl)).cellF u (by omega)
        obtain ⟨u58n1, rfl, hu580, hu581, hu582, hu583, hu584⟩ := hcu58
        refine wpL_gq (U := NoB) rfl rfl rfl hb57 (q_loadF rfl rfl (hFu58 0 _ Try.prog 3 _ rfl Try.isAgg3 (fun _ h => False.elim h))) ?_
        refine wpL_gq (U := NoB) rfl rfl rfl hb57 (q_eql rfl rfl rfl) ?_
        refine wpL_q (U := NoB) rfl (q_pickF (v := B (decide (((nth ((doA a).Nodes) u).Op) = 25))) rfl hb57 rfl) ?_
        exact ⟨a49_4, a49_5, a49_6, a49_7, (Eq.trans rfl (congrArg B (decide_congr_of ((Iff.rfl).trans (((or_iff_right (not_or.2 ⟨hg51, hg55⟩)).trans Iff.rfl)).symm)))), rfl⟩
  rintro f59 _ ⟨a59_4, a59_5, a59_6, a59_7, a59_66, rfl⟩
  clear a49_4 a49_41 a49_5 a49_6 a49_7
  refine wpF_condP a59_66 (fun h66 => ?t63) (fun h66 => ?e63)
  case e63 =>
    refine wpF_skip ?_
    refine wpF_cut (fun f H => f 4 = PT g16 0 ∧ f 5 = PT g19 0 ∧ f 6 = r33 ∧ f 7 = I ((u : Int) + 1) ∧ H48 = H) ?_ ?_
    · refine wpF_region ?_
      refine wpL_q (U := NoB) rfl (q_move (v := I ((u : Int))) rfl a59_7) ?_
      refine wpL_q (U := NoB) rfl (q_add rfl rfl rfl (by constructor <;> omega)) ?_
      refine wpL_q (U := NoB) rfl (q_assign (v := I ((u : Int) + 1)) rfl rfl) ?_
      exact ⟨a59_4, a59_5, a59_6, rfl, rfl⟩
    rintro f62 _ ⟨a62_4, a62_5, a62_6, a62_7, rfl⟩
    clear a59_4 a59_5 a59_6 a59_66 a59_7
    refine ⟨_, ?_, u + 1, rfl, (by omega), a62_4, a62_5, a62_6, (Eq.trans a62_7 (congrArg I (by omega))), hS48⟩
    omega
  refine wpF_seq ?_
  refine wpF_cut (fun f H => f 2 = B (false) ∧ H48 = H) ?_ ?_
  · refine wpF_region ?_
    refine wpL_q (U := NoB) rfl (q_assign (v := B (false)) rfl rfl) ?_
    exact ⟨rfl, rfl⟩
  rintro f61 _ ⟨a61_2, rfl⟩
  clear a59_4 a59_5 a59_6 a59_66 a59_7
  refine wpF_ret ?_
  refine ⟨_, resT a61_2 resN, hS48.frame, ?_⟩
  show (B (false)) = B true
  have hfu := n2 u (by omega)
  have hsu : nth (sorts (doA a)) u = sortAt (doA a) u := sortAt_pre (by omega)
  exact absurd h66 (by rw [hsu]; exact fun e => e.elim (fun e => e.elim hfu.2.1 hfu.2.2.1) hfu.2.2.2)

end Go.Um
