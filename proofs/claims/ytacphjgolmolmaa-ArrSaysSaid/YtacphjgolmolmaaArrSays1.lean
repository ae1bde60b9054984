import Derived.Test.YtacphjgolmolmaaProg
import Derived.Test.YtacphjgolmolmaaArrT1
import Derived.Test.YtacphjgolmolmaaUmSub
namespace Go.Um
open Go.Proofs
open GoT (sz ag rdc)
open KeyT (kv)

theorem el_Decl_43_ArrSays1 : ElT Try.prog Decl 43 := ⟨Try.isAgg43, Try.sizeOf43⟩
theorem el_Int_3_ArrSays1 : ElT Try.prog Int 3 := ⟨Try.isAgg3, Try.sizeOf3⟩
theorem el_Node_37_ArrSays1 : ElT Try.prog Node 37 := ⟨Try.isAgg37, Try.sizeOf37⟩
theorem em_Int_3_ArrSays1 : ElemOk Try.prog Int 3 := ⟨Try.t3, (.int .i64 0), by kernel_rfl, by kernel_rfl, by kernel_rfl, by kernel_rfl, by kernel_rfl⟩
theorem fl28_ArrSays1 (a b c d : Int) (w : World) : (Op.equalIn 10000 28 (.agg #[I a, I b]) (.agg #[I c, I d])).run Try.prog w = .ok (decide (a = c ∧ b = d)) w := eq2_run Try.underlying28 Try.underlying3 Try.underlying3 (by decide) (by decide) rfl rfl Try.isAgg3 Try.isAgg3 Try.stoodInHeld28 a b c d w

set_option maxHeartbeats 8000000 in
set_option maxRecDepth 100000 in
theorem ArrSays_L {H0 : Heap} (vD vN vH : Value) (a : Ask) (rvD : Rd NoB H0 vD a.Decls) (rvN : Rd NoB H0 vN a.Nodes) (rvH : Rd NoB H0 vH a.Hold) : CallsH Try.prog 3 #[Value.agg #[vD, vN, vH]] H0 (fun rv_ H' => Ext NoB H0 H' ∧ rv_ = B true) := by
  have hsN : a.Nodes.length * 64 ≤ 140737488355328 := (Rd.list.1 rvN).bound
  have hsD : a.Decls.length * 48 ≤ 140737488355328 := (Rd.list.1 rvD).bound
  have hsl : (sorts a).length = a.Nodes.length := sortsTo_len _
  have hml : (a.Decls.map declA).length = a.Decls.length := List.length_map ..
  have hS0 : St H0 NoB NoB [rdE vD a.Decls, rdE vN a.Nodes, rdE vH a.Hold] H0 := St.arg (St.arg (St.arg (St.start (fun _ h => h.elim)) (Bl0.nil) rvH (fun _ h => h)) (Bl0.cons (Bl0.nil)) rvN (fun _ h => h)) (Bl0.cons (Bl0.cons (Bl0.nil))) rvD (fun _ h => h)
  refine callsH_of_wpF (args := [Value.agg #[vD, vN, vH]]) (rs := [.tmp 2]) Try.func3 rfl Try.ntmps3 Try.results3 (by kernel_rfl) (Nat.le_of_ble_eq_true rfl) ?_
  have a0_0 : argF [Value.agg #[vD, vN, vH]] 0 = Value.agg #[vD, vN, vH] := rfl
  generalize argF [Value.agg #[vD, vN, vH]] = f0 at *
  refine wpF_seq ?_
  refine wpF_cut (fun f H => ∃ (g1 : Nat), f 1 = PT g1 0 ∧ St H0 NoB NoB [blkE g1 (.cells #[vD, vN, vH] 26), rdE vD a.Decls, rdE vN a.Nodes, rdE vH a.Hold] H) ?_ ?_
  · refine wpF_region ?_
    refine wpL_o rfl ?_
    refine e_box (v := Value.agg #[vD, vN, vH]) rfl a0_0 hS0 (fun g1 H2 hS3 hxx => ?_)
    replace hS3 : St H0 NoB NoB [blkE g1 (.cells #[vD, vN, vH] 26), rdE vD a.Decls, rdE vN a.Nodes, rdE vH a.Hold] H2 := hS3
    refine wpL_q (U := NoB) rfl (q_assign (v := B (false)) rfl rfl) ?_
    exact ⟨g1, rfl, hS3⟩
  rintro f4 H4 ⟨g1, a4_1, hS4⟩
  clear a0_0
  refine wpF_seq ?_
  refine wpF_seq ?_
  refine wpF_cut (fun f H => f 1 = PT g1 0 ∧ f 21 = B (decide (250 < (a.Nodes.length : Int))) ∧ H4 = H) ?_ ?_
  · refine wpF_region ?_
    refine wpL_q (U := NoB) rfl (q_fieldAddr rfl Try.underlying26 rfl Try.sizeOf23 a4_1) ?_
    refine wpL_q (U := NoB) rfl (q_loadBlk rfl rfl Try.isAgg23 (hS4.blk 0 rfl) rfl (fun h => h)) ?_
    refine wpL_q (U := NoB) rfl (q_lenRd rfl Try.underlying23 rfl (hS4.rdl 2 rfl)) ?_
    refine wpL_q (U := NoB) rfl (q_gtr rfl rfl rfl) ?_
    exact ⟨a4_1, rfl, rfl⟩
  rintro f5 _ ⟨a5_1, a5_21, rfl⟩
  clear a4_1
  refine wpF_condP a5_21 (fun h21 => ?t241) (fun h21 => ?e241)
  case t241 =>
    refine wpF_seq ?_
    refine wpF_cut (fun f H => f 2 = B (true) ∧ H4 = H) ?_ ?_
    · refine wpF_region ?_
      refine wpL_q (U := NoB) rfl (q_assign (v := B (true)) rfl rfl) ?_
      exact ⟨rfl, rfl⟩
    rintro f7 _ ⟨a7_2, rfl⟩
    clear a5_1 a5_21
    refine wpF_ret ?_
    refine ⟨_, resT a7_2 resN, hS4.frame, ?_⟩
    show (B (true)) = B true
    rfl
  refine wpF_skip ?_
  refine wpF_seq ?_
  refine wpF_cut (fun f H => ∃ (r8 : Value), ∃ (r9 : Value), ∃ (r10 : Value), ∃ (g14 : Nat), ∃ (g17 : Nat), f 1 = PT g1 0 ∧ f 3 = PT g14 0 ∧ f 4 = PT g17 0 ∧ St H0 NoB NoB [blkE g17 (.cells #[I ((doF a).1), I ((doF a).2)] 28), blkE g14 (.cells #[r8, r9, r10] 26), rdE r8 ((doA a).Decls), rdE r9 ((doA a).Nodes), rdE r10 ((doA a).Hold), blkE g1 (.cells #[vD, vN, vH] 26), rdE vD a.Decls, rdE vN a.Nodes, rdE vH a.Hold] H) ?_ ?_
  · refine wpF_region ?_
    refine wpL_q (U := NoB) rfl (q_loadBlkA rfl a5_1 Try.isAgg26 Try.sizeOf26 rfl (hS4.blk 0 rfl) (fun h => h)) ?_
    refine wpL_o rfl ?_
    refine e_call rfl Try.call6 (arr1 (v0 := Value.agg #[vD, vN, vH]) rfl) (Do_L vD vN vH a (hS4.rdS 1 rfl) (hS4.rdS 2 rfl) (hS4.rdS 3 rfl)) ?_
    rintro _ H11 ⟨hxx, r8, r9, r10, rfl, hrr8, hrr9, hrr10⟩
    have hS12 : St H0 NoB NoB [rdE r8 ((doA a).Decls), rdE r9 ((doA a).Nodes), rdE r10 ((doA a).Hold), blkE g1 (.cells #[vD, vN, vH] 26), rdE vD a.Decls, rdE vN a.Nodes, rdE vH a.Hold] H11 := ((((hS4.ext hxx).rd (hrr10.sub fun b hb => ⟨hb, SL.lt hS4 hb⟩)).rd (hrr9.sub fun b hb => ⟨(SL_rd hb), SL.lt hS4 (SL_rd hb)⟩)).rd (hrr8.sub fun b hb => ⟨(SL_rd (SL_rd hb)), SL.lt hS4 (SL_rd (SL_rd hb))⟩))
    refine wpL_q (U := NoB) rfl (q_move (v := Value.tuple #[Value.agg #[r8, r9, r10], Value.agg #[I ((doF a).1), I ((doF a).2)]]) rfl rfl) ?_
    refine wpL_q (U := NoB) rfl (q_extract (vs := #[Value.agg #[r8, r9, r10], Value.agg #[I ((doF a).1), I ((doF a).2)]]) (v := Value.agg #[r8, r9, r10]) rfl rfl rfl) ?_
    refine wpL_q (U := NoB) rfl (q_extract (vs := #[Value.agg #[r8, r9, r10], Value.agg #[I ((doF a).1), I ((doF a).2)]]) (v := Value.agg #[I ((doF a).1), I ((doF a).2)]) rfl rfl rfl) ?_
    refine wpL_o rfl ?_
    refine e_alloc rfl Try.zeroValue26 hS12 (fun g14 H15 hS16 hxx => ?_)
    replace hS16 : St H0 NoB NoB [blkE g14 (.cells #[(Value.slice none 0 0), (Value.slice none 0 0), (Value.slice none 0 0)] 26), rdE r8 ((doA a).Decls), rdE r9 ((doA a).Nodes), rdE r10 ((doA a).Hold), blkE g1 (.cells #[vD, vN, vH] 26), rdE vD a.Decls, rdE vN a.Nodes, rdE vH a.Hold] H15 := hS16
    refine wpL_o rfl ?_
    refine e_alloc rfl Try.zeroValue28 hS16 (fun g17 H18 hS19 hxx => ?_)
    replace hS19 : St H0 NoB NoB [blkE g17 (.cells #[I (0), I (0)] 28), blkE g14 (.cells #[(Value.slice none 0 0), (Value.slice none 0 0), (Value.slice none 0 0)] 26), rdE r8 ((doA a).Decls), rdE r9 ((doA a).Nodes), rdE r10 ((doA a).Hold), blkE g1 (.cells #[vD, vN, vH] 26), rdE vD a.Decls, rdE vN a.Nodes, rdE vH a.Hold] H18 := hS19
    refine wpL_o rfl ?_
    refine e_storeBlkA (cs' := #[r8, r9, r10]) rfl rfl rfl Try.sizeOf26 rfl rfl (List.forall_mem_cons.2 ⟨(oneCell_rdL (hS19.rdl 2 rfl)), List.forall_mem_cons.2 ⟨(oneCell_rdL (hS19.rdl 3 rfl)), List.forall_mem_cons.2 ⟨(oneCell_rdL (hS19.rdl 4 rfl)), List.forall_mem_nil _⟩⟩⟩) (hS19.front 1 rfl) (fun H20 hS21 hxx => ?_)
    replace hS21 : St H0 NoB NoB [blkE g14 (.cells #[r8, r9, r10] 26), blkE g17 (.cells #[I (0), I (0)] 28), rdE r8 ((doA a).Decls), rdE r9 ((doA a).Nodes), rdE r10 ((doA a).Hold), blkE g1 (.cells #[vD, vN, vH] 26), rdE vD a.Decls, rdE vN a.Nodes, rdE vH a.Hold] H20 := hS21
    refine wpL_o rfl ?_
    refine e_storeBlkA (cs' := #[I ((doF a).1), I ((doF a).2)]) rfl rfl rfl Try.sizeOf28 rfl rfl (List.forall_mem_cons.2 ⟨rfl, List.forall_mem_cons.2 ⟨rfl, List.forall_mem_nil _⟩⟩) (hS21.front 1 rfl) (fun H22 hS23 hxx => ?_)
    replace hS23 : St H0 NoB NoB [blkE g17 (.cells #[I ((doF a).1), I ((doF a).2)] 28), blkE g14 (.cells #[r8, r9, r10] 26), rdE r8 ((doA a).Decls), rdE r9 ((doA a).Nodes), rdE r10 ((doA a).Hold), blkE g1 (.cells #[vD, vN, vH] 26), rdE vD a.Decls, rdE vN a.Nodes, rdE vH a.Hold] H22 := hS23
    exact ⟨r8, r9, r10, g14, g17, a5_1, rfl, rfl, hS23⟩
  rintro f24 H24 ⟨r8, r9, r10, g14, g17, a24_1, a24_3, a24_4, hS24⟩
  clear a5_1 a5_21
  refine wpF_seq ?_
  refine wpF_cut (fun f H => ∃ (r25 : Value), ∃ (g29 : Nat), f 1 = PT g1 0 ∧ f 3 = PT g14 0 ∧ f 4 = PT g17 0 ∧ f 5 = r25 ∧ f 6 = PT g29 0 ∧ St H0 NoB NoB [blkE g29 (.cells #[I (((sortsF a)).1), I (((sortsF a)).2)] 28), rdE r25 (sortsL a), blkE g17 (.cells #[I ((doF a).1), I ((doF a).2)] 28), blkE g14 (.cells #[r8, r9, r10] 26), rdE r8 ((doA a).Decls), rdE r9 ((doA a).Nodes), rdE r10 ((doA a).Hold), blkE g1 (.cells #[vD, vN, vH] 26), rdE vD a.Decls, rdE vN a.Nodes, rdE vH a.Hold] H) ?_ ?_
  · refine wpF_region ?_
    refine wpL_q (U := NoB) rfl (q_loadBlkA rfl a24_1 Try.isAgg26 Try.sizeOf26 rfl (hS24.blk 5 rfl) (fun h => h)) ?_
    refine wpL_o rfl ?_
    refine e_call rfl Try.call7 (arr1 (v0 := Value.agg #[vD, vN, vH]) rfl) (Sorts_L vD vN vH a (hS24.rdS 6 rfl) (hS24.rdS 7 rfl) (hS24.rdS 8 rfl) ) ?_
    rintro _ H26 ⟨hxx, r25, rfl, hrr25⟩
    have hS27 : St H0 NoB NoB [rdE r25 (sortsL a), blkE g17 (.cells #[I ((doF a).1), I ((doF a).2)] 28), blkE g14 (.cells #[r8, r9, r10] 26), rdE r8 ((doA a).Decls), rdE r9 ((doA a).Nodes), rdE r10 ((doA a).Hold), blkE g1 (.cells #[vD, vN, vH] 26), rdE vD a.Decls, rdE vN a.Nodes, rdE vH a.Hold] H26 := hS24.res hxx hrr25
    refine wpL_q (U := NoB) rfl (q_move (v := Value.tuple #[r25, Value.agg #[I (((sortsF a)).1), I (((sortsF a)).2)]]) rfl rfl) ?_
    refine wpL_q (U := NoB) rfl (q_extract (vs := #[r25, Value.agg #[I (((sortsF a)).1), I (((sortsF a)).2)]]) (v := r25) rfl rfl rfl) ?_
    refine wpL_q (U := NoB) rfl (q_extract (vs := #[r25, Value.agg #[I (((sortsF a)).1), I (((sortsF a)).2)]]) (v := Value.agg #[I (((sortsF a)).1), I (((sortsF a)).2)]) rfl rfl rfl) ?_
    refine wpL_o rfl ?_
    refine e_alloc rfl Try.zeroValue28 hS27 (fun g29 H30 hS31 hxx => ?_)
    replace hS31 : St H0 NoB NoB [blkE g29 (.cells #[I (0), I (0)] 28), rdE r25 (sortsL a), blkE g17 (.cells #[I ((doF a).1), I ((doF a).2)] 28), blkE g14 (.cells #[r8, r9, r10] 26), rdE r8 ((doA a).Decls), rdE r9 ((doA a).Nodes), rdE r10 ((doA a).Hold), blkE g1 (.cells #[vD, vN, vH] 26), rdE vD a.Decls, rdE vN a.Nodes, rdE vH a.Hold] H30 := hS31
    refine wpL_q (U := NoB) rfl (q_assign (v := r25) rfl rfl) ?_
    refine wpL_o rfl ?_
    refine e_storeBlkA (cs' := #[I (((sortsF a)).1), I (((sortsF a)).2)]) rfl rfl rfl Try.sizeOf28 rfl rfl (List.forall_mem_cons.2 ⟨rfl, List.forall_mem_cons.2 ⟨rfl, List.forall_mem_nil _⟩⟩) hS31 (fun H32 hS33 hxx => ?_)
    replace hS33 : St H0 NoB NoB [blkE g29 (.cells #[I (((sortsF a)).1), I (((sortsF a)).2)] 28), rdE r25 (sortsL a), blkE g17 (.cells #[I ((doF a).1), I ((doF a).2)] 28), blkE g14 (.cells #[r8, r9, r10] 26), rdE r8 ((doA a).Decls), rdE r9 ((doA a).Nodes), rdE r10 ((doA a).Hold), blkE g1 (.cells #[vD, vN, vH] 26), rdE vD a.Decls, rdE vN a.Nodes, rdE vH a.Hold] H32 := hS33
    exact ⟨r25, g29, a24_1, a24_3, a24_4, rfl, rfl, hS33⟩
  rintro f34 H34 ⟨r25, g29, a34_1, a34_3, a34_4, a34_5, a34_6, hS34⟩
  clear a24_1 a24_3 a24_4
  refine wpF_seq ?_
  refine wpF_seq ?_
  refine wpF_cut (fun f H => f 1 = PT g1 0 ∧ f 3 = PT g14 0 ∧ f 4 = PT g17 0 ∧ f 5 = r25 ∧ f 6 = PT g29 0 ∧ f 34 = B (decide ((((sortsF a)).1) ≠ 0)) ∧ H34 = H) ?_ ?_
  · refine wpF_region ?_
    refine wpL_q (U := NoB) rfl (q_fieldAddr rfl Try.underlying28 rfl Try.sizeOf3 a34_6) ?_
    refine wpL_q (U := NoB) rfl (q_loadBlk rfl rfl Try.isAgg3 (hS34.blk 0 rfl) rfl (fun h => h)) ?_
    refine wpL_q (U := NoB) rfl (q_neq rfl rfl rfl) ?_
    exact ⟨a34_1, a34_3, a34_4, a34_5, a34_6, rfl, rfl⟩
  rintro f35 _ ⟨a35_1, a35_3, a35_4, a35_5, a35_6, a35_34, rfl⟩
  clear a34_1 a34_3 a34_4 a34_5 a34_6
  refine wpF_condP a35_34 (fun h34 => ?t240) (fun h34 => ?e240)
  case t240 =>
    refine wpF_seq ?_
    refine wpF_cut (fun f H => f 2 = B (decide ((((doF a).1) = (((sortsF a)).1) ∧ ((doF a).2) = (((sortsF a)).2)) ∧ (blankP (doA a)))) ∧ St H0 NoB NoB [blkE g29 (.cells #[I (((sortsF a)).1), I (((sortsF a)).2)] 28), blkE g17 (.cells #[I ((doF a).1), I ((doF a).2)] 28), blkE g14 (.cells #[r8, r9, r10] 26), rdE r8 ((doA a).Decls), rdE r9 ((doA a).Nodes), rdE r10 ((doA a).Hold), blkE g1 (.cells #[vD, vN, vH] 26), rdE vD a.Decls, rdE vN a.Nodes, rdE vH a.Hold] H) ?_ ?_
    · refine wpF_region ?_
      refine wpL_q (U := NoB) rfl (q_loadBlkA rfl a35_4 Try.isAgg28 Try.sizeOf28 rfl (hS34.blk 2 rfl) (fun h => h)) ?_
      refine wpL_q (U := NoB) rfl (q_loadBlkA rfl a35_6 Try.isAgg28 Try.sizeOf28 rfl (hS34.blk 0 rfl) (fun h => h)) ?_
      refine wpL_q (U := NoB) rfl (q_eqlF2 rfl Try.eqGuardType28 (fl28_ArrSays1 _ _ _ _) rfl rfl) ?_
      refine wpL_q (U := NoB) rfl (q_move (v := B (decide (((doF a).1) = (((sortsF a)).1) ∧ ((doF a).2) = (((sortsF a)).2)))) rfl rfl) ?_
      by_cases hg38 : ((doF a).1) = (((sortsF a)).1) ∧ ((doF a).2) = (((sortsF a)).2)
      · have hb39 := Eq.trans rfl (congrArg B (decide_eq_true hg38))
        refine wpL_gq (U := NoB) rfl rfl rfl hb39 (q_loadBlkA rfl a35_3 Try.isAgg26 Try.sizeOf26 rfl (hS34.blk 3 rfl) (fun h => h)) ?_
        refine wpL_go rfl rfl rfl hb39 ?_
        refine e_call rfl Try.call8 (arr1 (v0 := Value.agg #[r8, r9, r10]) rfl) (blank_L r8 r9 r10 (doA a) (hS34.rdN 4 rfl) (hS34.rdN 5 rfl) (hS34.rdN 6 rfl) ) ?_
        rintro _ H41 ⟨hxx, rfl⟩
        have hS42 : St H0 NoB NoB [blkE g29 (.cells #[I (((sortsF a)).1), I (((sortsF a)).2)] 28), rdE r25 (sortsL a), blkE g17 (.cells #[I ((doF a).1), I ((doF a).2)] 28), blkE g14 (.cells #[r8, r9, r10] 26), rdE r8 ((doA a).Decls), rdE r9 ((doA a).Nodes), rdE r10 ((doA a).Hold), blkE g1 (.cells #[vD, vN, vH] 26), rdE vD a.Decls, rdE vN a.Nodes, rdE vH a.Hold] H41 := hS34.ext hxx
        refine wpL_q (U := NoB) rfl (q_pickT (v := B (decide (blankP (doA a)))) rfl hb39 rfl) ?_
        refine wpL_q (U := NoB) rfl (q_assign (v := B (decide (blankP (doA a)))) rfl rfl) ?_
        exact ⟨(Eq.trans rfl (congrArg B (decide_congr_of ((Iff.rfl).trans (((and_iff_right hg38).trans Iff.rfl)).symm)))), (hS42.drop (sk (sn (sk (sk (sk (sk (sk (sk (sk (sk (sk (List.Sublist.slnil)))))))))))))⟩
      · have hb40 := Eq.trans rfl (congrArg B (decide_eq_false hg38))
        refine wpL_gs rfl rfl rfl hb40 rfl ?_
        refine wpL_gs rfl rfl rfl hb40 rfl ?_
        refine wpL_q (U := NoB) rfl (q_pickF (v := B (false)) rfl hb40 rfl) ?_
        refine wpL_q (U := NoB) rfl (q_assign (v := B (false)) rfl rfl) ?_
        exact ⟨(Eq.trans rfl (congrArg B ((decide_eq_false (fun h => hg38 h.1)).symm))), (hS34.drop (sk (sn (sk (sk (sk (sk (sk (sk (sk (sk (sk (List.Sublist.slnil)))))))))))))⟩
    rintro f44 H44 ⟨a44_2, hS44⟩
    clear a35_1 a35_3 a35_34 a35_4 a35_5 a35_6
    refine wpF_ret ?_
    refine ⟨_, resT a44_2 resN, hS44.frame, ?_⟩
    show (B (decide ((((doF a).1) = (((sortsF a)).1) ∧ ((doF a).2) = (((sortsF a)).2)) ∧ (blankP (doA a))))) = B true
    have hq_ := doF_bad h34
    exact congrArg B (decide_eq_true ⟨⟨by rw [hq_], by rw [hq_]⟩, blank_doA (by rw [hq_]; exact h34)⟩)
  have hA : AskOk a := askOk (Decidable.of_not_not h34)
  have hfew := hA.few
  have hmany := hA.many
  have hholds := hA.holds
  have hS37 : St H0 NoB NoB [blkE g29 (.cells #[I (((sortsF a)).1), I (((sortsF a)).2)] 28), rdE r25 (sorts a), blkE g17 (.cells #[I ((doF a).1), I ((doF a).2)] 28), blkE g14 (.cells #[r8, r9, r10] 26), rdE r8 ((doA a).Decls), rdE r9 ((doA a).Nodes), rdE r10 ((doA a).Hold), blkE g1 (.cells #[vD, vN, vH] 26), rdE vD a.Decls, rdE vN a.Nodes, rdE vH a.Hold] H34 := by have h__ := hS34; rw [sortsL_eq h34] at h__; exact h__
  refine wpF_skip ?_
  refine wpF_seq ?_
  refine wpF_seq ?_
  refine wpF_cut (fun f H => f 1 = PT g1 0 ∧ f 3 = PT g14 0 ∧ f 4 = PT g17 0 ∧ f 5 = r25 ∧ f 47 = B (decide (((sorts a).length : Int) ≠ (a.Nodes.length : Int))) ∧ H34 = H) ?_ ?_
  · refine wpF_region ?_
    refine wpL_q (U := NoB) rfl (q_move (v := r25) rfl a35_5) ?_
    refine wpL_q (U := NoB) rfl (q_lenRd rfl Try.underlying24 rfl (hS37.rdl 1 rfl)) ?_
    refine wpL_q (U := NoB) rfl (q_fieldAddr rfl Try.underlying26 rfl Try.sizeOf23 a35_1) ?_
    refine wpL_q (U := NoB) rfl (q_loadBlk rfl rfl Try.isAgg23 (hS37.blk 7 rfl) rfl (fun h => h)) ?_
    refine wpL_q (U := NoB) rfl (q_lenRd rfl Try.underlying23 rfl (hS37.rdl 9 rfl)) ?_
    refine wpL_q (U := NoB) rfl (q_neq rfl rfl rfl) ?_
    exact ⟨a35_1, a35_3, a35_4, a35_5, rfl, rfl⟩
  rintro f45 _ ⟨a45_1, a45_3, a45_4, a45_5, a45_47, rfl⟩
  clear a35_1 a35_3 a35_34 a35_4 a35_5 a35_6
  refine wpF_condP a45_47 (fun h47 => ?t239) (fun h47 => ?e239)
  case t239 =>
    refine wpF_seq ?_
    refine wpF_cut (fun f H => f 2 = B (false) ∧ H34 = H) ?_ ?_
    · refine wpF_region ?_
      refine wpL_q (U := NoB) rfl (q_assign (v := B (false)) rfl rfl) ?_
      exact ⟨rfl, rfl⟩
    rintro f47 _ ⟨a47_2, rfl⟩
    clear a45_1 a45_3 a45_4 a45_47 a45_5
    refine wpF_ret ?_
    refine ⟨_, resT a47_2 resN, hS37.frame, ?_⟩
    show (B (false)) = B true
    exact absurd (by rw [hsl]) h47
  refine wpF_skip ?_
  refine wpF_seq ?_
  refine wpF_cut (fun f H => ∃ (g48 : Nat), f 1 = PT g1 0 ∧ f 3 = PT g14 0 ∧ f 4 = PT g17 0 ∧ f 5 = r25 ∧ f 7 = PT g48 0 ∧ St H0 NoB NoB [blkE g48 (.cells #[(Value.slice none 0 0), (Value.slice none 0 0)] 35), blkE g29 (.cells #[I (((sortsF a)).1), I (((sortsF a)).2)] 28), rdE r25 (sorts a), blkE g17 (.cells #[I ((doF a).1), I ((doF a).2)] 28), blkE g14 (.cells #[r8, r9, r10] 26), rdE r8 ((doA a).Decls), rdE r9 ((doA a).Nodes), rdE r10 ((doA a).Hold), blkE g1 (.cells #[vD, vN, vH] 26), rdE vD a.Decls, rdE vN a.Nodes, rdE vH a.Hold] H) ?_ ?_
  · refine wpF_region ?_
    refine wpL_o rfl ?_
    refine e_alloc rfl Try.zeroValue35 hS37 (fun g48 H49 hS50 hxx => ?_)
    replace hS50 : St H0 NoB NoB [blkE g48 (.cells #[(Value.slice none 0 0), (Value.slice none 0 0)] 35), blkE g29 (.cells #[I (((sortsF a)).1), I (((sortsF a)).2)] 28), rdE r25 (sorts a), blkE g17 (.cells #[I ((doF a).1), I ((doF a).2)] 28), blkE g14 (.cells #[r8, r9, r10] 26), rdE r8 ((doA a).Decls), rdE r9 ((doA a).Nodes), rdE r10 ((doA a).Hold), blkE g1 (.cells #[vD, vN, vH] 26), rdE vD a.Decls, rdE vN a.Nodes, rdE vH a.Hold] H49 := hS50
    exact ⟨g48, a45_1, a45_3, a45_4, a45_5, rfl, hS50⟩
  rintro f51 H51 ⟨g48, a51_1, a51_3, a51_4, a51_5, a51_7, hS51⟩
  clear a45_1 a45_3 a45_4 a45_47 a45_5
  have hS52 : St H0 NoB NoB [rowE 37 (Value.slice none 0 0) ([] : List Node), blkE g48 (.cells #[(Value.slice none 0 0), (Value.slice none 0 0)] 35), blkE g29 (.cells #[I (((sortsF a)).1), I (((sortsF a)).2)] 28), rdE r25 (sorts a), blkE g17 (.cells #[I ((doF a).1), I ((doF a).2)] 28), blkE g14 (.cells #[r8, r9, r10] 26), rdE r8 ((doA a).Decls), rdE r9 ((doA a).Nodes), rdE r10 ((doA a).Hold), blkE g1 (.cells #[vD, vN, vH] 26), rdE vD a.Decls, rdE vN a.Nodes, rdE vH a.Hold] H51 := hS51.row0 37
  have hS53 : St H0 NoB NoB [rowE 3 (Value.slice none 0 0) ([] : List Int), rowE 37 (Value.slice none 0 0) ([] : List Node), blkE g48 (.cells #[(Value.slice none 0 0), (Value.slice none 0 0)] 35), blkE g29 (.cells #[I (((sortsF a)).1), I (((sortsF a)).2)] 28), rdE r25 (sorts a), blkE g17 (.cells #[I ((doF a).1), I ((doF a).2)] 28), blkE g14 (.cells #[r8, r9, r10] 26), rdE r8 ((doA a).Decls), rdE r9 ((doA a).Nodes), rdE r10 ((doA a).Hold), blkE g1 (.cells #[vD, vN, vH] 26), rdE vD a.Decls, rdE vN a.Nodes, rdE vH a.Hold] H51 := hS52.row0 3
  refine wpF_seq ?_
  refine wpF_seq ?_
  refine wpF_cut (fun f H => f 1 = PT g1 0 ∧ f 3 = PT g14 0 ∧ f 4 = PT g17 0 ∧ f 5 = r25 ∧ f 7 = PT g48 0 ∧ f 8 = I (0) ∧ H51 = H) ?_ ?_
  · refine wpF_region ?_
    refine wpL_q (U := NoB) rfl (q_assign (v := I (0)) rfl rfl) ?_
    exact ⟨a51_1, a51_3, a51_4, a51_5, a51_7, rfl, rfl⟩
  rintro f54 _ ⟨a54_1, a54_3, a54_4, a54_5, a54_7, a54_8, rfl⟩
  clear a51_1 a51_3 a51_4 a51_5 a51_7
  refine wpF_block ?_
  refine wpF_loop (fun mz f H => ∃ (k : Nat), ∃ (vn : Value), ∃ (vt : Value), mz = a.Nodes.length - k ∧ (k ≤ a.Nodes.length) ∧ ((refTo a k).Nodes.length ≤ 200) ∧ f 1 = PT g1 0 ∧ f 3 = PT g14 0 ∧ f 4 = PT g17 0 ∧ f 5 = r25 ∧ f 7 = PT g48 0 ∧ f 8 = I ((k : Int)) ∧ St H0 NoB NoB [rowE 37 vn ((refTo a k).Nodes : List Node), rowE 3 vt ((refTo a k).To : List Int), blkE g48 (.cells #[vn, vt] 35), blkE g29 (.cells #[I (((sortsF a)).1), I (((sortsF a)).2)] 28), rdE r25 (sorts a), blkE g17 (.cells #[I ((doF a).1), I ((doF a).2)] 28), blkE g14 (.cells #[r8, r9, r10] 26), rdE r8 ((doA a).Decls), rdE r9 ((doA a).Nodes), rdE r10 ((doA a).Hold), blkE g1 (.cells #[vD, vN, vH] 26), rdE vD a.Decls, rdE vN a.Nodes, rdE vH a.Hold] H) (a.Nodes.length - 0) ?_ ?_
  · exact ⟨0, (Value.slice none 0 0), (Value.slice none 0 0), rfl, Nat.zero_le _, Nat.zero_le _, a54_1, a54_3, a54_4, a54_5, a54_7, (Eq.trans a54_8 (congrArg I (by omega))), (show St H0 NoB NoB [rowE 37 (Value.slice none 0 0) ((refTo a 0).Nodes : List Node), rowE 3 (Value.slice none 0 0) ((refTo a 0).To : List Int), blkE g48 (.cells #[(Value.slice none 0 0), (Value.slice none 0 0)] 35), blkE g29 (.cells #[I (((sortsF a)).1), I (((sortsF a)).2)] 28), rdE r25 (sorts a), blkE g17 (.cells #[I ((doF a).1), I ((doF a).2)] 28), blkE g14 (.cells #[r8, r9, r10] 26), rdE r8 ((doA a).Decls), rdE r9 ((doA a).Nodes), rdE r10 ((doA a).Hold), blkE g1 (.cells #[vD, vN, vH] 26), rdE vD a.Decls, rdE vN a.Nodes, rdE vH a.Hold] H51 from (St.drop (show St H0 NoB NoB [rowE 37 (Value.slice none 0 0) ([] : List Node), rowE 3 (Value.slice none 0 0) ([] : List Int), blkE g48 (.cells #[(Value.slice none 0 0), (Value.slice none 0 0)] 35), blkE g29 (.cells #[I (((sortsF a)).1), I (((sortsF a)).2)] 28), rdE r25 (sorts a), blkE g17 (.cells #[I ((doF a).1), I ((doF a).2)] 28), blkE g14 (.cells #[r8, r9, r10] 26), rdE r8 ((doA a).Decls), rdE r9 ((doA a).Nodes), rdE r10 ((doA a).Hold), blkE g1 (.cells #[vD, vN, vH] 26), rdE vD a.Decls, rdE vN a.Nodes, rdE vH a.Hold] H51 from (hS53.front 1 rfl)) (sk (sk (sk (sk (sk (sk (sk (sk (sk (sk (sk (sk (sk (sk (List.Sublist.slnil)))))))))))))))))⟩
  intro m55 f55 H55 hI55
  obtain ⟨k, vn, vt, hm55, hk, hN, a55_1, a55_3, a55_4, a55_5, a55_7, a55_8, hS55⟩ := hI55
  clear a54_1 a54_3 a54_4 a54_5 a54_7 a54_8
  refine wpF_seq ?_
  refine wpF_seq ?_
  refine wpF_cut (fun f H => f 1 = PT g1 0 ∧ f 3 = PT g14 0 ∧ f 4 = PT g17 0 ∧ f 5 = r25 ∧ f 7 = PT g48 0 ∧ f 8 = I ((k : Int)) ∧ f 52 = B (decide ((k : Int) < (a.Nodes.length : Int))) ∧ H55 = H) ?_ ?_
  · refine wpF_region ?_
    refine wpL_q (U := NoB) rfl (q_move (v := I ((k : Int))) rfl a55_8) ?_
    refine wpL_q (U := NoB) rfl (q_fieldAddr rfl Try.underlying26 rfl Try.sizeOf23 a55_1) ?_
    refine wpL_q (U := NoB) rfl (q_loadBlk rfl rfl Try.isAgg23 (hS55.blk 10 rfl) rfl (fun h => h)) ?_
    refine wpL_q (U := NoB) rfl (q_lenRd rfl Try.underlying23 rfl (hS55.rdl 12 rfl)) ?_
    refine wpL_q (U := NoB) rfl (q_lss rfl rfl rfl) ?_
    exact ⟨a55_1, a55_3, a55_4, a55_5, a55_7, a55_8, rfl, rfl⟩
  rintro f56 _ ⟨a56_1, a56_3, a56_4, a56_5, a56_7, a56_8, a56_52, rfl⟩
  clear a55_1 a55_3 a55_4 a55_5 a55_7 a55_8
  refine wpF_condP a56_52 (fun hlt => ?t238) (fun hlt => ?e238)
  case t238 =>
    have hkf := (hA.nodes k (by omega)).few
    have htl := refTo_to (a := a) k
    refine wpF_skip ?_
    refine wpF_seq ?_
    refine wpF_cut (fun f H => ∃ (vn2 : Value), ∃ (vt2 : Value), ((refTo a (k + 1)).Nodes.length ≤ 200) ∧ f 1 = PT g1 0 ∧ f 3 = PT g14 0 ∧ f 4 = PT g17 0 ∧ f 5 = r25 ∧ f 7 = PT g48 0 ∧ f 8 = I ((k : Int)) ∧ St H0 NoB NoB [rowE 37 vn2 ((refTo a (k + 1)).Nodes : List Node), rowE 3 vt2 ((refTo a (k + 1)).To : List Int), blkE g48 (.cells #[vn2, vt2] 35), blkE g29 (.cells #[I (((sortsF a)).1), I (((sortsF a)).2)] 28), rdE r25 (sorts a), blkE g17 (.cells #[I ((doF a).1), I ((doF a).2)] 28), blkE g14 (.cells #[r8, r9, r10] 26), rdE r8 ((doA a).Decls), rdE r9 ((doA a).Nodes), rdE r10 ((doA a).Hold), blkE g1 (.cells #[vD, vN, vH] 26), rdE vD a.Decls, rdE vN a.Nodes, rdE vH a.Hold] H) ?_ ?_
    · refine wpF_block ?_
      refine wpF_seq ?_
      refine wpF_cut (fun f H => ∃ (u63n1 : Value), ∃ (g65 : Nat), (In64 (nth a.Nodes k).Op) ∧ (In64 (nth a.Nodes k).N) ∧ (In64 (nth a.Nodes k).D) ∧ ((nth a.Nodes k).Name.size ≤ maxLen) ∧ f 1 = PT g1 0 ∧ f 3 = PT g14 0 ∧ f 4 = PT g17 0 ∧ f 5 = r25 ∧ f 7 = PT g48 0 ∧ f 8 = I ((k : Int)) ∧ f 9 = PT g65 0 ∧ St H0 NoB NoB [blkE g65 (.cells #[I ((nth a.Nodes k).Op), u63n1, I ((nth a.Nodes k).N), I ((nth a.Nodes k).D), SB ((nth a.Nodes k).Name)] 37), rdE u63n1 ((nth a.Nodes k).Kids), rowE 37 vn ((refTo a k).Nodes : List Node), rowE 3 vt ((refTo a k).To : List Int), blkE g48 (.cells #[vn, vt] 35), blkE g29 (.cells #[I (((sortsF a)).1), I (((sortsF a)).2)] 28), rdE r25 (sorts a), blkE g17 (.cells #[I ((doF a).1), I ((doF a).2)] 28), blkE g14 (.cells #[r8, r9, r10] 26), rdE r8 ((doA a).Decls), rdE r9 ((doA a).Nodes), rdE r10 ((doA a).Hold), blkE g1 (.cells #[vD, vN, vH] 26), rdE vD a.Decls, rdE vN a.Nodes, rdE vH a.Hold] H) ?_ ?_
      · refine wpF_region ?_
        refine wpL_q (U := NoB) rfl (q_fieldAddr rfl Try.underlying26 rfl Try.sizeOf23 a56_1) ?_
        refine wpL_q (U := NoB) rfl (q_loadBlk rfl rfl Try.isAgg23 (hS55.blk 10 rfl) rfl (fun h => h)) ?_
        refine wpL_q (U := NoB) rfl (q_move (v := I ((k : Int))) rfl a56_8) ?_
        refine wpL_q (U := NoB) rfl (q_indexRd (k := k) rfl Try.underlying23 el_Node_37_ArrSays1 rfl rfl (hS55.rdl 12 rfl) (by omega) (by omega)) ?_
        obtain ⟨u63, huu63, hlu63⟩ := (Rd.list.1 (hS55.rdS 12 rfl)).elem k (by omega)
        obtain ⟨u63n1, rfl, hu630, hu631, hu632, hu633, hu634⟩ := Rd.node.1 huu63
        have hS64 : St H0 NoB NoB [rdE u63n1 ((nth a.Nodes k).Kids), rowE 37 vn ((refTo a k).Nodes : List Node), rowE 3 vt ((refTo a k).To : List Int), blkE g48 (.cells #[vn, vt] 35), blkE g29 (.cells #[I (((sortsF a)).1), I (((sortsF a)).2)] 28), rdE r25 (sorts a), blkE g17 (.cells #[I ((doF a).1), I ((doF a).2)] 28), blkE g14 (.cells #[r8, r9, r10] 26), rdE r8 ((doA a).Decls), rdE r9 ((doA a).Nodes), rdE r10 ((doA a).Hold), blkE g1 (.cells #[vD, vN, vH] 26), rdE vD a.Decls, rdE vN a.Nodes, rdE vH a.Hold] H55 := hS55.rd hu631
        refine wpL_q (U := NoB) rfl (q_loadE rfl rfl (hlu63 Try.prog 37 _ el_Node_37_ArrSays1 (fun _ h => False.elim h))) ?_
        refine wpL_o rfl ?_
        refine e_alloc rfl Try.zeroValue37 hS64 (fun g65 H66 hS67 hxx => ?_)
        replace hS67 : St H0 NoB NoB [blkE g65 (.cells #[I (0), (Value.slice none 0 0), I (0), I (0), SB (ByteArray.mk #[])] 37), rdE u63n1 ((nth a.Nodes k).Kids), rowE 37 vn ((refTo a k).Nodes : List Node), rowE 3 vt ((refTo a k).To : List Int), blkE g48 (.cells #[vn, vt] 35), blkE g29 (.cells #[I (((sortsF a)).1), I (((sortsF a)).2)] 28), rdE r25 (sorts a), blkE g17 (.cells #[I ((doF a).1), I ((doF a).2)] 28), blkE g14 (.cells #[r8, r9, r10] 26), rdE r8 ((doA a).Decls), rdE r9 ((doA a).Nodes), rdE r10 ((doA a).Hold), blkE g1 (.cells #[vD, vN, vH] 26), rdE vD a.Decls, rdE vN a.Nodes, rdE vH a.Hold] H66 := hS67
        refine wpL_o rfl ?_
        refine e_storeBlkA (cs' := #[I ((nth a.Nodes k).Op), u63n1, I ((nth a.Nodes k).N), I ((nth a.Nodes k).D), SB ((nth a.Nodes k).Name)]) rfl rfl rfl Try.sizeOf37 rfl rfl (List.forall_mem_cons.2 ⟨rfl, List.forall_mem_cons.2 ⟨(oneCell_rdL (hS67.rdl 1 rfl)), List.forall_mem_cons.2 ⟨rfl, List.forall_mem_cons.2 ⟨rfl, List.forall_mem_cons.2 ⟨rfl, List.forall_mem_nil _⟩⟩⟩⟩⟩) hS67 (fun H68 hS69 hxx => ?_)
        replace hS69 : St H0 NoB NoB [blkE g65 (.cells #[I ((nth a.Nodes k).Op), u63n1, I ((nth a.Nodes k).N), I ((nth a.Nodes k).D), SB ((nth a.Nodes k).Name)] 37), rdE u63n1 ((nth a.Nodes k).Kids), rowE 37 vn ((refTo a k).Nodes : List Node), rowE 3 vt ((refTo a k).To : List Int), blkE g48 (.cells #[vn, vt] 35), blkE g29 (.cells #[I (((sortsF a)).1), I (((sortsF a)).2)] 28), rdE r25 (sorts a), blkE g17 (.cells #[I ((doF a).1), I ((doF a).2)] 28), blkE g14 (.cells #[r8, r9, r10] 26), rdE r8 ((doA a).Decls), rdE r9 ((doA a).Nodes), rdE r10 ((doA a).Hold), blkE g1 (.cells #[vD, vN, vH] 26), rdE vD a.Decls, rdE vN a.Nodes, rdE vH a.Hold] H68 := hS69
        exact ⟨u63n1, g65, hu630, hu632, hu633, hu634, a56_1, a56_3, a56_4, a56_5, a56_7, a56_8, rfl, hS69⟩
      rintro f70 H70 ⟨u63n1, g65, hu630, hu632, hu633, hu634, a70_1, a70_3, a70_4, a70_5, a70_7, a70_8, a70_9, hS70⟩
      clear a56_1 a56_3 a56_4 a56_5 a56_52 a56_7 a56_8
      refine wpF_seq ?_
      refine wpF_seq ?_
      refine wpF_cut (fun f H => f 1 = PT g1 0 ∧ f 3 = PT g14 0 ∧ f 4 = PT g17 0 ∧ f 5 = r25 ∧ f 7 = PT g48 0 ∧ f 8 = I ((k : Int)) ∧ f 9 = PT g65 0 ∧ f 64 = B (decide ((nth (sorts a) k) = 5)) ∧ H70 = H) ?_ ?_
      · refine wpF_region ?_
        refine wpL_q (U := NoB) rfl (q_move (v := r25) rfl a70_5) ?_
        refine wpL_q (U := NoB) rfl (q_move (v := I ((k : Int))) rfl a70_8) ?_
        refine wpL_q (U := NoB) rfl (q_indexRd (k := k) rfl Try.underlying24 el_Int_3_ArrSays1 rfl rfl (hS70.rdl 6 rfl) (by omega) (by omega)) ?_
        refine wpL_q (U := NoB) rfl (q_loadInt (k := k) rfl rfl el_Int_3_ArrSays1 (hS70.rdl 6 rfl) (by omega) (fun _ h => h)) ?_
        refine wpL_q (U := NoB) rfl (q_eql rfl rfl rfl) ?_
        exact ⟨a70_1, a70_3, a70_4, a70_5, a70_7, a70_8, a70_9, rfl, rfl⟩
      rintro f71 _ ⟨a71_1, a71_3, a71_4, a71_5, a71_7, a71_8, a71_9, a71_64, rfl⟩
      clear a70_1 a70_3 a70_4 a70_5 a70_7 a70_8 a70_9
      refine wpF_condP a71_64 (fun h64 => ?t131) (fun h64 => ?e131)
      case t131 =>
        refine wpF_seq ?_
        refine wpF_cut (fun f H => ∃ (v78 : Value), f 1 = PT g1 0 ∧ f 3 = PT g14 0 ∧ f 4 = PT g17 0 ∧ f 5 = r25 ∧ f 7 = PT g48 0 ∧ f 8 = I ((k : Int)) ∧ St H0 NoB NoB [blkE g48 (.cells #[vn, v78] 35), rowE 3 v78 ((refTo a (k + 1)).To : List Int), blkE g65 (.cells #[I ((nth a.Nodes k).Op), u63n1, I ((nth a.Nodes k).N), I ((nth a.Nodes k).D), SB ((nth a.Nodes k).Name)] 37), rdE u63n1 ((nth a.Nodes k).Kids), rowE 37 vn ((refTo a k).Nodes : List Node), blkE g29 (.cells #[I (((sortsF a)).1), I (((sortsF a)).2)] 28), rdE r25 (sorts a), blkE g17 (.cells #[I ((doF a).1), I ((doF a).2)] 28), blkE g14 (.cells #[r8, r9, r10] 26), rdE r8 ((doA a).Decls), rdE r9 ((doA a).Nodes), rdE r10 ((doA a).Hold), blkE g1 (.cells #[vD, vN, vH] 26), rdE vD a.Decls, rdE vN a.Nodes, rdE vH a.Hold] H) ?_ ?_
        · refine wpF_region ?_
          refine wpL_q (U := NoB) rfl (q_fieldAddr rfl Try.underlying35 rfl Try.sizeOf24 a71_7) ?_
          refine wpL_q (U := NoB) rfl (q_loadBlk rfl rfl Try.isAgg24 (hS70.blk 4 rfl) rfl (fun h => h)) ?_
          refine wpL_o rfl ?_
          refine e_buildSlice (vs := [I (-1)]) (xs := ([-1] : List Int)) rfl Try.underlying24 Try.zeroValue3 rfl Try.sizeOf3 (par1 (v0 := I (-1)) rfl) rfl hS70 (RdVs.cons (Rd.int.2 ⟨rfl, by first | assumption | (constructor <;> omega)⟩) (RdVs.nil)) (by decide) (by decide) (fun v73 H74 hS75 hxx hvv73 => ?_)
          replace hS75 : St H0 NoB NoB [rowE 3 v73 ([-1] : List Int), blkE g65 (.cells #[I ((nth a.Nodes k).Op), u63n1, I ((nth a.Nodes k).N), I ((nth a.Nodes k).D), SB ((nth a.Nodes k).Name)] 37), rdE u63n1 ((nth a.Nodes k).Kids), rowE 37 vn ((refTo a k).Nodes : List Node), rowE 3 vt ((refTo a k).To : List Int), blkE g48 (.cells #[vn, vt] 35), blkE g29 (.cells #[I (((sortsF a)).1), I (((sortsF a)).2)] 28), rdE r25 (sorts a), blkE g17 (.cells #[I ((doF a).1), I ((doF a).2)] 28), blkE g14 (.cells #[r8, r9, r10] 26), rdE r8 ((doA a).Decls), rdE r9 ((doA a).Nodes), rdE r10 ((doA a).Hold), blkE g1 (.cells #[vD, vN, vH] 26), rdE vD a.Decls, rdE vN a.Nodes, rdE vH a.Hold] H74 := hS75
          have hS76 : St H0 NoB NoB [rdE v73 ([-1] : List Int), blkE g65 (.cells #[I ((nth a.Nodes k).Op), u63n1, I ((nth a.Nodes k).N), I ((nth a.Nodes k).D), SB ((nth a.Nodes k).Name)] 37), rdE u63n1 ((nth a.Nodes k).Kids), rowE 37 vn ((refTo a k).Nodes : List Node), rowE 3 vt ((refTo a k).To : List Int), blkE g48 (.cells #[vn, vt] 35), blkE g29 (.cells #[I (((sortsF a)).1), I (((sortsF a)).2)] 28), rdE r25 (sorts a), blkE g17 (.cells #[I ((doF a).1), I ((doF a).2)] 28), blkE g14 (.cells #[r8, r9, r10] 26), rdE r8 ((doA a).Decls), rdE r9 ((doA a).Nodes), rdE r10 ((doA a).Hold), blkE g1 (.cells #[vD, vN, vH] 26), rdE vD a.Decls, rdE vN a.Nodes, rdE vH a.Hold] H74 := St.fin hS75
          have hS77 : St H0 NoB NoB [rowE 3 vt ((refTo a k).To : List Int), rdE v73 ([-1] : List Int), blkE g65 (.cells #[I ((nth a.Nodes k).Op), u63n1, I ((nth a.Nodes k).N), I ((nth a.Nodes k).D), SB ((nth a.Nodes k).Name)] 37), rdE u63n1 ((nth a.Nodes k).Kids), rowE 37 vn ((refTo a k).Nodes : List Node), blkE g48 (.cells #[vn, vt] 35), blkE g29 (.cells #[I (((sortsF a)).1), I (((sortsF a)).2)] 28), rdE r25 (sorts a), blkE g17 (.cells #[I ((doF a).1), I ((doF a).2)] 28), blkE g14 (.cells #[r8, r9, r10] 26), rdE r8 ((doA a).Decls), rdE r9 ((doA a).Nodes), rdE r10 ((doA a).Hold), blkE g1 (.cells #[vD, vN, vH] 26), rdE vD a.Decls, rdE vN a.Nodes, rdE vH a.Hold] H74 := (hS76.front 4 rfl)
          refine wpL_o rfl ?_
          refine e_append rfl Try.underlying24 em_Int_3_ArrSays1 rfl rfl hS77 (hS77.rdS 1 rfl) (fun _ h => h) (by have hb : GoT.bytes Int = 8 := rfl; rw [hb]; simp only [List.length_append, kidS_len, List.length_take, List.length_cons, List.length_nil]; omega) (by decide) (fun v78 H79 hS80 hxx => ?_)
          replace hS80 : St H0 NoB NoB [rowE 3 v78 (((refTo a k).To) ++ ([-1]) : List Int), rdE v73 ([-1] : List Int), blkE g65 (.cells #[I ((nth a.Nodes k).Op), u63n1, I ((nth a.Nodes k).N), I ((nth a.Nodes k).D), SB ((nth a.Nodes k).Name)] 37), rdE u63n1 ((nth a.Nodes k).Kids), rowE 37 vn ((refTo a k).Nodes : List Node), blkE g48 (.cells #[vn, vt] 35), blkE g29 (.cells #[I (((sortsF a)).1), I (((sortsF a)).2)] 28), rdE r25 (sorts a), blkE g17 (.cells #[I ((doF a).1), I ((doF a).2)] 28), blkE g14 (.cells #[r8, r9, r10] 26), rdE r8 ((doA a).Decls), rdE r9 ((doA a).Nodes), rdE r10 ((doA a).Hold), blkE g1 (.cells #[vD, vN, vH] 26), rdE vD a.Decls, rdE vN a.Nodes, rdE vH a.Hold] H79 := hS80
          have hS81 : St H0 NoB NoB [rowE 3 v78 ((refTo a (k + 1)).To : List Int), rdE v73 ([-1] : List Int), blkE g65 (.cells #[I ((nth a.Nodes k).Op), u63n1, I ((nth a.Nodes k).N), I ((nth a.Nodes k).D), SB ((nth a.Nodes k).Name)] 37), rdE u63n1 ((nth a.Nodes k).Kids), rowE 37 vn ((refTo a k).Nodes : List Node), blkE g48 (.cells #[vn, vt] 35), blkE g29 (.cells #[I (((sortsF a)).1), I (((sortsF a)).2)] 28), rdE r25 (sorts a), blkE g17 (.cells #[I ((doF a).1), I ((doF a).2)] 28), blkE g14 (.cells #[r8, r9, r10] 26), rdE r8 ((doA a).Decls), rdE r9 ((doA a).Nodes), rdE r10 ((doA a).Hold), blkE g1 (.cells #[vD, vN, vH] 26), rdE vD a.Decls, rdE vN a.Nodes, rdE vH a.Hold] H79 := by rw [show ((refTo a (k + 1)).To) = (((refTo a k).To) ++ ([-1])) from (ref_arr h64).2]; exact hS80
          refine wpL_q (U := NoB) rfl (q_fieldAddr rfl Try.underlying35 rfl Try.sizeOf24 a71_7) ?_
          refine wpL_o rfl ?_
          refine e_storeBlk (v := v78) rfl rfl rfl (oneCell_rdL (hS81.rowl 0 rfl)) Try.sizeOf24 (by show _ < 2; decide) (hS81.front 5 rfl) (fun H82 hS83 hxx => ?_)
          replace hS83 : St H0 NoB NoB [blkE g48 (.cells #[vn, v78] 35), rowE 3 v78 ((refTo a (k + 1)).To : List Int), rdE v73 ([-1] : List Int), blkE g65 (.cells #[I ((nth a.Nodes k).Op), u63n1, I ((nth a.Nodes k).N), I ((nth a.Nodes k).D), SB ((nth a.Nodes k).Name)] 37), rdE u63n1 ((nth a.Nodes k).Kids), rowE 37 vn ((refTo a k).Nodes : List Node), blkE g29 (.cells #[I (((sortsF a)).1), I (((sortsF a)).2)] 28), rdE r25 (sorts a), blkE g17 (.cells #[I ((doF a).1), I ((doF a).2)] 28), blkE g14 (.cells #[r8, r9, r10] 26), rdE r8 ((doA a).Decls), rdE r9 ((doA a).Nodes), rdE r10 ((doA a).Hold), blkE g1 (.cells #[vD, vN, vH] 26), rdE vD a.Decls, rdE vN a.Nodes, rdE vH a.Hold] H82 := hS83
          exact ⟨v78, a71_1, a71_3, a71_4, a71_5, a71_7, a71_8, (hS83.drop (sk (sk (sn (sk (sk (sk (sk (sk (sk (sk (sk (sk (sk (sk (sk (sk (sk (List.Sublist.slnil)))))))))))))))))))⟩
        rintro f84 H84 ⟨v78, a84_1, a84_3, a84_4, a84_5, a84_7, a84_8, hS84⟩
        clear a71_1 a71_3 a71_4 a71_5 a71_64 a71_7 a71_8 a71_9
        refine wpF_exit ?_
        refine atX_here ?_
        exact ⟨vn, v78, (by rw [(ref_arr h64).1]; omega), a84_1, a84_3, a84_4, a84_5, a84_7, a84_8, (by have h__ := (St.drop (show St H0 NoB NoB [rowE 37 vn ((refTo a k).Nodes : List Node), rowE 3 v78 ((refTo a (k + 1)).To : List Int), blkE g48 (.cells #[vn, v78] 35), blkE g65 (.cells #[I ((nth a.Nodes k).Op), u63n1, I ((nth a.Nodes k).N), I ((nth a.Nodes k).D), SB ((nth a.Nodes k).Name)] 37), rdE u63n1 ((nth a.Nodes k).Kids), blkE g29 (.cells #[I (((sortsF a)).1), I (((sortsF a)).2)] 28), rdE r25 (sorts a), blkE g17 (.cells #[I ((doF a).1), I ((doF a).2)] 28), blkE g14 (.cells #[r8, r9, r10] 26), rdE r8 ((doA a).Decls), rdE r9 ((doA a).Nodes), rdE r10 ((doA a).Hold), blkE g1 (.cells #[vD, vN, vH] 26), rdE vD a.Decls, rdE vN a.Nodes, rdE vH a.Hold] H84 from ((hS84.front 1 rfl).front 4 rfl)) (sk (sk (sk (sn (sn (sk (sk (sk (sk (sk (sk (sk (sk (sk (sk (sk (List.Sublist.slnil)))))))))))))))))); rw [(ref_arr h64).1]; exact h__)⟩
      refine wpF_skip ?_
      refine wpF_seq ?_
      refine wpF_seq ?_
      refine wpF_cut (fun f H => f 1 = PT g1 0 ∧ f 3 = PT g14 0 ∧ f 4 = PT g17 0 ∧ f 5 = r25 ∧ f 7 = PT g48 0 ∧ f 8 = I ((k : Int)) ∧ f 9 = PT g65 0 ∧ f 72 = B (decide (((nth a.Nodes k).Op) = 24)) ∧ H70 = H) ?_ ?_
      · refine wpF_region ?_
        refine wpL_q (U := NoB) rfl (q_fieldAddr rfl Try.underlying37 rfl Try.sizeOf3 a71_9) ?_
        refine wpL_q (U := NoB) rfl (q_loadBlk rfl rfl Try.isAgg3 (hS70.blk 0 rfl) rfl (fun h => h)) ?_
        refine wpL_q (U := NoB) rfl (q_eql rfl rfl rfl) ?_
        exact ⟨a71_1, a71_3, a71_4, a71_5, a71_7, a71_8, a71_9, rfl, rfl⟩
      rintro f85 _ ⟨a85_1, a85_3, a85_4, a85_5, a85_7, a85_8, a85_9, a85_72, rfl⟩
      clear a71_1 a71_3 a71_4 a71_5 a71_64 a71_7 a71_8 a71_9
      refine wpF_cut (fun f H => ∃ (vn3 : Value), ((refTo a (k + 1)).Nodes.length ≤ 1000) ∧ f 1 = PT g1 0 ∧ f 3 = PT g14 0 ∧ f 4 = PT g17 0 ∧ f 5 = r25 ∧ f 7 = PT g48 0 ∧ f 8 = I ((k : Int)) ∧ St H0 NoB NoB [rowE 37 vn3 ((refTo a (k + 1)).Nodes : List Node), rowE 3 vt ((refTo a k).To : List Int), blkE g48 (.cells #[vn3, vt] 35), blkE g29 (.cells #[I (((sortsF a)).1), I (((sortsF a)).2)] 28), rdE r25 (sorts a), blkE g17 (.cells #[I ((doF a).1), I ((doF a).2)] 28), blkE g14 (.cells #[r8, r9, r10] 26), rdE r8 ((doA a).Decls), rdE r9 ((doA a).Nodes), rdE r10 ((doA a).Hold), blkE g1 (.cells #[vD, vN, vH] 26), rdE vD a.Decls, rdE vN a.Nodes, rdE vH a.Hold] H) ?_ ?_
      · refine wpF_condP a85_72 (fun h72 => ?t110) (fun h72 => ?e110)
        case t110 =>
          have hgk := got_kids hA (k := k) (by omega) h72
          have hg0 := kid_lt hA (k := k) (by omega) (j := 0) (by omega)
          have hg1 := kid_lt hA (k := k) (by omega) (j := 1) (by omega)
          have hgc := got_chain hA (k := k) (m := k) (by omega) h72 (Nat.le_refl _)
          unfold kidN at hg0 hg1 hgc
          have hgl := getL_len (a := a) (to := (refTo a k).To) (x := nth (refTo a k).To (nth (nth a.Nodes k).Kids 1).toNat) (N := (refTo a k).Nodes) (nth (nth a.Nodes k).Kids 0).toNat
          have h6g := (hS70.rowl 3 rfl).in64 (k := (nth (nth a.Nodes k).Kids 1).toNat) (by omega)
          refine wpF_cut (fun f H => ∃ (r88o14 : Value), f 1 = PT g1 0 ∧ f 3 = PT g14 0 ∧ f 4 = PT g17 0 ∧ f 5 = r25 ∧ f 7 = PT g48 0 ∧ f 8 = I ((k : Int)) ∧ St H0 NoB NoB [blkE g48 (.cells #[r88o14, vt] 35), rowE 37 r88o14 (getL a ((refTo a k).To) (nth ((refTo a k).To) ((nth ((nth a.Nodes k).Kids) 1).toNat)) ((refTo a k).Nodes) (nth ((nth a.Nodes k).Kids) 0).toNat : List Node), rowE 3 vt ((refTo a k).To : List Int), blkE g65 (.cells #[I ((nth a.Nodes k).Op), u63n1, I ((nth a.Nodes k).N), I ((nth a.Nodes k).D), SB ((nth a.Nodes k).Name)] 37), rdE u63n1 ((nth a.Nodes k).Kids), blkE g29 (.cells #[I (((sortsF a)).1), I (((sortsF a)).2)] 28), rdE r25 (sorts a), blkE g17 (.cells #[I ((doF a).1), I ((doF a).2)] 28), blkE g14 (.cells #[r8, r9, r10] 26), rdE r8 ((doA a).Decls), rdE r9 ((doA a).Nodes), rdE r10 ((doA a).Hold), blkE g1 (.cells #[vD, vN, vH] 26), rdE vD a.Decls, rdE vN a.Nodes, rdE vH a.Hold] H) ?_ ?_
          · refine wpF_drawn [none, none, none, none, none, none, none, none, none, none, none, none, none, none, some 0, some 1] [[], [], [], [], [], [], [], [], [], [], [], [], [], [], [], []] (fun l b => match l with | 0 => True | 1 => True | _ => False) (by kernel_rfl) (by kernel_rfl) ?_
            refine wpR_q 0 (by kernel_rfl) rfl (quietAt rfl rfl (q_loadBlkA rfl a85_7 Try.isAgg35 Try.sizeOf35 rfl (hS70.blk 4 rfl) (labU_not [] rfl (List.forall_mem_nil _)))) ?_
            refine wpR_q 1 (by kernel_rfl) rfl (quietAt rfl rfl (q_loadBlkA rfl a85_1 Try.isAgg26 Try.sizeOf26 rfl (hS70.blk 12 rfl) (labU_not [] rfl (List.forall_mem_nil _)))) ?_
            refine wpR_q 2 (by kernel_rfl) rfl (quietAt rfl rfl (q_fieldAddr rfl Try.underlying37 rfl Try.sizeOf24 a85_9)) ?_
            refine wpR_q 3 (by kernel_rfl) rfl (quietAt rfl rfl (q_loadBlk rfl rfl Try.isAgg24 (hS70.blk 0 rfl) rfl (labU_not [] rfl (List.forall_mem_nil _)))) ?_
            refine wpR_q 4 (by kernel_rfl) rfl (quietAt rfl rfl (q_indexRd (k := 0) rfl Try.underlying24 el_Int_3_ArrSays1 rfl rfl (hS70.rdl 1 rfl) (by omega) (by omega))) ?_
            refine wpR_q 5 (by kernel_rfl) rfl (quietAt rfl rfl (q_loadInt (k := 0) rfl rfl el_Int_3_ArrSays1 (hS70.rdl 1 rfl) (by omega) (labU_sub [] rfl (List.forall_mem_nil _)))) ?_
            refine wpR_q 6 (by kernel_rfl) rfl (quietAt rfl rfl (q_fieldAddr rfl Try.underlying35 rfl Try.sizeOf24 a85_7)) ?_
            refine wpR_q 7 (by kernel_rfl) rfl (quietAt rfl rfl (q_loadBlk rfl rfl Try.isAgg24 (hS70.blk 4 rfl) rfl (labU_not [] rfl (List.forall_mem_nil _)))) ?_
            refine wpR_q 8 (by kernel_rfl) rfl (quietAt rfl rfl (q_fieldAddr rfl Try.underlying37 rfl Try.sizeOf24 a85_9)) ?_
            refine wpR_q 9 (by kernel_rfl) rfl (quietAt rfl rfl (q_loadBlk rfl rfl Try.isAgg24 (hS70.blk 0 rfl) rfl (labU_not [] rfl (List.forall_mem_nil _)))) ?_
            refine wpR_q 10 (by kernel_rfl) rfl (quietAt rfl rfl (q_indexRd (k := 1) rfl Try.underlying24 el_Int_3_ArrSays1 rfl rfl (hS70.rdl 1 rfl) (by omega) (by omega))) ?_
            refine wpR_q 11 (by kernel_rfl) rfl (quietAt rfl rfl (q_loadInt (k := 1) rfl rfl el_Int_3_ArrSays1 (hS70.rdl 1 rfl) (by omega) (labU_sub [] rfl (List.forall_mem_nil _)))) ?_
            refine wpR_q 12 (by kernel_rfl) rfl (quietAt rfl rfl (q_indexRd (k := (nth ((nth a.Nodes k).Kids) 1).toNat) rfl Try.underlying24 el_Int_3_ArrSays1 rfl rfl (hS70.rowl 3 rfl) (by omega) (by omega))) ?_
            refine wpR_q 13 (by kernel_rfl) rfl (quietAt rfl rfl (q_loadInt (k := (nth ((nth a.Nodes k).Kids) 1).toNat) rfl rfl el_Int_3_ArrSays1 (hS70.rowl 3 rfl) (by omega) (labU_sub [] rfl (List.forall_mem_nil _)))) ?_
            refine wpR_n [14] (by kernel_rfl) ?_
            refine List.forall_mem_cons.2 ⟨?_, List.forall_mem_nil _⟩
            have hS88o14 : St H0 NoB NoB [rowE 37 vn ((refTo a k).Nodes : List Node), rowE 3 vt ((refTo a k).To : List Int), blkE g65 (.cells #[I ((nth a.Nodes k).Op), u63n1, I ((nth a.Nodes k).N), I ((nth a.Nodes k).D), SB ((nth a.Nodes k).Name)] 37), rdE u63n1 ((nth a.Nodes k).Kids), blkE g48 (.cells #[vn, vt] 35), blkE g29 (.cells #[I (((sortsF a)).1), I (((sortsF a)).2)] 28), rdE r25 (sorts a), blkE g17 (.cells #[I ((doF a).1), I ((doF a).2)] 28), blkE g14 (.cells #[r8, r9, r10] 26), rdE r8 ((doA a).Decls), rdE r9 ((doA a).Nodes), rdE r10 ((doA a).Hold), blkE g1 (.cells #[vD, vN, vH] 26), rdE vD a.Decls, rdE vN a.Nodes, rdE vH a.Hold] H70 := (St.drop (show St H0 NoB NoB [rowE 37 vn ((refTo a k).Nodes : List Node), rowE 3 vt ((refTo a k).To : List Int), blkE g65 (.cells #[I ((nth a.Nodes k).Op), u63n1, I ((nth a.Nodes k).N), I ((nth a.Nodes k).D), SB ((nth a.Nodes k).Name)] 37), rdE u63n1 ((nth a.Nodes k).Kids), blkE g48 (.cells #[vn, vt] 35), blkE g29 (.cells #[I (((sortsF a)).1), I (((sortsF a)).2)] 28), rdE r25 (sorts a), blkE g17 (.cells #[I ((doF a).1), I ((doF a).2)] 28), blkE g14 (.cells #[r8, r9, r10] 26), rdE r8 ((doA a).Decls), rdE r9 ((doA a).Nodes), rdE r10 ((doA a).Hold), blkE g1 (.cells #[vD, vN, vH] 26), rdE vD a.Decls, rdE vN a.Nodes, rdE vH a.Hold] H70 from ((hS70.front 3 rfl).front 3 rfl)) (sk (sk (sk (sk (sk (sk (sk (sk (sk (sk (sk (sk (sk (sk (sk (sk (List.Sublist.slnil))))))))))))))))))
            refine exE rfl rfl ?_
            refine e_call rfl Try.call9 (arr4 (v0 := Value.agg #[vn, vt]) (v1 := Value.agg #[vD, vN, vH]) (v2 := I (nth ((nth a.Nodes k).Kids) 0)) (v3 := I (nth ((refTo a k).To) ((nth ((nth a.Nodes k).Kids) 1).toNat))) rfl rfl rfl rfl) (get_T _ _ vn vD vN vH vt a ((refTo a k).Nodes) ((refTo a k).To) (nth ((nth a.Nodes k).Kids) 0) (nth ((refTo a k).To) ((nth ((nth a.Nodes k).Kids) 1).toNat)) (St.give (A := [rowE 37 vn ((refTo a k).Nodes : List Node), rowE 3 vt ((refTo a k).To : List Int)]) (L := [blkE g65 (.cells #[I ((nth a.Nodes k).Op), u63n1, I ((nth a.Nodes k).N), I ((nth a.Nodes k).D), SB ((nth a.Nodes k).Name)] 37), rdE u63n1 ((nth a.Nodes k).Kids), blkE g48 (.cells #[vn, vt] 35), blkE g29 (.cells #[I (((sortsF a)).1), I (((sortsF a)).2)] 28), rdE r25 (sorts a), blkE g17 (.cells #[I ((doF a).1), I ((doF a).2)] 28), blkE g14 (.cells #[r8, r9, r10] 26), rdE r8 ((doA a).Decls), rdE r9 ((doA a).Nodes), rdE r10 ((doA a).Hold), blkE g1 (.cells #[vD, vN, vH] 26), rdE vD a.Decls, rdE vN a.Nodes, rdE vH a.Hold]) hS88o14)  (hS88o14.rdS 14 rfl) hg0.1 (by rw [htl]; exact hgc) h6g (by omega) (by omega) rfl) ?_
            rintro _ H88o14 ⟨hxx, r88o14, rfl, hgo⟩
            have hS88o14x2 : St H0 NoB NoB [rowE 37 r88o14 (getL a ((refTo a k).To) (nth ((refTo a k).To) ((nth ((nth a.Nodes k).Kids) 1).toNat)) ((refTo a k).Nodes) (nth ((nth a.Nodes k).Kids) 0).toNat : List Node), rowE 3 vt ((refTo a k).To : List Int), blkE g65 (.cells #[I ((nth a.Nodes k).Op), u63n1, I ((nth a.Nodes k).N), I ((nth a.Nodes k).D), SB ((nth a.Nodes k).Name)] 37), rdE u63n1 ((nth a.Nodes k).Kids), blkE g48 (.cells #[vn, vt] 35), blkE g29 (.cells #[I (((sortsF a)).1), I (((sortsF a)).2)] 28), rdE r25 (sorts a), blkE g17 (.cells #[I ((doF a).1), I ((doF a).2)] 28), blkE g14 (.cells #[r8, r9, r10] 26), rdE r8 ((doA a).Decls), rdE r9 ((doA a).Nodes), rdE r10 ((doA a).Hold), blkE g1 (.cells #[vD, vN, vH] 26), rdE vD a.Decls, rdE vN a.Nodes, rdE vH a.Hold] H88o14 := St.back3 (A := [rowE 37 vn ((refTo a k).Nodes : List Node), rowE 3 vt ((refTo a k).To : List Int)]) (A' := [rowE 37 r88o14 (getL a ((refTo a k).To) (nth ((refTo a k).To) ((nth ((nth a.Nodes k).Kids) 1).toNat)) ((refTo a k).Nodes) (nth ((nth a.Nodes k).Kids) 0).toNat : List Node), rowE 3 vt ((refTo a k).To : List Int)]) (L := [blkE g65 (.cells #[I ((nth a.Nodes k).Op), u63n1, I ((nth a.Nodes k).N), I ((nth a.Nodes k).D), SB ((nth a.Nodes k).Name)] 37), rdE u63n1 ((nth a.Nodes k).Kids), blkE g48 (.cells #[vn, vt] 35), blkE g29 (.cells #[I (((sortsF a)).1), I (((sortsF a)).2)] 28), rdE r25 (sorts a), blkE g17 (.cells #[I ((doF a).1), I ((doF a).2)] 28), blkE g14 (.cells #[r8, r9, r10] 26), rdE r8 ((doA a).Decls), rdE r9 ((doA a).Nodes), rdE r10 ((doA a).Hold), blkE g1 (.cells #[vD, vN, vH] 26), rdE vD a.Decls, rdE vN a.Nodes, rdE vH a.Hold]) hS88o14 hxx hgo
            refine ⟨Ext.mono hxx (labS_of 0 rfl (fun _ _ => trivial)), ?_⟩
            refine wpR_n [15] (by kernel_rfl) ?_
            refine List.forall_mem_cons.2 ⟨?_, List.forall_mem_nil _⟩
            refine exE rfl rfl ?_
            refine e_storeBlkA (cs' := #[r88o14, vt]) rfl a85_7 rfl Try.sizeOf35 rfl rfl (List.forall_mem_cons.2 ⟨(oneCell_rdL (hS88o14x2.rowl 0 rfl)), List.forall_mem_cons.2 ⟨(oneCell_rdL (hS88o14x2.rowl 1 rfl)), List.forall_mem_nil _⟩⟩) (hS88o14x2.front 4 rfl) (fun H88o15 hS88o15 hxx => ?_)
            replace hS88o15 : St H0 NoB NoB [blkE g48 (.cells #[r88o14, vt] 35), rowE 37 r88o14 (getL a ((refTo a k).To) (nth ((refTo a k).To) ((nth ((nth a.Nodes k).Kids) 1).toNat)) ((refTo a k).Nodes) (nth ((nth a.Nodes k).Kids) 0).toNat : List Node), rowE 3 vt ((refTo a k).To : List Int), blkE g65 (.cells #[I ((nth a.Nodes k).Op), u63n1, I ((nth a.Nodes k).N), I ((nth a.Nodes k).D), SB ((nth a.Nodes k).Name)] 37), rdE u63n1 ((nth a.Nodes k).Kids), blkE g29 (.cells #[I (((sortsF a)).1), I (((sortsF a)).2)] 28), rdE r25 (sorts a), blkE g17 (.cells #[I ((doF a).1), I ((doF a).2)] 28), blkE g14 (.cells #[r8, r9, r10] 26), rdE r8 ((doA a).Decls), rdE r9 ((doA a).Nodes), rdE r10 ((doA a).Hold), blkE g1 (.cells #[vD, vN, vH] 26), rdE vD a.Decls, rdE vN a.Nodes, rdE vH a.Hold] H88o15 := hS88o15
            refine ⟨Ext.mono hxx (labS_of 1 rfl (fun _ _ => trivial)), ?_⟩
            refine wpR_end (by kernel_rfl) ?_
            exact ⟨r88o14, a85_1, a85_3, a85_4, a85_5, a85_7, a85_8, hS88o15⟩
          rintro f89 H89 ⟨r88o14, a89_1, a89_3, a89_4, a89_5, a89_7, a89_8, hS89⟩
          clear a85_1 a85_3 a85_4 a85_5 a85_7 a85_72 a85_8 a85_9
          exact ⟨r88o14, (by rw [(ref_get h64 h72).1]; unfold kidN; omega), a89_1, a89_3, a89_4, a89_5, a89_7, a89_8, (by have h__ := (St.drop (show St H0 NoB NoB [rowE 37 r88o14 (getL a ((refTo a k).To) (nth ((refTo a k).To) ((nth ((nth a.Nodes k).Kids) 1).toNat)) ((refTo a k).Nodes) (nth ((nth a.Nodes k).Kids) 0).toNat : List Node), rowE 3 vt ((refTo a k).To : List Int), blkE g48 (.cells #[r88o14, vt] 35), blkE g65 (.cells #[I ((nth a.Nodes k).Op), u63n1, I ((nth a.Nodes k).N), I ((nth a.Nodes k).D), SB ((nth a.Nodes k).Name)] 37), rdE u63n1 ((nth a.Nodes k).Kids), blkE g29 (.cells #[I (((sortsF a)).1), I (((sortsF a)).2)] 28), rdE r25 (sorts a), blkE g17 (.cells #[I ((doF a).1), I ((doF a).2)] 28), blkE g14 (.cells #[r8, r9, r10] 26), rdE r8 ((doA a).Decls), rdE r9 ((doA a).Nodes), rdE r10 ((doA a).Hold), blkE g1 (.cells #[vD, vN, vH] 26), rdE vD a.Decls, rdE vN a.Nodes, rdE vH a.Hold] H89 from ((hS89.front 2 rfl).front 2 rfl)) (sk (sk (sk (sn (sn (sk (sk (sk (sk (sk (sk (sk (sk (sk (sk (sk (List.Sublist.slnil)))))))))))))))))); rw [(ref_get h64 h72).1]; exact h__)⟩
        refine wpF_seq ?_
        refine wpF_cut (fun f H => f 1 = PT g1 0 ∧ f 3 = PT g14 0 ∧ f 4 = PT g17 0 ∧ f 5 = r25 ∧ f 7 = PT g48 0 ∧ f 8 = I ((k : Int)) ∧ f 9 = PT g65 0 ∧ f 10 = (Value.slice none 0 0) ∧ H70 = H) ?_ ?_
        · refine wpF_region ?_
          refine wpL_q (U := NoB) rfl (q_assign (v := (Value.slice none 0 0)) rfl rfl) ?_
          exact ⟨a85_1, a85_3, a85_4, a85_5, a85_7, a85_8, a85_9, rfl, rfl⟩
        rintro f90 _ ⟨a90_1, a90_3, a90_4, a90_5, a90_7, a90_8, a90_9, a90_10, rfl⟩
        clear a85_1 a85_3 a85_4 a85_5 a85_7 a85_72 a85_8 a85_9
        have hS91 : St H0 NoB NoB [rowE 3 (Value.slice none 0 0) ([] : List Int), blkE g65 (.cells #[I ((nth a.Nodes k).Op), u63n1, I ((nth a.Nodes k).N), I ((nth a.Nodes k).D), SB ((nth a.Nodes k).Name)] 37), rdE u63n1 ((nth a.Nodes k).Kids), rowE 37 vn ((refTo a k).Nodes : List Node), rowE 3 vt ((refTo a k).To : List Int), blkE g48 (.cells #[vn, vt] 35), blkE g29 (.cells #[I (((sortsF a)).1), I (((sortsF a)).2)] 28), rdE r25 (sorts a), blkE g17 (.cells #[I ((doF a).1), I ((doF a).2)] 28), blkE g14 (.cells #[r8, r9, r10] 26), rdE r8 ((doA a).Decls), rdE r9 ((doA a).Nodes), rdE r10 ((doA a).Hold), blkE g1 (.cells #[vD, vN, vH] 26), rdE vD a.Decls, rdE vN a.Nodes, rdE vH a.Hold] H70 := hS70.row0 3
        refine wpF_seq ?_
        refine wpF_seq ?_
        refine wpF_cut (fun f H => f 1 = PT g1 0 ∧ f 3 = PT g14 0 ∧ f 4 = PT g17 0 ∧ f 5 = r25 ∧ f 7 = PT g48 0 ∧ f 8 = I ((k : Int)) ∧ f 9 = PT g65 0 ∧ f 10 = (Value.slice none 0 0) ∧ f 11 = I (0) ∧ H70 = H) ?_ ?_
        · refine wpF_region ?_
          refine wpL_q (U := NoB) rfl (q_assign (v := I (0)) rfl rfl) ?_
          exact ⟨a90_1, a90_3, a90_4, a90_5, a90_7, a90_8, a90_9, a90_10, rfl, rfl⟩
        rintro f92 _ ⟨a92_1, a92_3, a92_4, a92_5, a92_7, a92_8, a92_9, a92_10, a92_11, rfl⟩
        clear a90_1 a90_10 a90_3 a90_4 a90_5 a90_7 a90_8 a90_9
        refine wpF_block ?_
        refine wpF_loop (fun mz f H => ∃ (j : Nat), ∃ (vK : Value), mz = (nth a.Nodes k).Kids.length - j ∧ (j ≤ (nth a.Nodes k).Kids.length) ∧ f 1 = PT g1 0 ∧ f 3 = PT g14 0 ∧ f 4 = PT g17 0 ∧ f 5 = r25 ∧ f 7 = PT g48 0 ∧ f 8 = I ((k : Int)) ∧ f 9 = PT g65 0 ∧ f 10 = vK ∧ f 11 = I ((j : Int)) ∧ St H0 NoB NoB [rowE 3 vK (kidS (refTo a k).To ((nth a.Nodes k).Kids.take j) : List Int), blkE g65 (.cells #[I ((nth a.Nodes k).Op), u63n1, I ((nth a.Nodes k).N), I ((nth a.Nodes k).D), SB ((nth a.Nodes k).Name)] 37), rdE u63n1 ((nth a.Nodes k).Kids), rowE 37 vn ((refTo a k).Nodes : List Node), rowE 3 vt ((refTo a k).To : List Int), blkE g48 (.cells #[vn, vt] 35), blkE g29 (.cells #[I (((sortsF a)).1), I (((sortsF a)).2)] 28), rdE r25 (sorts a), blkE g17 (.cells #[I ((doF a).1), I ((doF a).2)] 28), blkE g14 (.cells #[r8, r9, r10] 26), rdE r8 ((doA a).Decls), rdE r9 ((doA a).Nodes), rdE r10 ((doA a).Hold), blkE g1 (.cells #[vD, vN, vH] 26), rdE vD a.Decls, rdE vN a.Nodes, rdE vH a.Hold] H) ((nth a.Nodes k).Kids.length - 0) ?_ ?_
        · exact ⟨0, (Value.slice none 0 0), rfl, Nat.zero_le _, a92_1, a92_3, a92_4, a92_5, a92_7, a92_8, a92_9, a92_10, (Eq.trans a92_11 (congrArg I (by omega))), (show St H0 NoB NoB [rowE 3 (Value.slice none 0 0) (kidS (refTo a k).To ((nth a.Nodes k).Kids.take 0) : List Int), blkE g65 (.cells #[I ((nth a.Nodes k).Op), u63n1, I ((nth a.Nodes k).N), I ((nth a.Nodes k).D), SB ((nth a.Nodes k).Name)] 37), rdE u63n1 ((nth a.Nodes k).Kids), rowE 37 vn ((refTo a k).Nodes : List Node), rowE 3 vt ((refTo a k).To : List Int), blkE g48 (.cells #[vn, vt] 35), blkE g29 (.cells #[I (((sortsF a)).1), I (((sortsF a)).2)] 28), rdE r25 (sorts a), blkE g17 (.cells #[I ((doF a).1), I ((doF a).2)] 28), blkE g14 (.cells #[r8, r9, r10] 26), rdE r8 ((doA a).Decls), rdE r9 ((doA a).Nodes), rdE r10 ((doA a).Hold), blkE g1 (.cells #[vD, vN, vH] 26), rdE vD a.Decls, rdE vN a.Nodes, rdE vH a.Hold] H70 from hS91)⟩
        intro m93 f93 H93 hI93
        obtain ⟨j, vK, hm93, hj, a93_1, a93_3, a93_4, a93_5, a93_7, a93_8, a93_9, a93_10, a93_11, hS93⟩ := hI93
        clear a92_1 a92_10 a92_11 a92_3 a92_4 a92_5 a92_7 a92_8 a92_9
        refine wpF_seq ?_
        refine wpF_seq ?_
        refine wpF_cut (fun f H => f 1 = PT g1 0 ∧ f 3 = PT g14 0 ∧ f 4 = PT g17 0 ∧ f 5 = r25 ∧ f 7 = PT g48 0 ∧ f 8 = I ((k : Int)) ∧ f 9 = PT g65 0 ∧ f 10 = vK ∧ f 11 = I ((j : Int)) ∧ f 92 = B (decide ((j : Int) < (((nth a.Nodes k).Kids).length : Int))) ∧ H93 = H) ?_ ?_
        · refine wpF_region ?_
          refine wpL_q (U := NoB) rfl (q_move (v := I ((j : Int))) rfl a93_11) ?_
          refine wpL_q (U := NoB) rfl (q_fieldAddr rfl Try.underlying37 rfl Try.sizeOf24 a93_9) ?_
          refine wpL_q (U := NoB) rfl (q_loadBlk rfl rfl Try.isAgg24 (hS93.blk 1 rfl) rfl (fun h => h)) ?_
          refine wpL_q (U := NoB) rfl (q_lenRd rfl Try.underlying24 rfl (hS93.rdl 2 rfl)) ?_
          refine wpL_q (U := NoB) rfl (q_lss rfl rfl rfl) ?_
          exact ⟨a93_1, a93_3, a93_4, a93_5, a93_7, a93_8, a93_9, a93_10, a93_11, rfl, rfl⟩
        rintro f94 _ ⟨a94_1, a94_3, a94_4, a94_5, a94_7, a94_8, a94_9, a94_10, a94_11, a94_92, rfl⟩
        clear a93_1 a93_10 a93_11 a93_3 a93_4 a93_5 a93_7 a93_8 a93_9
        refine wpF_condP a94_92 (fun hlt2 => ?t109) (fun hlt2 => ?e109)
        case e109 =>
          have hS96 : St H0 NoB NoB [rowE 3 vK (kidS (refTo a k).To (nth a.Nodes k).Kids : List Int), blkE g65 (.cells #[I ((nth a.Nodes k).Op), u63n1, I ((nth a.Nodes k).N), I ((nth a.Nodes k).D), SB ((nth a.Nodes k).Name)] 37), rdE u63n1 ((nth a.Nodes k).Kids), rowE 37 vn ((refTo a k).Nodes : List Node), rowE 3 vt ((refTo a k).To : List Int), blkE g48 (.cells #[vn, vt] 35), blkE g29 (.cells #[I (((sortsF a)).1), I (((sortsF a)).2)] 28), rdE r25 (sorts a), blkE g17 (.cells #[I ((doF a).1), I ((doF a).2)] 28), blkE g14 (.cells #[r8, r9, r10] 26), rdE r8 ((doA a).Decls), rdE r9 ((doA a).Nodes), rdE r10 ((doA a).Hold), blkE g1 (.cells #[vD, vN, vH] 26), rdE vD a.Decls, rdE vN a.Nodes, rdE vH a.Hold] H93 := by have h__ := hS93; rw [List.take_of_length_le (show (nth a.Nodes k).Kids.length ≤ j by omega)] at h__; exact h__
          refine wpF_exit ?_
          refine atX_here ?_
          refine wpF_cut (fun f H => ∃ (r102 : Value), f 1 = PT g1 0 ∧ f 3 = PT g14 0 ∧ f 4 = PT g17 0 ∧ f 5 = r25 ∧ f 7 = PT g48 0 ∧ f 8 = I ((k : Int)) ∧ St H0 NoB NoB [blkE g48 (.cells #[r102, vt] 35), rowE 37 r102 (((refTo a k).Nodes) ++ [withKids (nth a.Nodes k) (kidS (refTo a k).To (nth a.Nodes k).Kids)] : List Node), rowE 3 vt ((refTo a k).To : List Int), blkE g65 (.cells #[I ((nth a.Nodes k).Op), u63n1, I ((nth a.Nodes k).N), I ((nth a.Nodes k).D), SB ((nth a.Nodes k).Name)] 37), rdE u63n1 ((nth a.Nodes k).Kids), blkE g29 (.cells #[I (((sortsF a)).1), I (((sortsF a)).2)] 28), rdE r25 (sorts a), blkE g17 (.cells #[I ((doF a).1), I ((doF a).2)] 28), blkE g14 (.cells #[r8, r9, r10] 26), rdE r8 ((doA a).Decls), rdE r9 ((doA a).Nodes), rdE r10 ((doA a).Hold), blkE g1 (.cells #[vD, vN, vH] 26), rdE vD a.Decls, rdE vN a.Nodes, rdE vH a.Hold] H) ?_ ?_
          · refine wpF_region ?_
            refine wpL_q (U := NoB) rfl (q_loadBlkA rfl a94_7 Try.isAgg35 Try.sizeOf35 rfl (hS96.blk 5 rfl) (fun h => h)) ?_
            refine wpL_q (U := NoB) rfl (q_loadBlkA rfl a94_9 Try.isAgg37 Try.sizeOf37 rfl (hS96.blk 1 rfl) (fun h => h)) ?_
            refine wpL_q (U := NoB) rfl (q_move (v := vK) rfl a94_10) ?_
            have hS100 : St H0 NoB NoB [rdE vK (kidS (refTo a k).To (nth a.Nodes k).Kids), blkE g65 (.cells #[I ((nth a.Nodes k).Op), u63n1, I ((nth a.Nodes k).N), I ((nth a.Nodes k).D), SB ((nth a.Nodes k).Name)] 37), rdE u63n1 ((nth a.Nodes k).Kids), rowE 37 vn ((refTo a k).Nodes : List Node), rowE 3 vt ((refTo a k).To : List Int), blkE g48 (.cells #[vn, vt] 35), blkE g29 (.cells #[I (((sortsF a)).1), I (((sortsF a)).2)] 28), rdE r25 (sorts a), blkE g17 (.cells #[I ((doF a).1), I ((doF a).2)] 28), blkE g14 (.cells #[r8, r9, r10] 26), rdE r8 ((doA a).Decls), rdE r9 ((doA a).Nodes), rdE r10 ((doA a).Hold), blkE g1 (.cells #[vD, vN, vH] 26), rdE vD a.Decls, rdE vN a.Nodes, rdE vH a.Hold] H93 := St.fin hS96
            have hS101 : St H0 NoB NoB [rowE 37 vn ((refTo a k).Nodes : List Node), rowE 3 vt ((refTo a k).To : List Int), rdE vK (kidS (refTo a k).To (nth a.Nodes k).Kids), blkE g65 (.cells #[I ((nth a.Nodes k).Op), u63n1, I ((nth a.Nodes k).N), I ((nth a.Nodes k).D), SB ((nth a.Nodes k).Name)] 37), rdE u63n1 ((nth a.Nodes k).Kids), blkE g48 (.cells #[vn, vt] 35), blkE g29 (.cells #[I (((sortsF a)).1), I (((sortsF a)).2)] 28), rdE r25 (sorts a), blkE g17 (.cells #[I ((doF a).1), I ((doF a).2)] 28), blkE g14 (.cells #[r8, r9, r10] 26), rdE r8 ((doA a).Decls), rdE r9 ((doA a).Nodes), rdE r10 ((doA a).Hold), blkE g1 (.cells #[vD, vN, vH] 26), rdE vD a.Decls, rdE vN a.Nodes, rdE vH a.Hold] H93 := (St.drop (show St H0 NoB NoB [rowE 37 vn ((refTo a k).Nodes : List Node), rowE 3 vt ((refTo a k).To : List Int), rdE vK (kidS (refTo a k).To (nth a.Nodes k).Kids), blkE g65 (.cells #[I ((nth a.Nodes k).Op), u63n1, I ((nth a.Nodes k).N), I ((nth a.Nodes k).D), SB ((nth a.Nodes k).Name)] 37), rdE u63n1 ((nth a.Nodes k).Kids), blkE g48 (.cells #[vn, vt] 35), blkE g29 (.cells #[I (((sortsF a)).1), I (((sortsF a)).2)] 28), rdE r25 (sorts a), blkE g17 (.cells #[I ((doF a).1), I ((doF a).2)] 28), blkE g14 (.cells #[r8, r9, r10] 26), rdE r8 ((doA a).Decls), rdE r9 ((doA a).Nodes), rdE r10 ((doA a).Hold), blkE g1 (.cells #[vD, vN, vH] 26), rdE vD a.Decls, rdE vN a.Nodes, rdE vH a.Hold] H93 from ((hS100.front 4 rfl).front 4 rfl)) (sk (sk (sk (sk (sk (sk (sk (sk (sk (sk (sk (sk (sk (sk (sk (sk (sk (List.Sublist.slnil)))))))))))))))))))
            refine wpL_o rfl ?_
            refine e_call rfl Try.call10 (arr3 (v0 := Value.agg #[vn, vt]) (v1 := Value.agg #[I ((nth a.Nodes k).Op), u63n1, I ((nth a.Nodes k).N), I ((nth a.Nodes k).D), SB ((nth a.Nodes k).Name)]) (v2 := vK) rfl rfl rfl) (add_T _ vn vt u63n1 vK ((refTo a k).Nodes) ((refTo a k).To) (nth a.Nodes k) (kidS (refTo a k).To (nth a.Nodes k).Kids) (St.give (A := [rowE 37 vn ((refTo a k).Nodes : List Node), rowE 3 vt ((refTo a k).To : List Int)]) (L := [rdE vK (kidS (refTo a k).To (nth a.Nodes k).Kids), blkE g65 (.cells #[I ((nth a.Nodes k).Op), u63n1, I ((nth a.Nodes k).N), I ((nth a.Nodes k).D), SB ((nth a.Nodes k).Name)] 37), rdE u63n1 ((nth a.Nodes k).Kids), blkE g48 (.cells #[vn, vt] 35), blkE g29 (.cells #[I (((sortsF a)).1), I (((sortsF a)).2)] 28), rdE r25 (sorts a), blkE g17 (.cells #[I ((doF a).1), I ((doF a).2)] 28), blkE g14 (.cells #[r8, r9, r10] 26), rdE r8 ((doA a).Decls), rdE r9 ((doA a).Nodes), rdE r10 ((doA a).Hold), blkE g1 (.cells #[vD, vN, vH] 26), rdE vD a.Decls, rdE vN a.Nodes, rdE vH a.Hold]) hS101) (by first | assumption | (constructor <;> (dsimp only; omega))) (hS101.rdS 4 rfl) (by first | assumption | (constructor <;> (dsimp only; omega))) (by first | assumption | (constructor <;> (dsimp only; omega))) (by first | assumption | exact Nat.zero_le _) (hS101.rdS 2 rfl) (by first | omega | (simp only [List.length_append, List.length_cons, List.length_nil]; omega))) ?_
            rintro _ H103 ⟨hxx, r102, rfl, hgo⟩
            have hS104 : St H0 NoB NoB [rowE 37 r102 (((refTo a k).Nodes) ++ [withKids (nth a.Nodes k) (kidS (refTo a k).To (nth a.Nodes k).Kids)] : List Node), rowE 3 vt ((refTo a k).To : List Int), rdE vK (kidS (refTo a k).To (nth a.Nodes k).Kids), blkE g65 (.cells #[I ((nth a.Nodes k).Op), u63n1, I ((nth a.Nodes k).N), I ((nth a.Nodes k).D), SB ((nth a.Nodes k).Name)] 37), rdE u63n1 ((nth a.Nodes k).Kids), blkE g48 (.cells #[vn, vt] 35), blkE g29 (.cells #[I (((sortsF a)).1), I (((sortsF a)).2)] 28), rdE r25 (sorts a), blkE g17 (.cells #[I ((doF a).1), I ((doF a).2)] 28), blkE g14 (.cells #[r8, r9, r10] 26), rdE r8 ((doA a).Decls), rdE r9 ((doA a).Nodes), rdE r10 ((doA a).Hold), blkE g1 (.cells #[vD, vN, vH] 26), rdE vD a.Decls, rdE vN a.Nodes, rdE vH a.Hold] H103 := St.back3 (A := [rowE 37 vn ((refTo a k).Nodes : List Node), rowE 3 vt ((refTo a k).To : List Int)]) (A' := [rowE 37 r102 (((refTo a k).Nodes) ++ [withKids (nth a.Nodes k) (kidS (refTo a k).To (nth a.Nodes k).Kids)] : List Node), rowE 3 vt ((refTo a k).To : List Int)]) (L := [rdE vK (kidS (refTo a k).To (nth a.Nodes k).Kids), blkE g65 (.cells #[I ((nth a.Nodes k).Op), u63n1, I ((nth a.Nodes k).N), I ((nth a.Nodes k).D), SB ((nth a.Nodes k).Name)] 37), rdE u63n1 ((nth a.Nodes k).Kids), blkE g48 (.cells #[vn, vt] 35), blkE g29 (.cells #[I (((sortsF a)).1), I (((sortsF a)).2)] 28), rdE r25 (sorts a), blkE g17 (.cells #[I ((doF a).1), I ((doF a).2)] 28), blkE g14 (.cells #[r8, r9, r10] 26), rdE r8 ((doA a).Decls), rdE r9 ((doA a).Nodes), rdE r10 ((doA a).Hold), blkE g1 (.cells #[vD, vN, vH] 26), rdE vD a.Decls, rdE vN a.Nodes, rdE vH a.Hold]) hS101 hxx hgo
            refine wpL_o rfl ?_
            refine e_storeBlkA (cs' := #[r102, vt]) rfl a94_7 rfl Try.sizeOf35 rfl rfl (List.forall_mem_cons.2 ⟨(oneCell_rdL (hS104.rowl 0 rfl)), List.forall_mem_cons.2 ⟨(oneCell_rdL (hS104.rowl 1 rfl)), List.forall_mem_nil _⟩⟩) (hS104.front 5 rfl) (fun H106 hS107 hxx => ?_)
            replace hS107 : St H0 NoB NoB [blkE g48 (.cells #[r102, vt] 35), rowE 37 r102 (((refTo a k).Nodes) ++ [withKids (nth a.Nodes k) (kidS (refTo a k).To (nth a.Nodes k).Kids)] : List Node), rowE 3 vt ((refTo a k).To : List Int), rdE vK (kidS (refTo a k).To (nth a.Nodes k).Kids), blkE g65 (.cells #[I ((nth a.Nodes k).Op), u63n1, I ((nth a.Nodes k).N), I ((nth a.Nodes k).D), SB ((nth a.Nodes k).Name)] 37), rdE u63n1 ((nth a.Nodes k).Kids), blkE g29 (.cells #[I (((sortsF a)).1), I (((sortsF a)).2)] 28), rdE r25 (sorts a), blkE g17 (.cells #[I ((doF a).1), I ((doF a).2)] 28), blkE g14 (.cells #[r8, r9, r10] 26), rdE r8 ((doA a).Decls), rdE r9 ((doA a).Nodes), rdE r10 ((doA a).Hold), blkE g1 (.cells #[vD, vN, vH] 26), rdE vD a.Decls, rdE vN a.Nodes, rdE vH a.Hold] H106 := hS107
            exact ⟨r102, a94_1, a94_3, a94_4, a94_5, a94_7, a94_8, (hS107.drop (sk (sk (sk (sn (sk (sk (sk (sk (sk (sk (sk (sk (sk (sk (sk (sk (sk (List.Sublist.slnil)))))))))))))))))))⟩
          rintro f108 H108 ⟨r102, a108_1, a108_3, a108_4, a108_5, a108_7, a108_8, hS108⟩
          clear a94_1 a94_10 a94_11 a94_3 a94_4 a94_5 a94_7 a94_8 a94_9 a94_92
          exact ⟨r102, (by rw [(ref_flat h64 h72).1]; rw [List.length_append, List.length_singleton]; omega), a108_1, a108_3, a108_4, a108_5, a108_7, a108_8, (by have h__ := (St.drop (show St H0 NoB NoB [rowE 37 r102 (((refTo a k).Nodes) ++ [withKids (nth a.Nodes k) (kidS (refTo a k).To (nth a.Nodes k).Kids)] : List Node), rowE 3 vt ((refTo a k).To : List Int), blkE g48 (.cells #[r102, vt] 35), blkE g65 (.cells #[I ((nth a.Nodes k).Op), u63n1, I ((nth a.Nodes k).N), I ((nth a.Nodes k).D), SB ((nth a.Nodes k).Name)] 37), rdE u63n1 ((nth a.Nodes k).Kids), blkE g29 (.cells #[I (((sortsF a)).1), I (((sortsF a)).2)] 28), rdE r25 (sorts a), blkE g17 (.cells #[I ((doF a).1), I ((doF a).2)] 28), blkE g14 (.cells #[r8, r9, r10] 26), rdE r8 ((doA a).Decls), rdE r9 ((doA a).Nodes), rdE r10 ((doA a).Hold), blkE g1 (.cells #[vD, vN, vH] 26), rdE vD a.Decls, rdE vN a.Nodes, rdE vH a.Hold] H108 from ((hS108.front 2 rfl).front 2 rfl)) (sk (sk (sk (sn (sn (sk (sk (sk (sk (sk (sk (sk (sk (sk (sk (sk (List.Sublist.slnil)))))))))))))))))); rw [(ref_flat h64 h72).1]; exact h__)⟩
        have hkj := kid_lt hA (k := k) (by omega) (j := j) (by omega)
        unfold kidN at hkj
        refine wpF_skip ?_
        refine wpF_seq ?_
        refine wpF_block ?_
        have h6j := (hS93.rowl 4 rfl).in64 (k := (nth (nth a.Nodes k).Kids j).toNat) (by omega)
        refine wpF_cut (fun f H => ∃ (v97o11 : Value), f 1 = PT g1 0 ∧ f 3 = PT g14 0 ∧ f 4 = PT g17 0 ∧ f 5 = r25 ∧ f 7 = PT g48 0 ∧ f 8 = I ((k : Int)) ∧ f 9 = PT g65 0 ∧ f 10 = v97o11 ∧ f 11 = I ((j : Int)) ∧ St H0 NoB NoB [rowE 3 v97o11 (kidS (refTo a k).To ((nth a.Nodes k).Kids.take (j + 1)) : List Int), blkE g65 (.cells #[I ((nth a.Nodes k).Op), u63n1, I ((nth a.Nodes k).N), I ((nth a.Nodes k).D), SB ((nth a.Nodes k).Name)] 37), rdE u63n1 ((nth a.Nodes k).Kids), rowE 37 vn ((refTo a k).Nodes : List Node), rowE 3 vt ((refTo a k).To : List Int), blkE g48 (.cells #[vn, vt] 35), blkE g29 (.cells #[I (((sortsF a)).1), I (((sortsF a)).2)] 28), rdE r25 (sorts a), blkE g17 (.cells #[I ((doF a).1), I ((doF a).2)] 28), blkE g14 (.cells #[r8, r9, r10] 26), rdE r8 ((doA a).Decls), rdE r9 ((doA a).Nodes), rdE r10 ((doA a).Hold), blkE g1 (.cells #[vD, vN, vH] 26), rdE vD a.Decls, rdE vN a.Nodes, rdE vH a.Hold] H) ?_ ?_
        · refine wpF_drawn [none, none, none, none, none, none, none, none, none, none, none, some 0, none] [[], [], [], [], [], [], [], [], [], [], [], [], []] (fun l b => match l with | 0 => True | _ => False) (by kernel_rfl) (by kernel_rfl) ?_
          refine wpR_q 0 (by kernel_rfl) rfl (quietAt rfl rfl (q_move (v := vK) rfl a94_10)) ?_
          refine wpR_q 1 (by kernel_rfl) rfl (quietAt rfl rfl (q_fieldAddr rfl Try.underlying35 rfl Try.sizeOf24 a94_7)) ?_
          refine wpR_q 2 (by kernel_rfl) rfl (quietAt rfl rfl (q_loadBlk rfl rfl Try.isAgg24 (hS93.blk 5 rfl) rfl (labU_not [] rfl (List.forall_mem_nil _)))) ?_
          refine wpR_q 3 (by kernel_rfl) rfl (quietAt rfl rfl (q_fieldAddr rfl Try.underlying37 rfl Try.sizeOf24 a94_9)) ?_
          refine wpR_q 4 (by kernel_rfl) rfl (quietAt rfl rfl (q_loadBlk rfl rfl Try.isAgg24 (hS93.blk 1 rfl) rfl (labU_not [] rfl (List.forall_mem_nil _)))) ?_
          refine wpR_q 5 (by kernel_rfl) rfl (quietAt rfl rfl (q_move (v := I ((j : Int))) rfl a94_11)) ?_
          refine wpR_q 6 (by kernel_rfl) rfl (quietAt rfl rfl (q_indexRd (k := j) rfl Try.underlying24 el_Int_3_ArrSays1 rfl rfl (hS93.rdl 2 rfl) (by omega) (by omega))) ?_
          refine wpR_q 7 (by kernel_rfl) rfl (quietAt rfl rfl (q_loadInt (k := j) rfl rfl el_Int_3_ArrSays1 (hS93.rdl 2 rfl) (by omega) (labU_sub [] rfl (List.forall_mem_nil _)))) ?_
          refine wpR_q 8 (by kernel_rfl) rfl (quietAt rfl rfl (q_indexRd (k := (nth ((nth a.Nodes k).Kids) j).toNat) rfl Try.underlying24 el_Int_3_ArrSays1 rfl rfl (hS93.rowl 4 rfl) (by omega) (by omega))) ?_
          refine wpR_q 9 (by kernel_rfl) rfl (quietAt rfl rfl (q_loadInt (k := (nth ((nth a.Nodes k).Kids) j).toNat) rfl rfl el_Int_3_ArrSays1 (hS93.rowl 4 rfl) (by omega) (labU_sub [] rfl (List.forall_mem_nil _)))) ?_
          refine wpR_n [10] (by kernel_rfl) ?_
          refine List.forall_mem_cons.2 ⟨?_, List.forall_mem_nil _⟩
          refine exE rfl rfl ?_
          refine e_buildSlice (vs := [I (nth ((refTo a k).To) ((nth ((nth a.Nodes k).Kids) j).toNat))]) (xs := ([nth ((refTo a k).To) ((nth ((nth a.Nodes k).Kids) j).toNat)] : List Int)) rfl Try.underlying24 Try.zeroValue3 rfl Try.sizeOf3 (par1 (v0 := I (nth ((refTo a k).To) ((nth ((nth a.Nodes k).Kids) j).toNat))) rfl) rfl hS93 (RdVs.cons (Rd.int.2 ⟨rfl, by first | assumption | (constructor <;> omega)⟩) (RdVs.nil)) (by decide) (by decide) (fun v97o10 H97o10 hS97o10 hxx hvv97o10 => ?_)
          replace hS97o10 : St H0 NoB NoB [rowE 3 v97o10 ([nth ((refTo a k).To) ((nth ((nth a.Nodes k).Kids) j).toNat)] : List Int), rowE 3 vK (kidS (refTo a k).To ((nth a.Nodes k).Kids.take j) : List Int), blkE g65 (.cells #[I ((nth a.Nodes k).Op), u63n1, I ((nth a.Nodes k).N), I ((nth a.Nodes k).D), SB ((nth a.Nodes k).Name)] 37), rdE u63n1 ((nth a.Nodes k).Kids), rowE 37 vn ((refTo a k).Nodes : List Node), rowE 3 vt ((refTo a k).To : List Int), blkE g48 (.cells #[vn, vt] 35), blkE g29 (.cells #[I (((sortsF a)).1), I (((sortsF a)).2)] 28), rdE r25 (sorts a), blkE g17 (.cells #[I ((doF a).1), I ((doF a).2)] 28), blkE g14 (.cells #[r8, r9, r10] 26), rdE r8 ((doA a).Decls), rdE r9 ((doA a).Nodes), rdE r10 ((doA a).Hold), blkE g1 (.cells #[vD, vN, vH] 26), rdE vD a.Decls, rdE vN a.Nodes, rdE vH a.Hold] H97o10 := hS97o10
          refine ⟨Ext.mono hxx (fun _ h => h.elim), ?_⟩
          refine wpR_n [11] (by kernel_rfl) ?_
          refine List.forall_mem_cons.2 ⟨?_, List.forall_mem_nil _⟩
          have hS97o11 : St H0 NoB NoB [rdE v97o10 ([nth ((refTo a k).To) ((nth ((nth a.Nodes k).Kids) j).toNat)] : List Int), rowE 3 vK (kidS (refTo a k).To ((nth a.Nodes k).Kids.take j) : List Int), blkE g65 (.cells #[I ((nth a.Nodes k).Op), u63n1, I ((nth a.Nodes k).N), I ((nth a.Nodes k).D), SB ((nth a.Nodes k).Name)] 37), rdE u63n1 ((nth a.Nodes k).Kids), rowE 37 vn ((refTo a k).Nodes : List Node), rowE 3 vt ((refTo a k).To : List Int), blkE g48 (.cells #[vn, vt] 35), blkE g29 (.cells #[I (((sortsF a)).1), I (((sortsF a)).2)] 28), rdE r25 (sorts a), blkE g17 (.cells #[I ((doF a).1), I ((doF a).2)] 28), blkE g14 (.cells #[r8, r9, r10] 26), rdE r8 ((doA a).Decls), rdE r9 ((doA a).Nodes), rdE r10 ((doA a).Hold), blkE g1 (.cells #[vD, vN, vH] 26), rdE vD a.Decls, rdE vN a.Nodes, rdE vH a.Hold] H97o10 := St.fin hS97o10
          have hS97o11x2 : St H0 NoB NoB [rowE 3 vK (kidS (refTo a k).To ((nth a.Nodes k).Kids.take j) : List Int), rdE v97o10 ([nth ((refTo a k).To) ((nth ((nth a.Nodes k).Kids) j).toNat)] : List Int), blkE g65 (.cells #[I ((nth a.Nodes k).Op), u63n1, I ((nth a.Nodes k).N), I ((nth a.Nodes k).D), SB ((nth a.Nodes k).Name)] 37), rdE u63n1 ((nth a.Nodes k).Kids), rowE 37 vn ((refTo a k).Nodes : List Node), rowE 3 vt ((refTo a k).To : List Int), blkE g48 (.cells #[vn, vt] 35), blkE g29 (.cells #[I (((sortsF a)).1), I (((sortsF a)).2)] 28), rdE r25 (sorts a), blkE g17 (.cells #[I ((doF a).1), I ((doF a).2)] 28), blkE g14 (.cells #[r8, r9, r10] 26), rdE r8 ((doA a).Decls), rdE r9 ((doA a).Nodes), rdE r10 ((doA a).Hold), blkE g1 (.cells #[vD, vN, vH] 26), rdE vD a.Decls, rdE vN a.Nodes, rdE vH a.Hold] H97o10 := (hS97o11.front 1 rfl)
          refine exE rfl rfl ?_
          refine e_append rfl Try.underlying24 em_Int_3_ArrSays1 rfl rfl hS97o11x2 (hS97o11x2.rdS 1 rfl) (fun _ h => h) (by have hb : GoT.bytes Int = 8 := rfl; rw [hb]; simp only [List.length_append, kidS_len, List.length_take, List.length_cons, List.length_nil]; omega) (by decide) (fun v97o11 H97o11 hS97o11x3 hxx => ?_)
          replace hS97o11x3 : St H0 NoB NoB [rowE 3 v97o11 ((kidS (refTo a k).To ((nth a.Nodes k).Kids.take j)) ++ ([nth ((refTo a k).To) ((nth ((nth a.Nodes k).Kids) j).toNat)]) : List Int), rdE v97o10 ([nth ((refTo a k).To) ((nth ((nth a.Nodes k).Kids) j).toNat)] : List Int), blkE g65 (.cells #[I ((nth a.Nodes k).Op), u63n1, I ((nth a.Nodes k).N), I ((nth a.Nodes k).D), SB ((nth a.Nodes k).Name)] 37), rdE u63n1 ((nth a.Nodes k).Kids), rowE 37 vn ((refTo a k).Nodes : List Node), rowE 3 vt ((refTo a k).To : List Int), blkE g48 (.cells #[vn, vt] 35), blkE g29 (.cells #[I (((sortsF a)).1), I (((sortsF a)).2)] 28), rdE r25 (sorts a), blkE g17 (.cells #[I ((doF a).1), I ((doF a).2)] 28), blkE g14 (.cells #[r8, r9, r10] 26), rdE r8 ((doA a).Decls), rdE r9 ((doA a).Nodes), rdE r10 ((doA a).Hold), blkE g1 (.cells #[vD, vN, vH] 26), rdE vD a.Decls, rdE vN a.Nodes, rdE vH a.Hold] H97o11 := hS97o11x3
          have hS97o11x4 : St H0 NoB NoB [rowE 3 v97o11 (kidS (refTo a k).To ((nth a.Nodes k).Kids.take (j + 1)) : List Int), rdE v97o10 ([nth ((refTo a k).To) ((nth ((nth a.Nodes k).Kids) j).toNat)] : List Int), blkE g65 (.cells #[I ((nth a.Nodes k).Op), u63n1, I ((nth a.Nodes k).N), I ((nth a.Nodes k).D), SB ((nth a.Nodes k).Name)] 37), rdE u63n1 ((nth a.Nodes k).Kids), rowE 37 vn ((refTo a k).Nodes : List Node), rowE 3 vt ((refTo a k).To : List Int), blkE g48 (.cells #[vn, vt] 35), blkE g29 (.cells #[I (((sortsF a)).1), I (((sortsF a)).2)] 28), rdE r25 (sorts a), blkE g17 (.cells #[I ((doF a).1), I ((doF a).2)] 28), blkE g14 (.cells #[r8, r9, r10] 26), rdE r8 ((doA a).Decls), rdE r9 ((doA a).Nodes), rdE r10 ((doA a).Hold), blkE g1 (.cells #[vD, vN, vH] 26), rdE vD a.Decls, rdE vN a.Nodes, rdE vH a.Hold] H97o11 := by rw [show (kidS (refTo a k).To ((nth a.Nodes k).Kids.take (j + 1))) = ((kidS (refTo a k).To ((nth a.Nodes k).Kids.take j)) ++ ([nth ((refTo a k).To) ((nth ((nth a.Nodes k).Kids) j).toNat)])) from (kidS_next (by omega)).symm]; exact hS97o11x3
          refine ⟨Ext.mono hxx (labS_of 0 rfl (fun _ _ => trivial)), ?_⟩
          refine wpR_q 12 (by kernel_rfl) rfl (quietAt rfl rfl (q_assign (v := v97o11) rfl rfl)) ?_
          refine wpR_end (by kernel_rfl) ?_
          exact ⟨v97o11, a94_1, a94_3, a94_4, a94_5, a94_7, a94_8, a94_9, rfl, a94_11, (hS97o11x4.drop (sk (sn (sk (sk (sk (sk (sk (sk (sk (sk (sk (sk (sk (sk (sk (sk (sk (sk (List.Sublist.slnil))))))))))))))))))))⟩
        rintro f98 H98 ⟨v97o11, a98_1, a98_3, a98_4, a98_5, a98_7, a98_8, a98_9, a98_10, a98_11, hS98⟩
        clear a94_1 a94_10 a94_11 a94_3 a94_4 a94_5 a94_7 a94_8 a94_9 a94_92
        refine wpF_cut (fun f H => f 1 = PT g1 0 ∧ f 3 = PT g14 0 ∧ f 4 = PT g17 0 ∧ f 5 = r25 ∧ f 7 = PT g48 0 ∧ f 8 = I ((k : Int)) ∧ f 9 = PT g65 0 ∧ f 10 = v97o11 ∧ f 11 = I ((j : Int) + 1) ∧ H98 = H) ?_ ?_
        · refine wpF_region ?_
          refine wpL_q (U := NoB) rfl (q_move (v := I ((j : Int))) rfl a98_11) ?_
          refine wpL_q (U := NoB) rfl (q_add rfl rfl rfl (by constructor <;> omega)) ?_
          refine wpL_q (U := NoB) rfl (q_assign (v := I ((j : Int) + 1)) rfl rfl) ?_
          exact ⟨a98_1, a98_3, a98_4, a98_5, a98_7, a98_8, a98_9, a98_10, rfl, rfl⟩
        rintro f99 _ ⟨a99_1, a99_3, a99_4, a99_5, a99_7, a99_8, a99_9, a99_10, a99_11, rfl⟩
        clear a98_1 a98_10 a98_11 a98_3 a98_4 a98_5 a98_7 a98_8 a98_9
        refine ⟨_, ?_, j + 1, v97o11, rfl, (by omega), a99_1, a99_3, a99_4, a99_5, a99_7, a99_8, a99_9, a99_10, (Eq.trans a99_11 (congrArg I (by omega))), hS98⟩
        omega
      rintro f86 H86 ⟨vn3, hN3, a86_1, a86_3, a86_4, a86_5, a86_7, a86_8, hS86⟩
      clear a85_1 a85_3 a85_4 a85_5 a85_7 a85_72 a85_8 a85_9
      refine wpF_seq ?_
      refine wpF_cut (fun f H => ∃ (v116 : Value), f 1 = PT g1 0 ∧ f 3 = PT g14 0 ∧ f 4 = PT g17 0 ∧ f 5 = r25 ∧ f 7 = PT g48 0 ∧ f 8 = I ((k : Int)) ∧ St H0 NoB NoB [blkE g48 (.cells #[vn3, v116] 35), rowE 3 v116 ((refTo a (k + 1)).To : List Int), rowE 37 vn3 ((refTo a (k + 1)).Nodes : List Node), blkE g29 (.cells #[I (((sortsF a)).1), I (((sortsF a)).2)] 28), rdE r25 (sorts a), blkE g17 (.cells #[I ((doF a).1), I ((doF a).2)] 28), blkE g14 (.cells #[r8, r9, r10] 26), rdE r8 ((doA a).Decls), rdE r9 ((doA a).Nodes), rdE r10 ((doA a).Hold), blkE g1 (.cells #[vD, vN, vH] 26), rdE vD a.Decls, rdE vN a.Nodes, rdE vH a.Hold] H) ?_ ?_
      · refine wpF_region ?_
        refine wpL_q (U := NoB) rfl (q_fieldAddr rfl Try.underlying35 rfl Try.sizeOf24 a86_7) ?_
        refine wpL_q (U := NoB) rfl (q_loadBlk rfl rfl Try.isAgg24 (hS86.blk 2 rfl) rfl (fun h => h)) ?_
        refine wpL_q (U := NoB) rfl (q_fieldAddr rfl Try.underlying35 rfl Try.sizeOf23 a86_7) ?_
        refine wpL_q (U := NoB) rfl (q_loadBlk rfl rfl Try.isAgg23 (hS86.blk 2 rfl) rfl (fun h => h)) ?_
        refine wpL_q (U := NoB) rfl (q_lenRd rfl Try.underlying23 rfl (hS86.rowl 0 rfl)) ?_
        refine wpL_q (U := NoB) rfl (q_sub rfl rfl rfl (by constructor <;> omega)) ?_
        refine wpL_o rfl ?_
        refine e_buildSlice (vs := [I ((((refTo a (k + 1)).Nodes).length : Int) - 1)]) (xs := ([(((refTo a (k + 1)).Nodes).length : Int) - 1] : List Int)) rfl Try.underlying24 Try.zeroValue3 rfl Try.sizeOf3 (par1 (v0 := I ((((refTo a (k + 1)).Nodes).length : Int) - 1)) rfl) rfl hS86 (RdVs.cons (Rd.int.2 ⟨rfl, by first | assumption | (constructor <;> omega)⟩) (RdVs.nil)) (by decide) (by decide) (fun v111 H112 hS113 hxx hvv111 => ?_)
        replace hS113 : St H0 NoB NoB [rowE 3 v111 ([(((refTo a (k + 1)).Nodes).length : Int) - 1] : List Int), rowE 37 vn3 ((refTo a (k + 1)).Nodes : List Node), rowE 3 vt ((refTo a k).To : List Int), blkE g48 (.cells #[vn3, vt] 35), blkE g29 (.cells #[I (((sortsF a)).1), I (((sortsF a)).2)] 28), rdE r25 (sorts a), blkE g17 (.cells #[I ((doF a).1), I ((doF a).2)] 28), blkE g14 (.cells #[r8, r9, r10] 26), rdE r8 ((doA a).Decls), rdE r9 ((doA a).Nodes), rdE r10 ((doA a).Hold), blkE g1 (.cells #[vD, vN, vH] 26), rdE vD a.Decls, rdE vN a.Nodes, rdE vH a.Hold] H112 := hS113
        have hS114 : St H0 NoB NoB [rdE v111 ([(((refTo a (k + 1)).Nodes).length : Int) - 1] : List Int), rowE 37 vn3 ((refTo a (k + 1)).Nodes : List Node), rowE 3 vt ((refTo a k).To : List Int), blkE g48 (.cells #[vn3, vt] 35), blkE g29 (.cells #[I (((sortsF a)).1), I (((sortsF a)).2)] 28), rdE r25 (sorts a), blkE g17 (.cells #[I ((doF a).1), I ((doF a).2)] 28), blkE g14 (.cells #[r8, r9, r10] 26), rdE r8 ((doA a).Decls), rdE r9 ((doA a).Nodes), rdE r10 ((doA a).Hold), blkE g1 (.cells #[vD, vN, vH] 26), rdE vD a.Decls, rdE vN a.Nodes, rdE vH a.Hold] H112 := St.fin hS113
        have hS115 : St H0 NoB NoB [rowE 3 vt ((refTo a k).To : List Int), rdE v111 ([(((refTo a (k + 1)).Nodes).length : Int) - 1] : List Int), rowE 37 vn3 ((refTo a (k + 1)).Nodes : List Node), blkE g48 (.cells #[vn3, vt] 35), blkE g29 (.cells #[I (((sortsF a)).1), I (((sortsF a)).2)] 28), rdE r25 (sorts a), blkE g17 (.cells #[I ((doF a).1), I ((doF a).2)] 28), blkE g14 (.cells #[r8, r9, r10] 26), rdE r8 ((doA a).Decls), rdE r9 ((doA a).Nodes), rdE r10 ((doA a).Hold), blkE g1 (.cells #[vD, vN, vH] 26), rdE vD a.Decls, rdE vN a.Nodes, rdE vH a.Hold] H112 := (hS114.front 2 rfl)
        refine wpL_o rfl ?_
        refine e_append rfl Try.underlying24 em_Int_3_ArrSays1 rfl rfl hS115 (hS115.rdS 1 rfl) (fun _ h => h) (by have hb : GoT.bytes Int = 8 := rfl; rw [hb]; simp only [List.length_append, kidS_len, List.length_take, List.length_cons, List.length_nil]; omega) (by decide) (fun v116 H117 hS118 hxx => ?_)
        replace hS118 : St H0 NoB NoB [rowE 3 v116 (((refTo a k).To) ++ ([(((refTo a (k + 1)).Nodes).length : Int) - 1]) : List Int), rdE v111 ([(((refTo a (k + 1)).Nodes).length : Int) - 1] : List Int), rowE 37 vn3 ((refTo a (k + 1)).Nodes : List Node), blkE g48 (.cells #[vn3, vt] 35), blkE g29 (.cells #[I (((sortsF a)).1), I (((sortsF a)).2)] 28), rdE r25 (sorts a), blkE g17 (.cells #[I ((doF a).1), I ((doF a).2)] 28), blkE g14 (.cells #[r8, r9, r10] 26), rdE r8 ((doA a).Decls), rdE r9 ((doA a).Nodes), rdE r10 ((doA a).Hold), blkE g1 (.cells #[vD, vN, vH] 26), rdE vD a.Decls, rdE vN a.Nodes, rdE vH a.Hold] H117 := hS118
        have hS119 : St H0 NoB NoB [rowE 3 v116 ((refTo a (k + 1)).To : List Int), rdE v111 ([(((refTo a (k + 1)).Nodes).length : Int) - 1] : List Int), rowE 37 vn3 ((refTo a (k + 1)).Nodes : List Node), blkE g48 (.cells #[vn3, vt] 35), blkE g29 (.cells #[I (((sortsF a)).1), I (((sortsF a)).2)] 28), rdE r25 (sorts a), blkE g17 (.cells #[I ((doF a).1), I ((doF a).2)] 28), blkE g14 (.cells #[r8, r9, r10] 26), rdE r8 ((doA a).Decls), rdE r9 ((doA a).Nodes), rdE r10 ((doA a).Hold), blkE g1 (.cells #[vD, vN, vH] 26), rdE vD a.Decls, rdE vN a.Nodes, rdE vH a.Hold] H117 := by rw [show ((refTo a (k + 1)).To) = (((refTo a k).To) ++ ([(((refTo a (k + 1)).Nodes).length : Int) - 1])) from (ref_last h64)]; exact hS118
        refine wpL_q (U := NoB) rfl (q_fieldAddr rfl Try.underlying35 rfl Try.sizeOf24 a86_7) ?_
        refine wpL_o rfl ?_
        refine e_storeBlk (v := v116) rfl rfl rfl (oneCell_rdL (hS119.rowl 0 rfl)) Try.sizeOf24 (by show _ < 2; decide) (hS119.front 3 rfl) (fun H120 hS121 hxx => ?_)
        replace hS121 : St H0 NoB NoB [blkE g48 (.cells #[vn3, v116] 35), rowE 3 v116 ((refTo a (k + 1)).To : List Int), rdE v111 ([(((refTo a (k + 1)).Nodes).length : Int) - 1] : List Int), rowE 37 vn3 ((refTo a (k + 1)).Nodes : List Node), blkE g29 (.cells #[I (((sortsF a)).1), I (((sortsF a)).2)] 28), rdE r25 (sorts a), blkE g17 (.cells #[I ((doF a).1), I ((doF a).2)] 28), blkE g14 (.cells #[r8, r9, r10] 26), rdE r8 ((doA a).Decls), rdE r9 ((doA a).Nodes), rdE r10 ((doA a).Hold), blkE g1 (.cells #[vD, vN, vH] 26), rdE vD a.Decls, rdE vN a.Nodes, rdE vH a.Hold] H120 := hS121
        exact ⟨v116, a86_1, a86_3, a86_4, a86_5, a86_7, a86_8, (hS121.drop (sk (sk (sn (sk (sk (sk (sk (sk (sk (sk (sk (sk (sk (sk (sk (List.Sublist.slnil)))))))))))))))))⟩
      rintro f122 H122 ⟨v116, a122_1, a122_3, a122_4, a122_5, a122_7, a122_8, hS122⟩
      clear a86_1 a86_3 a86_4 a86_5 a86_7 a86_8
      refine wpF_seq ?_
      refine wpF_cut (fun f H => f 1 = PT g1 0 ∧ f 3 = PT g14 0 ∧ f 4 = PT g17 0 ∧ f 5 = r25 ∧ f 7 = PT g48 0 ∧ f 8 = I ((k : Int)) ∧ f 123 = B (decide (200 < (((refTo a (k + 1)).Nodes).length : Int))) ∧ H122 = H) ?_ ?_
      · refine wpF_region ?_
        refine wpL_q (U := NoB) rfl (q_fieldAddr rfl Try.underlying35 rfl Try.sizeOf23 a122_7) ?_
        refine wpL_q (U := NoB) rfl (q_loadBlk rfl rfl Try.isAgg23 (hS122.blk 0 rfl) rfl (fun h => h)) ?_
        refine wpL_q (U := NoB) rfl (q_lenRd rfl Try.underlying23 rfl (hS122.rowl 2 rfl)) ?_
        refine wpL_q (U := NoB) rfl (q_gtr rfl rfl rfl) ?_
        exact ⟨a122_1, a122_3, a122_4, a122_5, a122_7, a122_8, rfl, rfl⟩
      rintro f123 _ ⟨a123_1, a123_3, a123_4, a123_5, a123_7, a123_8, a123_123, rfl⟩
      clear a122_1 a122_3 a122_4 a122_5 a122_7 a122_8
      refine wpF_condP a123_123 (fun h123 => ?t130) (fun h123 => ?e130)
      case e130 =>
        refine wpF_skip ?_
        exact ⟨vn3, v116, (by omega), a123_1, a123_3, a123_4, a123_5, a123_7, a123_8, (by have h__ := (St.drop (show St H0 NoB NoB [rowE 37 vn3 ((refTo a (k + 1)).Nodes : List Node), rowE 3 v116 ((refTo a (k + 1)).To : List Int), blkE g48 (.cells #[vn3, v116] 35), blkE g29 (.cells #[I (((sortsF a)).1), I (((sortsF a)).2)] 28), rdE r25 (sorts a), blkE g17 (.cells #[I ((doF a).1), I ((doF a).2)] 28), blkE g14 (.cells #[r8, r9, r10] 26), rdE r8 ((doA a).Decls), rdE r9 ((doA a).Nodes), rdE r10 ((doA a).Hold), blkE g1 (.cells #[vD, vN, vH] 26), rdE vD a.Decls, rdE vN a.Nodes, rdE vH a.Hold] H122 from ((hS122.front 1 rfl).front 2 rfl)) (sk (sk (sk (sk (sk (sk (sk (sk (sk (sk (sk (sk (sk (sk (List.Sublist.slnil)))))))))))))))); exact h__)⟩
      refine wpF_seq ?_
      refine wpF_cut (fun f H => f 2 = B (decide ((((doF a).1) = 10 ∧ ((doF a).2) = 0) ∧ (blankP (doA a)))) ∧ St H0 NoB NoB [blkE g48 (.cells #[vn3, v116] 35), rowE 3 v116 ((refTo a (k + 1)).To : List Int), rowE 37 vn3 ((refTo a (k + 1)).Nodes : List Node), blkE g29 (.cells #[I (((sortsF a)).1), I (((sortsF a)).2)] 28), blkE g17 (.cells #[I ((doF a).1), I ((doF a).2)] 28), blkE g14 (.cells #[r8, r9, r10] 26), rdE r8 ((doA a).Decls), rdE r9 ((doA a).Nodes), rdE r10 ((doA a).Hold), blkE g1 (.cells #[vD, vN, vH] 26), rdE vD a.Decls, rdE vN a.Nodes, rdE vH a.Hold] H) ?_ ?_
      · refine wpF_drawn [] [] (fun _ _ => False) (by kernel_rfl) (by kernel_rfl) ?_
        refine wpR_q 0 (by kernel_rfl) rfl (quietAt rfl rfl (q_loadBlkA rfl a123_4 Try.isAgg28 Try.sizeOf28 rfl (hS122.blk 5 rfl) (labU_not [] rfl (List.forall_mem_nil _)))) ?_
        refine wpR_n [1] (by kernel_rfl) ?_
        refine List.forall_mem_cons.2 ⟨?_, List.forall_mem_nil _⟩
        refine exE rfl rfl ?_
        refine e_call rfl Try.call11 (arr2 (v0 := I (10)) (v1 := I (0)) rfl rfl) (fault_L 10 0) ?_
        rintro _ H125o1 ⟨hxx, rfl⟩
        have hS125o1 : St H0 NoB NoB [blkE g48 (.cells #[vn3, v116] 35), rowE 3 v116 ((refTo a (k + 1)).To : List Int), rowE 37 vn3 ((refTo a (k + 1)).Nodes : List Node), blkE g29 (.cells #[I (((sortsF a)).1), I (((sortsF a)).2)] 28), rdE r25 (sorts a), blkE g17 (.cells #[I ((doF a).1), I ((doF a).2)] 28), blkE g14 (.cells #[r8, r9, r10] 26), rdE r8 ((doA a).Decls), rdE r9 ((doA a).Nodes), rdE r10 ((doA a).Hold), blkE g1 (.cells #[vD, vN, vH] 26), rdE vD a.Decls, rdE vN a.Nodes, rdE vH a.Hold] H125o1 := hS122.ext hxx
        refine ⟨Ext.mono hxx (fun _ h => h.elim), ?_⟩
        refine wpR_q 2 (by kernel_rfl) rfl (quietAt rfl rfl (q_eqlF2 rfl Try.eqGuardType28 (fl28_ArrSays1 _ _ _ _) rfl rfl)) ?_
        refine wpR_q 3 (by kernel_rfl) rfl (quietAt rfl rfl (q_move (v := B (decide (((doF a).1) = 10 ∧ ((doF a).2) = 0))) rfl rfl)) ?_
        by_cases hg126 : ((doF a).1) = 10 ∧ ((doF a).2) = 0
        · have hb127 := Eq.trans rfl (congrArg B (decide_eq_true hg126))
          refine wpR_q 4 (by kernel_rfl) rfl (quietAt_g rfl rfl rfl rfl hb127 (q_loadBlkA rfl a123_3 Try.isAgg26 Try.sizeOf26 rfl (hS125o1.blk 6 rfl) (labU_not [] rfl (List.forall_mem_nil _)))) ?_
          refine wpR_n [5] (by kernel_rfl) ?_
          refine List.forall_mem_cons.2 ⟨?_, List.forall_mem_nil _⟩
          refine exE_g rfl rfl rfl rfl hb127 ?_
          refine e_call rfl Try.call8 (arr1 (v0 := Value.agg #[r8, r9, r10]) rfl) (blank_L r8 r9 r10 (doA a) (hS125o1.rdN 7 rfl) (hS125o1.rdN 8 rfl) (hS125o1.rdN 9 rfl) ) ?_
          rintro _ H125o5 ⟨hxx, rfl⟩
          have hS125o5 : St H0 NoB NoB [blkE g48 (.cells #[vn3, v116] 35), rowE 3 v116 ((refTo a (k + 1)).To : List Int), rowE 37 vn3 ((refTo a (k + 1)).Nodes : List Node), blkE g29 (.cells #[I (((sortsF a)).1), I (((sortsF a)).2)] 28), rdE r25 (sorts a), blkE g17 (.cells #[I ((doF a).1), I ((doF a).2)] 28), blkE g14 (.cells #[r8, r9, r10] 26), rdE r8 ((doA a).Decls), rdE r9 ((doA a).Nodes), rdE r10 ((doA a).Hold), blkE g1 (.cells #[vD, vN, vH] 26), rdE vD a.Decls, rdE vN a.Nodes, rdE vH a.Hold] H125o5 := hS125o1.ext hxx
          refine ⟨Ext.mono hxx (fun _ h => h.elim), ?_⟩
          refine wpR_q 6 (by kernel_rfl) rfl (quietAt rfl rfl (q_pickT (v := B (decide (blankP (doA a)))) rfl hb127 rfl)) ?_
          refine wpR_q 7 (by kernel_rfl) rfl (quietAt rfl rfl (q_assign (v := B (decide (blankP (doA a)))) rfl rfl)) ?_
          refine wpR_end (by kernel_rfl) ?_
          exact ⟨(Eq.trans rfl (congrArg B (decide_congr_of ((Iff.rfl).trans (((and_iff_right hg126).trans Iff.rfl)).symm)))), (hS125o5.drop (sk (sk (sk (sk (sn (sk (sk (sk (sk (sk (sk (sk (sk (sk (List.Sublist.slnil))))))))))))))))⟩
        · have hb128 := Eq.trans rfl (congrArg B (decide_eq_false hg126))
          refine wpR_q 4 (by kernel_rfl) rfl (quietAt_s rfl rfl rfl rfl hb128 rfl) ?_
          refine wpR_q 5 (by kernel_rfl) rfl (quietAt_s rfl rfl rfl rfl hb128 rfl) ?_
          refine wpR_q 6 (by kernel_rfl) rfl (quietAt rfl rfl (q_pickF (v := B (false)) rfl hb128 rfl)) ?_
          refine wpR_q 7 (by kernel_rfl) rfl (quietAt rfl rfl (q_assign (v := B (false)) rfl rfl)) ?_
          refine wpR_end (by kernel_rfl) ?_
          exact ⟨(Eq.trans rfl (congrArg B ((decide_eq_false (fun h => hg126 h.1)).symm))), (hS125o1.drop (sk (sk (sk (sk (sn (sk (sk (sk (sk (sk (sk (sk (sk (sk (List.Sublist.slnil))))))))))))))))⟩
      rintro f129 H129 ⟨a129_2, hS129⟩
      clear a123_1 a123_123 a123_3 a123_4 a123_5 a123_7 a123_8
      refine wpF_ret ?_
      refine ⟨_, resT a129_2 resN, hS129.frame, ?_⟩
      show (B (decide ((((doF a).1) = 10 ∧ ((doF a).2) = 0) ∧ (blankP (doA a))))) = B true
      have hq_ := doF_much h34 (k := k + 1) (by omega) (by rw [← (ref_same hA (k + 1) (by omega)).1]; exact h123)
      exact congrArg B (decide_eq_true ⟨⟨by rw [hq_], by rw [hq_]⟩, blank_doA (by rw [hq_]; exact (by decide : (10 : Int) ≠ 0))⟩)
    rintro f62 H62 ⟨vn2, vt2, hN2, a62_1, a62_3, a62_4, a62_5, a62_7, a62_8, hS62⟩
    clear a56_1 a56_3 a56_4 a56_5 a56_52 a56_7 a56_8
    refine wpF_cut (fun f H => f 1 = PT g1 0 ∧ f 3 = PT g14 0 ∧ f 4 = PT g17 0 ∧ f 5 = r25 ∧ f 7 = PT g48 0 ∧ f 8 = I ((k : Int) + 1) ∧ H62 = H) ?_ ?_
    · refine wpF_region ?_
      refine wpL_q (U := NoB) rfl (q_move (v := I ((k : Int))) rfl a62_8) ?_
      refine wpL_q (U := NoB) rfl (q_add rfl rfl rfl (by constructor <;> omega)) ?_
      refine wpL_q (U := NoB) rfl (q_assign (v := I ((k : Int) + 1)) rfl rfl) ?_
      exact ⟨a62_1, a62_3, a62_4, a62_5, a62_7, rfl, rfl⟩
    rintro f132 _ ⟨a132_1, a132_3, a132_4, a132_5, a132_7, a132_8, rfl⟩
    clear a62_1 a62_3 a62_4 a62_5 a62_7 a62_8
    refine ⟨_, ?_, k + 1, vn2, vt2, rfl, (by omega), hN2, a132_1, a132_3, a132_4, a132_5, a132_7, (Eq.trans a132_8 (congrArg I (by omega))), hS62⟩
    omega
  obtain rfl : k = a.Nodes.length := by omega
  have hS58 : St H0 NoB NoB [rdE vn ((refTo a a.Nodes.length).Nodes), rowE 3 vt ((refTo a a.Nodes.length).To : List Int), blkE g48 (.cells #[vn, vt] 35), blkE g29 (.cells #[I (((sortsF a)).1), I (((sortsF a)).2)] 28), rdE r25 (sorts a), blkE g17 (.cells #[I ((doF a).1), I ((doF a).2)] 28), blkE g14 (.cells #[r8, r9, r10] 26), rdE r8 ((doA a).Decls), rdE r9 ((doA a).Nodes), rdE r10 ((doA a).Hold), blkE g1 (.cells #[vD, vN, vH] 26), rdE vD a.Decls, rdE vN a.Nodes, rdE vH a.Hold] H55 := St.fin hS55
  have hS59 : St H0 NoB NoB [rdE vt ((refTo a a.Nodes.length).To), rdE vn ((refTo a a.Nodes.length).Nodes), blkE g48 (.cells #[vn, vt] 35), blkE g29 (.cells #[I (((sortsF a)).1), I (((sortsF a)).2)] 28), rdE r25 (sorts a), blkE g17 (.cells #[I ((doF a).1), I ((doF a).2)] 28), blkE g14 (.cells #[r8, r9, r10] 26), rdE r8 ((doA a).Decls), rdE r9 ((doA a).Nodes), rdE r10 ((doA a).Hold), blkE g1 (.cells #[vD, vN, vH] 26), rdE vD a.Decls, rdE vN a.Nodes, rdE vH a.Hold] H55 := St.fin (hS58.front 1 rfl)
  have htl := refTo_to (a := a) a.Nodes.length
  have hz : (doF a).1 = 0 := by rw [doF_ok h34 (by rw [turned, ← (ref_same hA _ (Nat.le_refl _)).1]; exact hN)]
  obtain ⟨e1, e2, e3, e4⟩ := says_end hA hz
  have hS60 : St H0 NoB NoB [rdE vt ((refTo a a.Nodes.length).To), rdE vn ((doA a).Nodes), blkE g48 (.cells #[vn, vt] 35), blkE g29 (.cells #[I (((sortsF a)).1), I (((sortsF a)).2)] 28), rdE r25 (sorts a), blkE g17 (.cells #[I ((doF a).1), I ((doF a).2)] 28), blkE g14 (.cells #[r8, r9, r10] 26), rdE r8 ((doA a).Decls), rdE r9 ((doA a).Nodes), rdE r10 ((doA a).Hold), blkE g1 (.cells #[vD, vN, vH] 26), rdE vD a.Decls, rdE vN a.Nodes, rdE vH a.Hold] H55 := by have h__ := hS59; rw [← e1] at h__; exact h__
  have hS61 : St H0 NoB NoB [rdE vt ((refTo a a.Nodes.length).To), rdE vn ((doA a).Nodes), blkE g48 (.cells #[vn, vt] 35), blkE g29 (.cells #[I (((sortsF a)).1), I (((sortsF a)).2)] 28), rdE r25 (sorts a), blkE g17 (.cells #[I ((doF a).1), I ((doF a).2)] 28), blkE g14 (.cells #[r8, r9, r10] 26), rdE r8 (a.Decls.map declA), rdE r9 ((doA a).Nodes), rdE r10 ((doA a).Hold), blkE g1 (.cells #[vD, vN, vH] 26), rdE vD a.Decls, rdE vN a.Nodes, rdE vH a.Hold] H55 := by have h__ := hS60; rw [e2] at h__; exact h__
  have hbN : (doA a).Nodes.length ≤ 200 := by rw [e1]; exact hN
  refine wpF_exit ?_
  refine atX_here ?_
  refine wpF_seq ?_
  refine wpF_seq ?_
  refine wpF_cut (fun f H => f 1 = PT g1 0 ∧ f 3 = PT g14 0 ∧ f 7 = PT g48 0 ∧ f 160 = B (decide ((((((doF a).1) ≠ 0) ∨ ((((doA a).Nodes).length : Int) ≠ (((doA a).Nodes).length : Int))) ∨ (((a.Decls.map declA).length : Int) ≠ (a.Decls.length : Int))) ∨ ((((doA a).Hold).length : Int) ≠ (a.Hold.length : Int)))) ∧ H55 = H) ?_ ?_
  · refine wpF_region ?_
    refine wpL_q (U := NoB) rfl (q_fieldAddr rfl Try.underlying28 rfl Try.sizeOf3 a56_4) ?_
    refine wpL_q (U := NoB) rfl (q_loadBlk rfl rfl Try.isAgg3 (hS61.blk 5 rfl) rfl (fun h => h)) ?_
    refine wpL_q (U := NoB) rfl (q_neq rfl rfl rfl) ?_
    refine wpL_q (U := NoB) rfl (q_move (v := B (decide (((doF a).1) ≠ 0))) rfl rfl) ?_
    by_cases hg133 : ((doF a).1) ≠ 0
    · have hb134 := Eq.trans rfl (congrArg B (decide_eq_true hg133))
      refine wpL_gs rfl rfl rfl hb134 rfl ?_
      refine wpL_gs rfl rfl rfl hb134 rfl ?_
      refine wpL_gs rfl rfl rfl hb134 rfl ?_
      refine wpL_gs rfl rfl rfl hb134 rfl ?_
      refine wpL_gs rfl rfl rfl hb134 rfl ?_
      refine wpL_gs rfl rfl rfl hb134 rfl ?_
      refine wpL_gs rfl rfl rfl hb134 rfl ?_
      refine wpL_q (U := NoB) rfl (q_pickT (v := B (true)) rfl hb134 rfl) ?_
      refine wpL_q (U := NoB) rfl (q_move (v := B (true)) rfl rfl) ?_
      refine wpL_gs rfl rfl rfl rfl rfl ?_
      refine wpL_gs rfl rfl rfl rfl rfl ?_
      refine wpL_gs rfl rfl rfl rfl rfl ?_
      refine wpL_gs rfl rfl rfl rfl rfl ?_
      refine wpL_gs rfl rfl rfl rfl rfl ?_
      refine wpL_gs rfl rfl rfl rfl rfl ?_
      refine wpL_gs rfl rfl rfl rfl rfl ?_
      refine wpL_q (U := NoB) rfl (q_pickT (v := B (true)) rfl rfl rfl) ?_
      refine wpL_q (U := NoB) rfl (q_move (v := B (true)) rfl rfl) ?_
      refine wpL_gs rfl rfl rfl rfl rfl ?_
      refine wpL_gs rfl rfl rfl rfl rfl ?_
      refine wpL_gs rfl rfl rfl rfl rfl ?_
      refine wpL_gs rfl rfl rfl rfl rfl ?_
      refine wpL_gs rfl rfl rfl rfl rfl ?_
      refine wpL_gs rfl rfl rfl rfl rfl ?_
      refine wpL_gs rfl rfl rfl rfl rfl ?_
      refine wpL_q (U := NoB) rfl (q_pickT (v := B (true)) rfl rfl rfl) ?_
      exact ⟨a56_1, a56_3, a56_7, (Eq.trans rfl (congrArg B ((decide_eq_true (Or.inl (Or.inl (Or.inl hg133)))).symm))), rfl⟩
    · have hb135 := Eq.trans rfl (congrArg B (decide_eq_false hg133))
      refine wpL_gq (U := NoB) rfl rfl rfl hb135 (q_fieldAddr rfl Try.underlying26 rfl Try.sizeOf23 a56_3) ?_
      refine wpL_gq (U := NoB) rfl rfl rfl hb135 (q_loadBlk rfl rfl Try.isAgg23 (hS61.blk 6 rfl) rfl (fun h => h)) ?_
      refine wpL_gq (U := NoB) rfl rfl rfl hb135 (q_lenRd rfl Try.underlying23 rfl (hS61.rdl 8 rfl)) ?_
      refine wpL_gq (U := NoB) rfl rfl rfl hb135 (q_fieldAddr rfl Try.underlying35 rfl Try.sizeOf23 a56_7) ?_
      refine wpL_gq (U := NoB) rfl rfl rfl hb135 (q_loadBlk rfl rfl Try.isAgg23 (hS61.blk 2 rfl) rfl (fun h => h)) ?_
      refine wpL_gq (U := NoB) rfl rfl rfl hb135 (q_lenRd rfl Try.underlying23 rfl (hS61.rdl 1 rfl)) ?_
      refine wpL_gq (U := NoB) rfl rfl rfl hb135 (q_neq rfl rfl rfl) ?_
      refine wpL_q (U := NoB) rfl (q_pickF (v := B (decide ((((doA a).Nodes).length : Int) ≠ (((doA a).Nodes).length : Int)))) rfl hb135 rfl) ?_
      refine wpL_q (U := NoB) rfl (q_move (v := B (decide ((((doA a).Nodes).length : Int) ≠ (((doA a).Nodes).length : Int)))) rfl rfl) ?_
      by_cases hg136 : (((doA a).Nodes).length : Int) ≠ (((doA a).Nodes).length : Int)
      · have hb137 := Eq.trans rfl (congrArg B (decide_eq_true hg136))
        refine wpL_gs rfl rfl rfl hb137 rfl ?_
        refine wpL_gs rfl rfl rfl hb137 rfl ?_
        refine wpL_gs rfl rfl rfl hb137 rfl ?_
        refine wpL_gs rfl rfl rfl hb137 rfl ?_
        refine wpL_gs rfl rfl rfl hb137 rfl ?_
        refine wpL_gs rfl rfl rfl hb137 rfl ?_
        refine wpL_gs rfl rfl rfl hb137 rfl ?_
        refine wpL_q (U := NoB) rfl (q_pickT (v := B (true)) rfl hb137 rfl) ?_
        refine wpL_q (U := NoB) rfl (q_move (v := B (true)) rfl rfl) ?_
        refine wpL_gs rfl rfl rfl rfl rfl ?_
        refine wpL_gs rfl rfl rfl rfl rfl ?_
        refine wpL_gs rfl rfl rfl rfl rfl ?_
        refine wpL_gs rfl rfl rfl rfl rfl ?_
        refine wpL_gs rfl rfl rfl rfl rfl ?_
        refine wpL_gs rfl rfl rfl rfl rfl ?_
        refine wpL_gs rfl rfl rfl rfl rfl ?_
        refine wpL_q (U := NoB) rfl (q_pickT (v := B (true)) rfl rfl rfl) ?_
        exact ⟨a56_1, a56_3, a56_7, (Eq.trans rfl (congrArg B ((decide_eq_true (Or.inl (Or.inl (Or.inr hg136)))).symm))), rfl⟩
      · have hb138 := Eq.trans rfl (congrArg B (decide_eq_false hg136))
        refine wpL_gq (U := NoB) rfl rfl rfl hb138 (q_fieldAddr rfl Try.underlying26 rfl Try.sizeOf22 a56_3) ?_
        refine wpL_gq (U := NoB) rfl rfl rfl hb138 (q_loadBlk rfl rfl Try.isAgg22 (hS61.blk 6 rfl) rfl (fun h => h)) ?_
        refine wpL_gq (U := NoB) rfl rfl rfl hb138 (q_lenRd rfl Try.underlying22 rfl (hS61.rdl 7 rfl)) ?_
        refine wpL_gq (U := NoB) rfl rfl rfl hb138 (q_fieldAddr rfl Try.underlying26 rfl Try.sizeOf22 a56_1) ?_
        refine wpL_gq (U := NoB) rfl rfl rfl hb138 (q_loadBlk rfl rfl Try.isAgg22 (hS61.blk 10 rfl) rfl (fun h => h)) ?_
        refine wpL_gq (U := NoB) rfl rfl rfl hb138 (q_lenRd rfl Try.underlying22 rfl (hS61.rdl 11 rfl)) ?_
        refine wpL_gq (U := NoB) rfl rfl rfl hb138 (q_neq rfl rfl rfl) ?_
        refine wpL_q (U := NoB) rfl (q_pickF (v := B (decide (((a.Decls.map declA).length : Int) ≠ (a.Decls.length : Int)))) rfl hb138 rfl) ?_
        refine wpL_q (U := NoB) rfl (q_move (v := B (decide (((a.Decls.map declA).length : Int) ≠ (a.Decls.length : Int)))) rfl rfl) ?_
        by_cases hg139 : ((a.Decls.map declA).length : Int) ≠ (a.Decls.length : Int)
        · have hb140 := Eq.trans rfl (congrArg B (decide_eq_true hg139))
          refine wpL_gs rfl rfl rfl hb140 rfl ?_
          refine wpL_gs rfl rfl rfl hb140 rfl ?_
          refine wpL_gs rfl rfl rfl hb140 rfl ?_
          refine wpL_gs rfl rfl rfl hb140 rfl ?_
          refine wpL_gs rfl rfl rfl hb140 rfl ?_
          refine wpL_gs rfl rfl rfl hb140 rfl ?_
          refine wpL_gs rfl rfl rfl hb140 rfl ?_
          refine wpL_q (U := NoB) rfl (q_pickT (v := B (true)) rfl hb140 rfl) ?_
          exact ⟨a56_1, a56_3, a56_7, (Eq.trans rfl (congrArg B ((decide_eq_true (Or.inl (Or.inr hg139))).symm))), rfl⟩
        · have hb141 := Eq.trans rfl (congrArg B (decide_eq_false hg139))
          refine wpL_gq (U := NoB) rfl rfl rfl hb141 (q_fieldAddr rfl Try.underlying26 rfl Try.sizeOf24 a56_3) ?_
          refine wpL_gq (U := NoB) rfl rfl rfl hb141 (q_loadBlk rfl rfl Try.isAgg24 (hS61.blk 6 rfl) rfl (fun h => h)) ?_
          refine wpL_gq (U := NoB) rfl rfl rfl hb141 (q_lenRd rfl Try.underlying24 rfl (hS61.rdl 9 rfl)) ?_
          refine wpL_gq (U := NoB) rfl rfl rfl hb141 (q_fieldAddr rfl Try.underlying26 rfl Try.sizeOf24 a56_1) ?_
          refine wpL_gq (U := NoB) rfl rfl rfl hb141 (q_loadBlk rfl rfl Try.isAgg24 (hS61.blk 10 rfl) rfl (fun h => h)) ?_
          refine wpL_gq (U := NoB) rfl rfl rfl hb141 (q_lenRd rfl Try.underlying24 rfl (hS61.rdl 13 rfl)) ?_
          refine wpL_gq (U := NoB) rfl rfl rfl hb141 (q_neq rfl rfl rfl) ?_
          refine wpL_q (U := NoB) rfl (q_pickF (v := B (decide ((((doA a).Hold).length : Int) ≠ (a.Hold.length : Int)))) rfl hb141 rfl) ?_
          exact ⟨a56_1, a56_3, a56_7, (Eq.trans rfl (congrArg B (decide_congr_of ((Iff.rfl).trans (((or_iff_right (not_or.2 ⟨(not_or.2 ⟨hg133, hg136⟩), hg139⟩)).trans Iff.rfl)).symm)))), rfl⟩
  rintro f142 _ ⟨a142_1, a142_3, a142_7, a142_160, rfl⟩
  clear a56_1 a56_3 a56_4 a56_5 a56_52 a56_7 a56_8
  refine wpF_condP a142_160 (fun h160 => ?t237) (fun h160 => ?e237)
  case t237 =>
    refine wpF_seq ?_
    refine wpF_cut (fun f H => f 2 = B (false) ∧ H55 = H) ?_ ?_
    · refine wpF_region ?_
      refine wpL_q (U := NoB) rfl (q_assign (v := B (false)) rfl rfl) ?_
      exact ⟨rfl, rfl⟩
    rintro f144 _ ⟨a144_2, rfl⟩
    clear a142_1 a142_160 a142_3 a142_7
    refine wpF_ret ?_
    refine ⟨_, resT a144_2 resN, hS61.frame, ?_⟩
    show (B (false)) = B true
    exact absurd h160 (by simp [hz, e3])
  refine wpF_skip ?_
  refine wpF_seq ?_
  refine wpF_seq ?_
  refine wpF_cut (fun f H => f 1 = PT g1 0 ∧ f 3 = PT g14 0 ∧ f 7 = PT g48 0 ∧ f 12 = I (0) ∧ H55 = H) ?_ ?_
  · refine wpF_region ?_
    refine wpL_q (U := NoB) rfl (q_assign (v := I (0)) rfl rfl) ?_
    exact ⟨a142_1, a142_3, a142_7, rfl, rfl⟩
  rintro f145 _ ⟨a145_1, a145_3, a145_7, a145_12, rfl⟩
  clear a142_1 a142_160 a142_3 a142_7
  refine wpF_block ?_
  refine wpF_loop (fun mz f H => ∃ (u : Nat), mz = (doA a).Nodes.length - u ∧ (u ≤ (doA a).Nodes.length) ∧ f 1 = PT g1 0 ∧ f 3 = PT g14 0 ∧ f 7 = PT g48 0 ∧ f 12 = I ((u : Int)) ∧ St H0 NoB NoB [rdE vt ((refTo a a.Nodes.length).To), rdE vn ((doA a).Nodes), blkE g48 (.cells #[vn, vt] 35), blkE g29 (.cells #[I (((sortsF a)).1), I (((sortsF a)).2)] 28), blkE g17 (.cells #[I ((doF a).1), I ((doF a).2)] 28), blkE g14 (.cells #[r8, r9, r10] 26), rdE r8 (a.Decls.map declA), rdE r9 ((doA a).Nodes), rdE r10 ((doA a).Hold), blkE g1 (.cells #[vD, vN, vH] 26), rdE vD a.Decls, rdE vN a.Nodes, rdE vH a.Hold] H) ((doA a).Nodes.length - 0) ?_ ?_
  · exact ⟨0, rfl, Nat.zero_le _, a145_1, a145_3, a145_7, (Eq.trans a145_12 (congrArg I (by omega))), (hS61.drop (sk (sk (sk (sk (sn (sk (sk (sk (sk (sk (sk (sk (sk (sk (List.Sublist.slnil))))))))))))))))⟩
  intro m146 f146 H146 hI146
  obtain ⟨u, hm146, hu, a146_1, a146_3, a146_7, a146_12, hS146⟩ := hI146
  clear a145_1 a145_12 a145_3 a145_7
  refine wpF_seq ?_
  refine wpF_seq ?_
  refine wpF_cut (fun f H => f 1 = PT g1 0 ∧ f 3 = PT g14 0 ∧ f 7 = PT g48 0 ∧ f 12 = I ((u : Int)) ∧ f 165 = B (decide ((u : Int) < (((doA a).Nodes).length : Int))) ∧ H146 = H) ?_ ?_
  · refine wpF_region ?_
    refine wpL_q (U := NoB) rfl (q_move (v := I ((u : Int))) rfl a146_12) ?_
    refine wpL_q (U := NoB) rfl (q_fieldAddr rfl Try.underlying26 rfl Try.sizeOf23 a146_3) ?_
    refine wpL_q (U := NoB) rfl (q_loadBlk rfl rfl Try.isAgg23 (hS146.blk 5 rfl) rfl (fun h => h)) ?_
    refine wpL_q (U := NoB) rfl (q_lenRd rfl Try.underlying23 rfl (hS146.rdl 7 rfl)) ?_
    refine wpL_q (U := NoB) rfl (q_lss rfl rfl rfl) ?_
    exact ⟨a146_1, a146_3, a146_7, a146_12, rfl, rfl⟩
  rintro f147 _ ⟨a147_1, a147_3, a147_7, a147_12, a147_165, rfl⟩
  clear a146_1 a146_12 a146_3 a146_7
  refine wpF_condP a147_165 (fun hlt4 => ?t236) (fun hlt4 => ?e236)
  case t236 =>
    refine wpF_skip ?_
    refine wpF_seq ?_
    refine wpF_block ?_
    refine wpF_seq ?_
    refine wpF_cut (fun f H => ∃ (u149n1 : Value), ∃ (g151 : Nat), (In64 (nth ((doA a).Nodes) u).Op) ∧ (In64 (nth ((doA a).Nodes) u).N) ∧ (In64 (nth ((doA a).Nodes) u).D) ∧ ((nth ((doA a).Nodes) u).Name.size ≤ maxLen) ∧ f 1 = PT g1 0 ∧ f 3 = PT g14 0 ∧ f 7 = PT g48 0 ∧ f 12 = I ((u : Int)) ∧ f 13 = PT g151 0 ∧ St H0 NoB NoB [blkE g151 (.cells #[I ((nth ((doA a).Nodes) u).Op), u149n1, I ((nth ((doA a).Nodes) u).N), I ((nth ((doA a).Nodes) u).D), SB ((nth ((doA a).Nodes) u).Name)] 37), rdE u149n1 ((nth ((doA a).Nodes) u).Kids), rdE vt ((refTo a a.Nodes.length).To), rdE vn ((doA a).Nodes), blkE g48 (.cells #[vn, vt] 35), blkE g29 (.cells #[I (((sortsF a)).1), I (((sortsF a)).2)] 28), blkE g17 (.cells #[I ((doF a).1), I ((doF a).2)] 28), blkE g14 (.cells #[r8, r9, r10] 26), rdE r8 (a.Decls.map declA), rdE r9 ((doA a).Nodes), rdE r10 ((doA a).Hold), blkE g1 (.cells #[vD, vN, vH] 26), rdE vD a.Decls, rdE vN a.Nodes, rdE vH a.Hold] H) ?_ ?_
    · refine wpF_region ?_
      refine wpL_q (U := NoB) rfl (q_fieldAddr rfl Try.underlying26 rfl Try.sizeOf23 a147_3) ?_
      refine wpL_q (U := NoB) rfl (q_loadBlk rfl rfl Try.isAgg23 (hS146.blk 5 rfl) rfl (fun h => h)) ?_
      refine wpL_q (U := NoB) rfl (q_move (v := I ((u : Int))) rfl a147_12) ?_
      refine wpL_q (U := NoB) rfl (q_indexRd (k := u) rfl Try.underlying23 el_Node_37_ArrSays1 rfl rfl (hS146.rdl 7 rfl) (by omega) (by omega)) ?_
      obtain ⟨u149, huu149, hlu149⟩ := (Rd.list.1 (hS146.rdS 7 rfl)).elem u (by omega)
      obtain ⟨u149n1, rfl, hu1490, hu1491, hu1492, hu1493, hu1494⟩ := Rd.node.1 huu149
      have hS150 : St H0 NoB NoB [rdE u149n1 ((nth ((doA a).Nodes) u).Kids), rdE vt ((refTo a a.Nodes.length).To), rdE vn ((doA a).Nodes), blkE g48 (.cells #[vn, vt] 35), blkE g29 (.cells #[I (((sortsF a)).1), I (((sortsF a)).2)] 28), blkE g17 (.cells #[I ((doF a).1), I ((doF a).2)] 28), blkE g14 (.cells #[r8, r9, r10] 26), rdE r8 (a.Decls.map declA), rdE r9 ((doA a).Nodes), rdE r10 ((doA a).Hold), blkE g1 (.cells #[vD, vN, vH] 26), rdE vD a.Decls, rdE vN a.Nodes, rdE vH a.Hold] H146 := hS146.rd hu1491
      refine wpL_q (U := NoB) rfl (q_loadE rfl rfl (hlu149 Try.prog 37 _ el_Node_37_ArrSays1 (fun _ h => False.elim h))) ?_
      refine wpL_o rfl ?_
      refine e_alloc rfl Try.zeroValue37 hS150 (fun g151 H152 hS153 hxx => ?_)
      replace hS153 : St H0 NoB NoB [blkE g151 (.cells #[I (0), (Value.slice none 0 0), I (0), I (0), SB (ByteArray.mk #[])] 37), rdE u149n1 ((nth ((doA a).Nodes) u).Kids), rdE vt ((refTo a a.Nodes.length).To), rdE vn ((doA a).Nodes), blkE g48 (.cells #[vn, vt] 35), blkE g29 (.cells #[I (((sortsF a)).1), I (((sortsF a)).2)] 28), blkE g17 (.cells #[I ((doF a).1), I ((doF a).2)] 28), blkE g14 (.cells #[r8, r9, r10] 26), rdE r8 (a.Decls.map declA), rdE r9 ((doA a).Nodes), rdE r10 ((doA a).Hold), blkE g1 (.cells #[vD, vN, vH] 26), rdE vD a.Decls, rdE vN a.Nodes, rdE vH a.Hold] H152 := hS153
      refine wpL_o rfl ?_
      refine e_storeBlkA (cs' := #[I ((nth ((doA a).Nodes) u).Op), u149n1, I ((nth ((doA a).Nodes) u).N), I ((nth ((doA a).Nodes) u).D), SB ((nth ((doA a).Nodes) u).Name)]) rfl rfl rfl Try.sizeOf37 rfl rfl (List.forall_mem_cons.2 ⟨rfl, List.forall_mem_cons.2 ⟨(oneCell_rdL (hS153.rdl 1 rfl)), List.forall_mem_cons.2 ⟨rfl, List.forall_mem_cons.2 ⟨rfl, List.forall_mem_cons.2 ⟨rfl, List.forall_mem_nil _⟩⟩⟩⟩⟩) hS153 (fun H154 hS155 hxx => ?_)
      replace hS155 : St H0 NoB NoB [blkE g151 (.cells #[I ((nth ((doA a).Nodes) u).Op), u149n1, I ((nth ((doA a).Nodes) u).N), I ((nth ((doA a).Nodes) u).D), SB ((nth ((doA a).Nodes) u).Name)] 37), rdE u149n1 ((nth ((doA a).Nodes) u).Kids), rdE vt ((refTo a a.Nodes.length).To), rdE vn ((doA a).Nodes), blkE g48 (.cells #[vn, vt] 35), blkE g29 (.cells #[I (((sortsF a)).1), I (((sortsF a)).2)] 28), blkE g17 (.cells #[I ((doF a).1), I ((doF a).2)] 28), blkE g14 (.cells #[r8, r9, r10] 26), rdE r8 (a.Decls.map declA), rdE r9 ((doA a).Nodes), rdE r10 ((doA a).Hold), blkE g1 (.cells #[vD, vN, vH] 26), rdE vD a.Decls, rdE vN a.Nodes, rdE vH a.Hold] H154 := hS155
      exact ⟨u149n1, g151, hu1490, hu1492, hu1493, hu1494, a147_1, a147_3, a147_7, a147_12, rfl, hS155⟩
    rintro f156 H156 ⟨u149n1, g151, hu1490, hu1492, hu1493, hu1494, a156_1, a156_3, a156_7, a156_12, a156_13, hS156⟩
    clear a147_1 a147_12 a147_165 a147_3 a147_7
    refine wpF_seq ?_
    refine wpF_cut (fun f H => ∃ (u157n1 : Value), ∃ (g159 : Nat), (In64 (nth ((doA a).Nodes) u).Op) ∧ (In64 (nth ((doA a).Nodes) u).N) ∧ (In64 (nth ((doA a).Nodes) u).D) ∧ ((nth ((doA a).Nodes) u).Name.size ≤ maxLen) ∧ f 1 = PT g1 0 ∧ f 3 = PT g14 0 ∧ f 7 = PT g48 0 ∧ f 12 = I ((u : Int)) ∧ f 13 = PT g151 0 ∧ f 14 = PT g159 0 ∧ St H0 NoB NoB [blkE g159 (.cells #[I ((nth ((doA a).Nodes) u).Op), u157n1, I ((nth ((doA a).Nodes) u).N), I ((nth ((doA a).Nodes) u).D), SB ((nth ((doA a).Nodes) u).Name)] 37), rdE u157n1 ((nth ((doA a).Nodes) u).Kids), blkE g151 (.cells #[I ((nth ((doA a).Nodes) u).Op), u149n1, I ((nth ((doA a).Nodes) u).N), I ((nth ((doA a).Nodes) u).D), SB ((nth ((doA a).Nodes) u).Name)] 37), rdE u149n1 ((nth ((doA a).Nodes) u).Kids), rdE vt ((refTo a a.Nodes.length).To), rdE vn ((doA a).Nodes), blkE g48 (.cells #[vn, vt] 35), blkE g29 (.cells #[I (((sortsF a)).1), I (((sortsF a)).2)] 28), blkE g17 (.cells #[I ((doF a).1), I ((doF a).2)] 28), blkE g14 (.cells #[r8, r9, r10] 26), rdE r8 (a.Decls.map declA), rdE r9 ((doA a).Nodes), rdE r10 ((doA a).Hold), blkE g1 (.cells #[vD, vN, vH] 26), rdE vD a.Decls, rdE vN a.Nodes, rdE vH a.Hold] H) ?_ ?_
    · refine wpF_region ?_
      refine wpL_q (U := NoB) rfl (q_fieldAddr rfl Try.underlying35 rfl Try.sizeOf23 a156_7) ?_
      refine wpL_q (U := NoB) rfl (q_loadBlk rfl rfl Try.isAgg23 (hS156.blk 4 rfl) rfl (fun h => h)) ?_
      refine wpL_q (U := NoB) rfl (q_move (v := I ((u : Int))) rfl a156_12) ?_
      refine wpL_q (U := NoB) rfl (q_indexRd (k := u) rfl Try.underlying23 el_Node_37_ArrSays1 rfl rfl (hS156.rdl 3 rfl) (by omega) (by omega)) ?_
      obtain ⟨u157, huu157, hlu157⟩ := (Rd.list.1 (hS156.rdS 3 rfl)).elem u (by omega)
      obtain ⟨u157n1, rfl, hu1570, hu1571, hu1572, hu1573, hu1574⟩ := Rd.node.1 huu157
      have hS158 : St H0 NoB NoB [rdE u157n1 ((nth ((doA a).Nodes) u).Kids), blkE g151 (.cells #[I ((nth ((doA a).Nodes) u).Op), u149n1, I ((nth ((doA a).Nodes) u).N), I ((nth ((doA a).Nodes) u).D), SB ((nth ((doA a).Nodes) u).Name)] 37), rdE u149n1 ((nth ((doA a).Nodes) u).Kids), rdE vt ((refTo a a.Nodes.length).To), rdE vn ((doA a).Nodes), blkE g48 (.cells #[vn, vt] 35), blkE g29 (.cells #[I (((sortsF a)).1), I (((sortsF a)).2)] 28), blkE g17 (.cells #[I ((doF a).1), I ((doF a).2)] 28), blkE g14 (.cells #[r8, r9, r10] 26), rdE r8 (a.Decls.map declA), rdE r9 ((doA a).Nodes), rdE r10 ((doA a).Hold), blkE g1 (.cells #[vD, vN, vH] 26), rdE vD a.Decls, rdE vN a.Nodes, rdE vH a.Hold] H156 := hS156.rd hu1571
      refine wpL_q (U := NoB) rfl (q_loadE rfl rfl (hlu157 Try.prog 37 _ el_Node_37_ArrSays1 (fun _ h => False.elim h))) ?_
      refine wpL_o rfl ?_
      refine e_alloc rfl Try.zeroValue37 hS158 (fun g159 H160 hS161 hxx => ?_)
      replace hS161 : St H0 NoB NoB [blkE g159 (.cells #[I (0), (Value.slice none 0 0), I (0), I (0), SB (ByteArray.mk #[])] 37), rdE u157n1 ((nth ((doA a).Nodes) u).Kids), blkE g151 (.cells #[I ((nth ((doA a).Nodes) u).Op), u149n1, I ((nth ((doA a).Nodes) u).N), I ((nth ((doA a).Nodes) u).D), SB ((nth ((doA a).Nodes) u).Name)] 37), rdE u149n1 ((nth ((doA a).Nodes) u).Kids), rdE vt ((refTo a a.Nodes.length).To), rdE vn ((doA a).Nodes), blkE g48 (.cells #[vn, vt] 35), blkE g29 (.cells #[I (((sortsF a)).1), I (((sortsF a)).2)] 28), blkE g17 (.cells #[I ((doF a).1), I ((doF a).2)] 28), blkE g14 (.cells #[r8, r9, r10] 26), rdE r8 (a.Decls.map declA), rdE r9 ((doA a).Nodes), rdE r10 ((doA a).Hold), blkE g1 (.cells #[vD, vN, vH] 26), rdE vD a.Decls, rdE vN a.Nodes, rdE vH a.Hold] H160 := hS161
      refine wpL_o rfl ?_
      refine e_storeBlkA (cs' := #[I ((nth ((doA a).Nodes) u).Op), u157n1, I ((nth ((doA a).Nodes) u).N), I ((nth ((doA a).Nodes) u).D), SB ((nth ((doA a).Nodes) u).Name)]) rfl rfl rfl Try.sizeOf37 rfl rfl (List.forall_mem_cons.2 ⟨rfl, List.forall_mem_cons.2 ⟨(oneCell_rdL (hS161.rdl 1 rfl)), List.forall_mem_cons.2 ⟨rfl, List.forall_mem_cons.2 ⟨rfl, List.forall_mem_cons.2 ⟨rfl, List.forall_mem_nil _⟩⟩⟩⟩⟩) hS161 (fun H162 hS163 hxx => ?_)
      replace hS163 : St H0 NoB NoB [blkE g159 (.cells #[I ((nth ((doA a).Nodes) u).Op), u157n1, I ((nth ((doA a).Nodes) u).N), I ((nth ((doA a).Nodes) u).D), SB ((nth ((doA a).Nodes) u).Name)] 37), rdE u157n1 ((nth ((doA a).Nodes) u).Kids), blkE g151 (.cells #[I ((nth ((doA a).Nodes) u).Op), u149n1, I ((nth ((doA a).Nodes) u).N), I ((nth ((doA a).Nodes) u).D), SB ((nth ((doA a).Nodes) u).Name)] 37), rdE u149n1 ((nth ((doA a).Nodes) u).Kids), rdE vt ((refTo a a.Nodes.length).To), rdE vn ((doA a).Nodes), blkE g48 (.cells #[vn, vt] 35), blkE g29 (.cells #[I (((sortsF a)).1), I (((sortsF a)).2)] 28), blkE g17 (.cells #[I ((doF a).1), I ((doF a).2)] 28), blkE g14 (.cells #[r8, r9, r10] 26), rdE r8 (a.Decls.map declA), rdE r9 ((doA a).Nodes), rdE r10 ((doA a).Hold), blkE g1 (.cells #[vD, vN, vH] 26), rdE vD a.Decls, rdE vN a.Nodes, rdE vH a.Hold] H162 := hS163
      exact ⟨u157n1, g159, hu1570, hu1572, hu1573, hu1574, a156_1, a156_3, a156_7, a156_12, a156_13, rfl, hS163⟩
    rintro f164 H164 ⟨u157n1, g159, hu1570, hu1572, hu1573, hu1574, a164_1, a164_3, a164_7, a164_12, a164_13, a164_14, hS164⟩
    clear a156_1 a156_12 a156_13 a156_3 a156_7
    refine wpF_seq ?_
    refine wpF_cut (fun f H => f 1 = PT g1 0 ∧ f 3 = PT g14 0 ∧ f 7 = PT g48 0 ∧ f 12 = I ((u : Int)) ∧ f 211 = B (decide (((((((nth ((doA a).Nodes) u).Op) ≠ ((nth ((doA a).Nodes) u).Op)) ∨ (¬ sEq ((nth ((doA a).Nodes) u).Name) ((nth ((doA a).Nodes) u).Name))) ∨ (((nth ((doA a).Nodes) u).N) ≠ ((nth ((doA a).Nodes) u).N))) ∨ (((nth ((doA a).Nodes) u).D) ≠ ((nth ((doA a).Nodes) u).D))) ∨ (¬ (((nth ((doA a).Nodes) u).Kids) = ((nth ((doA a).Nodes) u).Kids))))) ∧ St H0 NoB NoB [blkE g159 (.cells #[I ((nth ((doA a).Nodes) u).Op), u157n1, I ((nth ((doA a).Nodes) u).N), I ((nth ((doA a).Nodes) u).D), SB ((nth ((doA a).Nodes) u).Name)] 37), rdE u157n1 ((nth ((doA a).Nodes) u).Kids), blkE g151 (.cells #[I ((nth ((doA a).Nodes) u).Op), u149n1, I ((nth ((doA a).Nodes) u).N), I ((nth ((doA a).Nodes) u).D), SB ((nth ((doA a).Nodes) u).Name)] 37), rdE u149n1 ((nth ((doA a).Nodes) u).Kids), rdE vt ((refTo a a.Nodes.length).To), rdE vn ((doA a).Nodes), blkE g48 (.cells #[vn, vt] 35), blkE g29 (.cells #[I (((sortsF a)).1), I (((sortsF a)).2)] 28), blkE g17 (.cells #[I ((doF a).1), I ((doF a).2)] 28), blkE g14 (.cells #[r8, r9, r10] 26), rdE r8 (a.Decls.map declA), rdE r9 ((doA a).Nodes), rdE r10 ((doA a).Hold), blkE g1 (.cells #[vD, vN, vH] 26), rdE vD a.Decls, rdE vN a.Nodes, rdE vH a.Hold] H) ?_ ?_
    · refine wpF_region ?_
      refine wpL_q (U := NoB) rfl (q_fieldAddr rfl Try.underlying37 rfl Try.sizeOf3 a164_13) ?_
      refine wpL_q (U := NoB) rfl (q_loadBlk rfl rfl Try.isAgg3 (hS164.blk 2 rfl) rfl (fun h => h)) ?_
      refine wpL_q (U := NoB) rfl (q_fieldAddr rfl Try.underlying37 rfl Try.sizeOf3 a164_14) ?_
      refine wpL_q (U := NoB) rfl (q_loadBlk rfl rfl Try.isAgg3 (hS164.blk 0 rfl) rfl (fun h => h)) ?_
      refine wpL_q (U := NoB) rfl (q_neq rfl rfl rfl) ?_
      refine wpL_q (U := NoB) rfl (q_move (v := B (decide (((nth ((doA a).Nodes) u).Op) ≠ ((nth ((doA a).Nodes) u).Op)))) rfl rfl) ?_
      by_cases hg165 : ((nth ((doA a).Nodes) u).Op) ≠ ((nth ((doA a).Nodes) u).Op)
      · have hb166 := Eq.trans rfl (congrArg B (decide_eq_true hg165))
        refine wpL_gs rfl rfl rfl hb166 rfl ?_
        refine wpL_gs rfl rfl rfl hb166 rfl ?_
        refine wpL_gs rfl rfl rfl hb166 rfl ?_
        refine wpL_gs rfl rfl rfl hb166 rfl ?_
        refine wpL_gs rfl rfl rfl hb166 rfl ?_
        refine wpL_q (U := NoB) rfl (q_pickT (v := B (true)) rfl hb166 rfl) ?_
        refine wpL_q (U := NoB) rfl (q_move (v := B (true)) rfl rfl) ?_
        refine wpL_gs rfl rfl rfl rfl rfl ?_
        refine wpL_gs rfl rfl rfl rfl rfl ?_
        refine wpL_gs rfl rfl rfl rfl rfl ?_
        refine wpL_gs rfl rfl rfl rfl rfl ?_
        refine wpL_gs rfl rfl rfl rfl rfl ?_
        refine wpL_q (U := NoB) rfl (q_pickT (v := B (true)) rfl rfl rfl) ?_
        refine wpL_q (U := NoB) rfl (q_move (v := B (true)) rfl rfl) ?_
        refine wpL_gs rfl rfl rfl rfl rfl ?_
        refine wpL_gs rfl rfl rfl rfl rfl ?_
        refine wpL_gs rfl rfl rfl rfl rfl ?_
        refine wpL_gs rfl rfl rfl rfl rfl ?_
        refine wpL_gs rfl rfl rfl rfl rfl ?_
        refine wpL_q (U := NoB) rfl (q_pickT (v := B (true)) rfl rfl rfl) ?_
        refine wpL_q (U := NoB) rfl (q_move (v := B (true)) rfl rfl) ?_
        refine wpL_gs rfl rfl rfl rfl rfl ?_
        refine wpL_gs rfl rfl rfl rfl rfl ?_
        refine wpL_gs rfl rfl rfl rfl rfl ?_
        refine wpL_gs rfl rfl rfl rfl rfl ?_
        refine wpL_gs rfl rfl rfl rfl rfl ?_
        refine wpL_gs rfl rfl rfl rfl rfl ?_
        refine wpL_q (U := NoB) rfl (q_pickT (v := B (true)) rfl rfl rfl) ?_
        exact ⟨a164_1, a164_3, a164_7, a164_12, (Eq.trans rfl (congrArg B ((decide_eq_true (Or.inl (Or.inl (Or.inl (Or.inl hg165))))).symm))), hS164⟩
      · have hb167 := Eq.trans rfl (congrArg B (decide_eq_false hg165))
        refine wpL_gq (U := NoB) rfl rfl rfl hb167 (q_fieldAddr rfl Try.underlying37 rfl Try.sizeOf9 a164_13) ?_
        refine wpL_gq (U := NoB) rfl rfl rfl hb167 (q_loadBlk rfl rfl Try.isAgg9 (hS164.blk 2 rfl) rfl (fun h => h)) ?_
        refine wpL_gq (U := NoB) rfl rfl rfl hb167 (q_fieldAddr rfl Try.underlying37 rfl Try.sizeOf9 a164_14) ?_
        refine wpL_gq (U := NoB) rfl rfl rfl hb167 (q_loadBlk rfl rfl Try.isAgg9 (hS164.blk 0 rfl) rfl (fun h => h)) ?_
        refine wpL_gq (U := NoB) rfl rfl rfl hb167 (q_neqS rfl rfl rfl) ?_
        refine wpL_q (U := NoB) rfl (q_pickF (v := B (decide (¬ sEq ((nth ((doA a).Nodes) u).Name) ((nth ((doA a).Nodes) u).Name)))) rfl hb167 rfl) ?_
        refine wpL_q (U := NoB) rfl (q_move (v := B (decide (¬ sEq ((nth ((doA a).Nodes) u).Name) ((nth ((doA a).Nodes) u).Name)))) rfl rfl) ?_
        by_cases hg168 : ¬ sEq ((nth ((doA a).Nodes) u).Name) ((nth ((doA a).Nodes) u).Name)
        · have hb169 := Eq.trans rfl (congrArg B (decide_eq_true hg168))
          refine wpL_gs rfl rfl rfl hb169 rfl ?_
          refine wpL_gs rfl rfl rfl hb169 rfl ?_
          refine wpL_gs rfl rfl rfl hb169 rfl ?_
          refine wpL_gs rfl rfl rfl hb169 rfl ?_
          refine wpL_gs rfl rfl rfl hb169 rfl ?_
          refine wpL_q (U := NoB) rfl (q_pickT (v := B (true)) rfl hb169 rfl) ?_
          refine wpL_q (U := NoB) rfl (q_move (v := B (true)) rfl rfl) ?_
          refine wpL_gs rfl rfl rfl rfl rfl ?_
          refine wpL_gs rfl rfl rfl rfl rfl ?_
          refine wpL_gs rfl rfl rfl rfl rfl ?_
          refine wpL_gs rfl rfl rfl rfl rfl ?_
          refine wpL_gs rfl rfl rfl rfl rfl ?_
          refine wpL_q (U := NoB) rfl (q_pickT (v := B (true)) rfl rfl rfl) ?_
          refine wpL_q (U := NoB) rfl (q_move (v := B (true)) rfl rfl) ?_
          refine wpL_gs rfl rfl rfl rfl rfl ?_
          refine wpL_gs rfl rfl rfl rfl rfl ?_
          refine wpL_gs rfl rfl rfl rfl rfl ?_
          refine wpL_gs rfl rfl rfl rfl rfl ?_
          refine wpL_gs rfl rfl rfl rfl rfl ?_
          refine wpL_gs rfl rfl rfl rfl rfl ?_
          refine wpL_q (U := NoB) rfl (q_pickT (v := B (true)) rfl rfl rfl) ?_
          exact ⟨a164_1, a164_3, a164_7, a164_12, (Eq.trans rfl (congrArg B ((decide_eq_true (Or.inl (Or.inl (Or.inl (Or.inr hg168))))).symm))), hS164⟩
        · have hb170 := Eq.trans rfl (congrArg B (decide_eq_false hg168))
          refine wpL_gq (U := NoB) rfl rfl rfl hb170 (q_fieldAddr rfl Try.underlying37 rfl Try.sizeOf3 a164_13) ?_
          refine wpL_gq (U := NoB) rfl rfl rfl hb170 (q_loadBlk rfl rfl Try.isAgg3 (hS164.blk 2 rfl) rfl (fun h => h)) ?_
          refine wpL_gq (U := NoB) rfl rfl rfl hb170 (q_fieldAddr rfl Try.underlying37 rfl Try.sizeOf3 a164_14) ?_
          refine wpL_gq (U := NoB) rfl rfl rfl hb170 (q_loadBlk rfl rfl Try.isAgg3 (hS164.blk 0 rfl) rfl (fun h => h)) ?_
          refine wpL_gq (U := NoB) rfl rfl rfl hb170 (q_neq rfl rfl rfl) ?_
          refine wpL_q (U := NoB) rfl (q_pickF (v := B (decide (((nth ((doA a).Nodes) u).N) ≠ ((nth ((doA a).Nodes) u).N)))) rfl hb170 rfl) ?_
          refine wpL_q (U := NoB) rfl (q_move (v := B (decide (((nth ((doA a).Nodes) u).N) ≠ ((nth ((doA a).Nodes) u).N)))) rfl rfl) ?_
          by_cases hg171 : ((nth ((doA a).Nodes) u).N) ≠ ((nth ((doA a).Nodes) u).N)
          · have hb172 := Eq.trans rfl (congrArg B (decide_eq_true hg171))
            refine wpL_gs rfl rfl rfl hb172 rfl ?_
            refine wpL_gs rfl rfl rfl hb172 rfl ?_
            refine wpL_gs rfl rfl rfl hb172 rfl ?_
            refine wpL_gs rfl rfl rfl hb172 rfl ?_
            refine wpL_gs rfl rfl rfl hb172 rfl ?_
            refine wpL_q (U := NoB) rfl (q_pickT (v := B (true)) rfl hb172 rfl) ?_
            refine wpL_q (U := NoB) rfl (q_move (v := B (true)) rfl rfl) ?_
            refine wpL_gs rfl rfl rfl rfl rfl ?_
            refine wpL_gs rfl rfl rfl rfl rfl ?_
            refine wpL_gs rfl rfl rfl rfl rfl ?_
            refine wpL_gs rfl rfl rfl rfl rfl ?_
            refine wpL_gs rfl rfl rfl rfl rfl ?_
            refine wpL_gs rfl rfl rfl rfl rfl ?_
            refine wpL_q (U := NoB) rfl (q_pickT (v := B (true)) rfl rfl rfl) ?_
            exact ⟨a164_1, a164_3, a164_7, a164_12, (Eq.trans rfl (congrArg B ((decide_eq_true (Or.inl (Or.inl (Or.inr hg171)))).symm))), hS164⟩
          · have hb173 := Eq.trans rfl (congrArg B (decide_eq_false hg171))
            refine wpL_gq (U := NoB) rfl rfl rfl hb173 (q_fieldAddr rfl Try.underlying37 rfl Try.sizeOf3 a164_13) ?_
            refine wpL_gq (U := NoB) rfl rfl rfl hb173 (q_loadBlk rfl rfl Try.isAgg3 (hS164.blk 2 rfl) rfl (fun h => h)) ?_
            refine wpL_gq (U := NoB) rfl rfl rfl hb173 (q_fieldAddr rfl Try.underlying37 rfl Try.sizeOf3 a164_14) ?_
            refine wpL_gq (U := NoB) rfl rfl rfl hb173 (q_loadBlk rfl rfl Try.isAgg3 (hS164.blk 0 rfl) rfl (fun h => h)) ?_
            refine wpL_gq (U := NoB) rfl rfl rfl hb173 (q_neq rfl rfl rfl) ?_
            refine wpL_q (U := NoB) rfl (q_pickF (v := B (decide (((nth ((doA a).Nodes) u).D) ≠ ((nth ((doA a).Nodes) u).D)))) rfl hb173 rfl) ?_
            refine wpL_q (U := NoB) rfl (q_move (v := B (decide (((nth ((doA a).Nodes) u).D) ≠ ((nth ((doA a).Nodes) u).D)))) rfl rfl) ?_
            by_cases hg174 : ((nth ((doA a).Nodes) u).D) ≠ ((nth ((doA a).Nodes) u).D)
            · have hb175 := Eq.trans rfl (congrArg B (decide_eq_true hg174))
              refine wpL_gs rfl rfl rfl hb175 rfl ?_
              refine wpL_gs rfl rfl rfl hb175 rfl ?_
              refine wpL_gs rfl rfl rfl hb175 rfl ?_
              refine wpL_gs rfl rfl rfl hb175 rfl ?_
              refine wpL_gs rfl rfl rfl hb175 rfl ?_
              refine wpL_gs rfl rfl rfl hb175 rfl ?_
              refine wpL_q (U := NoB) rfl (q_pickT (v := B (true)) rfl hb175 rfl) ?_
              exact ⟨a164_1, a164_3, a164_7, a164_12, (Eq.trans rfl (congrArg B ((decide_eq_true (Or.inl (Or.inr hg174))).symm))), hS164⟩
            · have hb176 := Eq.trans rfl (congrArg B (decide_eq_false hg174))
              refine wpL_gq (U := NoB) rfl rfl rfl hb176 (q_fieldAddr rfl Try.underlying37 rfl Try.sizeOf24 a164_13) ?_
              refine wpL_gq (U := NoB) rfl rfl rfl hb176 (q_loadBlk rfl rfl Try.isAgg24 (hS164.blk 2 rfl) rfl (fun h => h)) ?_
              refine wpL_gq (U := NoB) rfl rfl rfl hb176 (q_fieldAddr rfl Try.underlying37 rfl Try.sizeOf24 a164_14) ?_
              refine wpL_gq (U := NoB) rfl rfl rfl hb176 (q_loadBlk rfl rfl Try.isAgg24 (hS164.blk 0 rfl) rfl (fun h => h)) ?_
              refine wpL_go rfl rfl rfl hb176 ?_
              refine e_call rfl Try.call12 (arr2 (v0 := u149n1) (v1 := u157n1) rfl rfl) (Ints_R u149n1 u157n1 _ _ (hS164.rdN 3 rfl) (hS164.rdN 1 rfl)) ?_
              rintro _ H177 ⟨hxx, rfl⟩
              have hS178 : St H0 NoB NoB [blkE g159 (.cells #[I ((nth ((doA a).Nodes) u).Op), u157n1, I ((nth ((doA a).Nodes) u).N), I ((nth ((doA a).Nodes) u).D), SB ((nth ((doA a).Nodes) u).Name)] 37), rdE u157n1 ((nth ((doA a).Nodes) u).Kids), blkE g151 (.cells #[I ((nth ((doA a).Nodes) u).Op), u149n1, I ((nth ((doA a).Nodes) u).N), I ((nth ((doA a).Nodes) u).D), SB ((nth ((doA a).Nodes) u).Name)] 37), rdE u149n1 ((nth ((doA a).Nodes) u).Kids), rdE vt ((refTo a a.Nodes.length).To), rdE vn ((doA a).Nodes), blkE g48 (.cells #[vn, vt] 35), blkE g29 (.cells #[I (((sortsF a)).1), I (((sortsF a)).2)] 28), blkE g17 (.cells #[I ((doF a).1), I ((doF a).2)] 28), blkE g14 (.cells #[r8, r9, r10] 26), rdE r8 (a.Decls.map declA), rdE r9 ((doA a).Nodes), rdE r10 ((doA a).Hold), blkE g1 (.cells #[vD, vN, vH] 26), rdE vD a.Decls, rdE vN a.Nodes, rdE vH a.Hold] H177 := hS164.ext hxx
              refine wpL_gq (U := NoB) rfl rfl rfl hb176 (q_notP rfl rfl) ?_
              refine wpL_q (U := NoB) rfl (q_pickF (v := B (decide (¬ (((nth ((doA a).Nodes) u).Kids) = ((nth ((doA a).Nodes) u).Kids))))) rfl hb176 rfl) ?_
              exact ⟨a164_1, a164_3, a164_7, a164_12, (Eq.trans rfl (congrArg B (decide_congr_of (((not_congr Iff.rfl)).trans (((or_iff_right (not_or.2 ⟨(not_or.2 ⟨(not_or.2 ⟨hg165, hg168⟩), hg171⟩), hg174⟩)).trans (not_congr Iff.rfl))).symm)))), hS178⟩
    rintro f180 H180 ⟨a180_1, a180_3, a180_7, a180_12, a180_211, hS180⟩
    clear a164_1 a164_12 a164_13 a164_14 a164_3 a164_7
    refine wpF_condP a180_211 (fun h211 => ?t184) (fun h211 => ?e184)
    case t184 =>
      refine wpF_seq ?_
      refine wpF_cut (fun f H => f 2 = B (false) ∧ H180 = H) ?_ ?_
      · refine wpF_region ?_
        refine wpL_q (U := NoB) rfl (q_assign (v := B (false)) rfl rfl) ?_
        exact ⟨rfl, rfl⟩
      rintro f182 _ ⟨a182_2, rfl⟩
      clear a180_1 a180_12 a180_211 a180_3 a180_7
      refine wpF_ret ?_
      refine ⟨_, resT a182_2 resN, hS180.frame, ?_⟩
      show (B (false)) = B true
      exact absurd h211 (by simp [sEq])
    refine wpF_skip ?_
    refine wpF_cut (fun f H => f 1 = PT g1 0 ∧ f 3 = PT g14 0 ∧ f 7 = PT g48 0 ∧ f 12 = I ((u : Int) + 1) ∧ H180 = H) ?_ ?_
    · refine wpF_region ?_
      refine wpL_q (U := NoB) rfl (q_move (v := I ((u : Int))) rfl a180_12) ?_
      refine wpL_q (U := NoB) rfl (q_add rfl rfl rfl (by constructor <;> omega)) ?_
      refine wpL_q (U := NoB) rfl (q_assign (v := I ((u : Int) + 1)) rfl rfl) ?_
      exact ⟨a180_1, a180_3, a180_7, rfl, rfl⟩
    rintro f183 _ ⟨a183_1, a183_3, a183_7, a183_12, rfl⟩
    clear a180_1 a180_12 a180_211 a180_3 a180_7
    refine ⟨_, ?_, u + 1, rfl, (by omega), a183_1, a183_3, a183_7, (Eq.trans a183_12 (congrArg I (by omega))), (hS180.drop (sn (sn (sn (sn (sk (sk (sk (sk (sk (sk (sk (sk (sk (sk (sk (sk (sk (List.Sublist.slnil)))))))))))))))))))⟩
    omega
  refine wpF_exit ?_
  refine atX_here ?_
  refine wpF_seq ?_
  refine wpF_seq ?_
  refine wpF_cut (fun f H => f 1 = PT g1 0 ∧ f 3 = PT g14 0 ∧ f 7 = PT g48 0 ∧ f 15 = I (0) ∧ H146 = H) ?_ ?_
  · refine wpF_region ?_
    refine wpL_q (U := NoB) rfl (q_assign (v := I (0)) rfl rfl) ?_
    exact ⟨a147_1, a147_3, a147_7, rfl, rfl⟩
  rintro f185 _ ⟨a185_1, a185_3, a185_7, a185_15, rfl⟩
  clear a147_1 a147_12 a147_165 a147_3 a147_7
  refine wpF_block ?_
  refine wpF_loop (fun mz f H => ∃ (v : Nat), mz = a.Decls.length - v ∧ (v ≤ a.Decls.length) ∧ f 1 = PT g1 0 ∧ f 3 = PT g14 0 ∧ f 7 = PT g48 0 ∧ f 15 = I ((v : Int)) ∧ St H0 NoB NoB [rdE vt ((refTo a a.Nodes.length).To), rdE vn ((doA a).Nodes), blkE g48 (.cells #[vn, vt] 35), blkE g29 (.cells #[I (((sortsF a)).1), I (((sortsF a)).2)] 28), blkE g17 (.cells #[I ((doF a).1), I ((doF a).2)] 28), blkE g14 (.cells #[r8, r9, r10] 26), rdE r8 (a.Decls.map declA), rdE r9 ((doA a).Nodes), rdE r10 ((doA a).Hold), blkE g1 (.cells #[vD, vN, vH] 26), rdE vD a.Decls, rdE vN a.Nodes, rdE vH a.Hold] H) (a.Decls.length - 0) ?_ ?_
  · exact ⟨0, rfl, Nat.zero_le _, a185_1, a185_3, a185_7, (Eq.trans a185_15 (congrArg I (by omega))), hS146⟩
  intro m186 f186 H186 hI186
  obtain ⟨v, hm186, hv, a186_1, a186_3, a186_7, a186_15, hS186⟩ := hI186
  clear a185_1 a185_15 a185_3 a185_7
  refine wpF_seq ?_
  refine wpF_seq ?_
  refine wpF_cut (fun f H => f 1 = PT g1 0 ∧ f 3 = PT g14 0 ∧ f 7 = PT g48 0 ∧ f 15 = I ((v : Int)) ∧ f 216 = B (decide ((v : Int) < ((a.Decls.map declA).length : Int))) ∧ H186 = H) ?_ ?_
  · refine wpF_region ?_
    refine wpL_q (U := NoB) rfl (q_move (v := I ((v : Int))) rfl a186_15) ?_
    refine wpL_q (U := NoB) rfl (q_fieldAddr rfl Try.underlying26 rfl Try.sizeOf22 a186_3) ?_
    refine wpL_q (U := NoB) rfl (q_loadBlk rfl rfl Try.isAgg22 (hS186.blk 5 rfl) rfl (fun h => h)) ?_
    refine wpL_q (U := NoB) rfl (q_lenRd rfl Try.underlying22 rfl (hS186.rdl 6 rfl)) ?_
    refine wpL_q (U := NoB) rfl (q_lss rfl rfl rfl) ?_
    exact ⟨a186_1, a186_3, a186_7, a186_15, rfl, rfl⟩
  rintro f187 _ ⟨a187_1, a187_3, a187_7, a187_15, a187_216, rfl⟩
  clear a186_1 a186_15 a186_3 a186_7
  refine wpF_condP a187_216 (fun hlt6 => ?t235) (fun hlt6 => ?e235)
  case e235 =>
    refine wpF_exit ?_
    refine atX_here ?_
    refine wpF_seq ?_
    refine wpF_seq ?_
    refine wpF_cut (fun f H => f 1 = PT g1 0 ∧ f 3 = PT g14 0 ∧ f 7 = PT g48 0 ∧ f 17 = I (0) ∧ H186 = H) ?_ ?_
    · refine wpF_region ?_
      refine wpL_q (U := NoB) rfl (q_assign (v := I (0)) rfl rfl) ?_
      exact ⟨a187_1, a187_3, a187_7, rfl, rfl⟩
    rintro f223 _ ⟨a223_1, a223_3, a223_7, a223_17, rfl⟩
    clear a187_1 a187_15 a187_216 a187_3 a187_7
    refine wpF_block ?_
    refine wpF_loop (fun mz f H => ∃ (w : Nat), mz = a.Hold.length - w ∧ (w ≤ a.Hold.length) ∧ f 1 = PT g1 0 ∧ f 3 = PT g14 0 ∧ f 7 = PT g48 0 ∧ f 17 = I ((w : Int)) ∧ St H0 NoB NoB [rdE vt ((refTo a a.Nodes.length).To), rdE vn ((doA a).Nodes), blkE g48 (.cells #[vn, vt] 35), blkE g29 (.cells #[I (((sortsF a)).1), I (((sortsF a)).2)] 28), blkE g17 (.cells #[I ((doF a).1), I ((doF a).2)] 28), blkE g14 (.cells #[r8, r9, r10] 26), rdE r8 (a.Decls.map declA), rdE r9 ((doA a).Nodes), rdE r10 ((doA a).Hold), blkE g1 (.cells #[vD, vN, vH] 26), rdE vD a.Decls, rdE vN a.Nodes, rdE vH a.Hold] H) (a.Hold.length - 0) ?_ ?_
    · exact ⟨0, rfl, Nat.zero_le _, a223_1, a223_3, a223_7, (Eq.trans a223_17 (congrArg I (by omega))), hS186⟩
    intro m224 f224 H224 hI224
    obtain ⟨w, hm224, hw, a224_1, a224_3, a224_7, a224_17, hS224⟩ := hI224
    clear a223_1 a223_17 a223_3 a223_7
    refine wpF_seq ?_
    refine wpF_seq ?_
    refine wpF_cut (fun f H => f 1 = PT g1 0 ∧ f 3 = PT g14 0 ∧ f 7 = PT g48 0 ∧ f 17 = I ((w : Int)) ∧ f 266 = B (decide ((w : Int) < (((doA a).Hold).length : Int))) ∧ H224 = H) ?_ ?_
    · refine wpF_region ?_
      refine wpL_q (U := NoB) rfl (q_move (v := I ((w : Int))) rfl a224_17) ?_
      refine wpL_q (U := NoB) rfl (q_fieldAddr rfl Try.underlying26 rfl Try.sizeOf24 a224_3) ?_
      refine wpL_q (U := NoB) rfl (q_loadBlk rfl rfl Try.isAgg24 (hS224.blk 5 rfl) rfl (fun h => h)) ?_
      refine wpL_q (U := NoB) rfl (q_lenRd rfl Try.underlying24 rfl (hS224.rdl 8 rfl)) ?_
      refine wpL_q (U := NoB) rfl (q_lss rfl rfl rfl) ?_
      exact ⟨a224_1, a224_3, a224_7, a224_17, rfl, rfl⟩
    rintro f225 _ ⟨a225_1, a225_3, a225_7, a225_17, a225_266, rfl⟩
    clear a224_1 a224_17 a224_3 a224_7
    refine wpF_condP a225_266 (fun hlt8 => ?t234) (fun hlt8 => ?e234)
    case e234 =>
      refine wpF_exit ?_
      refine atX_here ?_
      refine wpF_seq ?_
      refine wpF_cut (fun f H => f 2 = B (true) ∧ H224 = H) ?_ ?_
      · refine wpF_region ?_
        refine wpL_q (U := NoB) rfl (q_assign (v := B (true)) rfl rfl) ?_
        exact ⟨rfl, rfl⟩
      rintro f233 _ ⟨a233_2, rfl⟩
      clear a225_1 a225_17 a225_266 a225_3 a225_7
      refine wpF_ret ?_
      refine ⟨_, resT a233_2 resN, hS224.frame, ?_⟩
      show (B (true)) = B true
      rfl
    have hhu := hA.hold w (by omega)
    refine wpF_skip ?_
    refine wpF_seq ?_
    refine wpF_block ?_
    refine wpF_seq ?_
    refine wpF_cut (fun f H => f 1 = PT g1 0 ∧ f 3 = PT g14 0 ∧ f 7 = PT g48 0 ∧ f 17 = I ((w : Int)) ∧ f 283 = B (decide ((nth ((doA a).Hold) w) ≠ (nth ((refTo a a.Nodes.length).To) ((nth a.Hold w).toNat)))) ∧ H224 = H) ?_ ?_
    · refine wpF_drawn [] [] (fun _ _ => False) (by kernel_rfl) (by kernel_rfl) ?_
      refine wpR_q 0 (by kernel_rfl) rfl (quietAt rfl rfl (q_fieldAddr rfl Try.underlying26 rfl Try.sizeOf24 a225_3)) ?_
      refine wpR_q 1 (by kernel_rfl) rfl (quietAt rfl rfl (q_loadBlk rfl rfl Try.isAgg24 (hS224.blk 5 rfl) rfl (labU_not [] rfl (List.forall_mem_nil _)))) ?_
      refine wpR_q 2 (by kernel_rfl) rfl (quietAt rfl rfl (q_move (v := I ((w : Int))) rfl a225_17)) ?_
      refine wpR_q 3 (by kernel_rfl) rfl (quietAt rfl rfl (q_indexRd (k := w) rfl Try.underlying24 el_Int_3_ArrSays1 rfl rfl (hS224.rdl 8 rfl) (by omega) (by omega))) ?_
      refine wpR_q 4 (by kernel_rfl) rfl (quietAt rfl rfl (q_loadInt (k := w) rfl rfl el_Int_3_ArrSays1 (hS224.rdl 8 rfl) (by omega) (labU_sub [] rfl (List.forall_mem_nil _)))) ?_
      refine wpR_q 5 (by kernel_rfl) rfl (quietAt rfl rfl (q_fieldAddr rfl Try.underlying35 rfl Try.sizeOf24 a225_7)) ?_
      refine wpR_q 6 (by kernel_rfl) rfl (quietAt rfl rfl (q_loadBlk rfl rfl Try.isAgg24 (hS224.blk 2 rfl) rfl (labU_not [] rfl (List.forall_mem_nil _)))) ?_
      refine wpR_q 7 (by kernel_rfl) rfl (quietAt rfl rfl (q_fieldAddr rfl Try.underlying26 rfl Try.sizeOf24 a225_1)) ?_
      refine wpR_q 8 (by kernel_rfl) rfl (quietAt rfl rfl (q_loadBlk rfl rfl Try.isAgg24 (hS224.blk 9 rfl) rfl (labU_not [] rfl (List.forall_mem_nil _)))) ?_
      refine wpR_q 9 (by kernel_rfl) rfl (quietAt rfl rfl (q_move (v := I ((w : Int))) rfl a225_17)) ?_
      refine wpR_q 10 (by kernel_rfl) rfl (quietAt rfl rfl (q_indexRd (k := w) rfl Try.underlying24 el_Int_3_ArrSays1 rfl rfl (hS224.rdl 12 rfl) (by omega) (by omega))) ?_
      refine wpR_q 11 (by kernel_rfl) rfl (quietAt rfl rfl (q_loadInt (k := w) rfl rfl el_Int_3_ArrSays1 (hS224.rdl 12 rfl) (by omega) (labU_sub [] rfl (List.forall_mem_nil _)))) ?_
      refine wpR_q 12 (by kernel_rfl) rfl (quietAt rfl rfl (q_indexRd (k := (nth a.Hold w).toNat) rfl Try.underlying24 el_Int_3_ArrSays1 rfl rfl (hS224.rdl 0 rfl) (by omega) (by omega))) ?_
      refine wpR_q 13 (by kernel_rfl) rfl (quietAt rfl rfl (q_loadInt (k := (nth a.Hold w).toNat) rfl rfl el_Int_3_ArrSays1 (hS224.rdl 0 rfl) (by omega) (labU_sub [] rfl (List.forall_mem_nil _)))) ?_
      refine wpR_q 14 (by kernel_rfl) rfl (quietAt rfl rfl (q_neq rfl rfl rfl)) ?_
      refine wpR_end (by kernel_rfl) ?_
      exact ⟨a225_1, a225_3, a225_7, a225_17, rfl, rfl⟩
    rintro f228 _ ⟨a228_1, a228_3, a228_7, a228_17, a228_283, rfl⟩
    clear a225_1 a225_17 a225_266 a225_3 a225_7
    refine wpF_condP a228_283 (fun h283 => ?t232) (fun h283 => ?e232)
    case t232 =>
      refine wpF_seq ?_
      refine wpF_cut (fun f H => f 2 = B (false) ∧ H224 = H) ?_ ?_
      · refine wpF_region ?_
        refine wpL_q (U := NoB) rfl (q_assign (v := B (false)) rfl rfl) ?_
        exact ⟨rfl, rfl⟩
      rintro f230 _ ⟨a230_2, rfl⟩
      clear a228_1 a228_17 a228_283 a228_3 a228_7
      refine wpF_ret ?_
      refine ⟨_, resT a230_2 resN, hS224.frame, ?_⟩
      show (B (false)) = B true
      exact absurd (e4 w (by omega)) h283
    refine wpF_skip ?_
    refine wpF_cut (fun f H => f 1 = PT g1 0 ∧ f 3 = PT g14 0 ∧ f 7 = PT g48 0 ∧ f 17 = I ((w : Int) + 1) ∧ H224 = H) ?_ ?_
    · refine wpF_region ?_
      refine wpL_q (U := NoB) rfl (q_move (v := I ((w : Int))) rfl a228_17) ?_
      refine wpL_q (U := NoB) rfl (q_add rfl rfl rfl (by constructor <;> omega)) ?_
      refine wpL_q (U := NoB) rfl (q_assign (v := I ((w : Int) + 1)) rfl rfl) ?_
      exact ⟨a228_1, a228_3, a228_7, rfl, rfl⟩
    rintro f231 _ ⟨a231_1, a231_3, a231_7, a231_17, rfl⟩
    clear a228_1 a228_17 a228_283 a228_3 a228_7
    refine ⟨_, ?_, w + 1, rfl, (by omega), a231_1, a231_3, a231_7, (Eq.trans a231_17 (congrArg I (by omega))), hS224⟩
    omega
  refine wpF_skip ?_
  refine wpF_seq ?_
  refine wpF_block ?_
  refine wpF_seq ?_
  refine wpF_cut (fun f H => ∃ (u189n1 : Value), ∃ (g191 : Nat), ((nth a.Decls v).Name.size ≤ maxLen) ∧ (In64 (nth a.Decls v).Srt) ∧ f 1 = PT g1 0 ∧ f 3 = PT g14 0 ∧ f 7 = PT g48 0 ∧ f 15 = I ((v : Int)) ∧ f 16 = PT g191 0 ∧ St H0 NoB NoB [blkE g191 (.cells #[SB ((nth a.Decls v).Name), u189n1, I ((nth a.Decls v).Srt)] 43), rdE u189n1 ((nth a.Decls v).Args), rdE vt ((refTo a a.Nodes.length).To), rdE vn ((doA a).Nodes), blkE g48 (.cells #[vn, vt] 35), blkE g29 (.cells #[I (((sortsF a)).1), I (((sortsF a)).2)] 28), blkE g17 (.cells #[I ((doF a).1), I ((doF a).2)] 28), blkE g14 (.cells #[r8, r9, r10] 26), rdE r8 (a.Decls.map declA), rdE r9 ((doA a).Nodes), rdE r10 ((doA a).Hold), blkE g1 (.cells #[vD, vN, vH] 26), rdE vD a.Decls, rdE vN a.Nodes, rdE vH a.Hold] H) ?_ ?_
  · refine wpF_region ?_
    refine wpL_q (U := NoB) rfl (q_fieldAddr rfl Try.underlying26 rfl Try.sizeOf22 a187_1) ?_
    refine wpL_q (U := NoB) rfl (q_loadBlk rfl rfl Try.isAgg22 (hS186.blk 9 rfl) rfl (fun h => h)) ?_
    refine wpL_q (U := NoB) rfl (q_move (v := I ((v : Int))) rfl a187_15) ?_
    refine wpL_q (U := NoB) rfl (q_indexRd (k := v) rfl Try.underlying22 el_Decl_43_ArrSays1 rfl rfl (hS186.rdl 10 rfl) (by omega) (by omega)) ?_
    obtain ⟨u189, huu189, hlu189⟩ := (Rd.list.1 (hS186.rdS 10 rfl)).elem v (by omega)
    obtain ⟨u189n1, rfl, hu1890, hu1891, hu1892⟩ := Rd.decl.1 huu189
    have hS190 : St H0 NoB NoB [rdE u189n1 ((nth a.Decls v).Args), rdE vt ((refTo a a.Nodes.length).To), rdE vn ((doA a).Nodes), blkE g48 (.cells #[vn, vt] 35), blkE g29 (.cells #[I (((sortsF a)).1), I (((sortsF a)).2)] 28), blkE g17 (.cells #[I ((doF a).1), I ((doF a).2)] 28), blkE g14 (.cells #[r8, r9, r10] 26), rdE r8 (a.Decls.map declA), rdE r9 ((doA a).Nodes), rdE r10 ((doA a).Hold), blkE g1 (.cells #[vD, vN, vH] 26), rdE vD a.Decls, rdE vN a.Nodes, rdE vH a.Hold] H186 := hS186.rd hu1891
    refine wpL_q (U := NoB) rfl (q_loadE rfl rfl (hlu189 Try.prog 43 _ el_Decl_43_ArrSays1 (fun _ h => False.elim h))) ?_
    refine wpL_o rfl ?_
    refine e_alloc rfl Try.zeroValue43 hS190 (fun g191 H192 hS193 hxx => ?_)
    replace hS193 : St H0 NoB NoB [blkE g191 (.cells #[SB (ByteArray.mk #[]), (Value.slice none 0 0), I (0)] 43), rdE u189n1 ((nth a.Decls v).Args), rdE vt ((refTo a a.Nodes.length).To), rdE vn ((doA a).Nodes), blkE g48 (.cells #[vn, vt] 35), blkE g29 (.cells #[I (((sortsF a)).1), I (((sortsF a)).2)] 28), blkE g17 (.cells #[I ((doF a).1), I ((doF a).2)] 28), blkE g14 (.cells #[r8, r9, r10] 26), rdE r8 (a.Decls.map declA), rdE r9 ((doA a).Nodes), rdE r10 ((doA a).Hold), blkE g1 (.cells #[vD, vN, vH] 26), rdE vD a.Decls, rdE vN a.Nodes, rdE vH a.Hold] H192 := hS193
    refine wpL_o rfl ?_
    refine e_storeBlkA (cs' := #[SB ((nth a.Decls v).Name), u189n1, I ((nth a.Decls v).Srt)]) rfl rfl rfl Try.sizeOf43 rfl rfl (List.forall_mem_cons.2 ⟨rfl, List.forall_mem_cons.2 ⟨(oneCell_rdL (hS193.rdl 1 rfl)), List.forall_mem_cons.2 ⟨rfl, List.forall_mem_nil _⟩⟩⟩) hS193 (fun H194 hS195 hxx => ?_)
    replace hS195 : St H0 NoB NoB [blkE g191 (.cells #[SB ((nth a.Decls v).Name), u189n1, I ((nth a.Decls v).Srt)] 43), rdE u189n1 ((nth a.Decls v).Args), rdE vt ((refTo a a.Nodes.length).To), rdE vn ((doA a).Nodes), blkE g48 (.cells #[vn, vt] 35), blkE g29 (.cells #[I (((sortsF a)).1), I (((sortsF a)).2)] 28), blkE g17 (.cells #[I ((doF a).1), I ((doF a).2)] 28), blkE g14 (.cells #[r8, r9, r10] 26), rdE r8 (a.Decls.map declA), rdE r9 ((doA a).Nodes), rdE r10 ((doA a).Hold), blkE g1 (.cells #[vD, vN, vH] 26), rdE vD a.Decls, rdE vN a.Nodes, rdE vH a.Hold] H194 := hS195
    exact ⟨u189n1, g191, hu1890, hu1892, a187_1, a187_3, a187_7, a187_15, rfl, hS195⟩
  rintro f196 H196 ⟨u189n1, g191, hu1890, hu1892, a196_1, a196_3, a196_7, a196_15, a196_16, hS196⟩
  clear a187_1 a187_15 a187_216 a187_3 a187_7
  refine wpF_seq ?_
  refine wpF_seq ?_
  refine wpF_cut (fun f H => f 1 = PT g1 0 ∧ f 3 = PT g14 0 ∧ f 7 = PT g48 0 ∧ f 15 = I ((v : Int)) ∧ f 16 = PT g191 0 ∧ f 226 = B (decide (((nth a.Decls v).Srt) = 5)) ∧ H196 = H) ?_ ?_
  · refine wpF_region ?_
    refine wpL_q (U := NoB) rfl (q_fieldAddr rfl Try.underlying43 rfl Try.sizeOf3 a196_16) ?_
    refine wpL_q (U := NoB) rfl (q_loadBlk rfl rfl Try.isAgg3 (hS196.blk 0 rfl) rfl (fun h => h)) ?_
    refine wpL_q (U := NoB) rfl (q_eql rfl rfl rfl) ?_
    exact ⟨a196_1, a196_3, a196_7, a196_15, a196_16, rfl, rfl⟩
  rintro f197 _ ⟨a197_1, a197_3, a197_7, a197_15, a197_16, a197_226, rfl⟩
  clear a196_1 a196_15 a196_16 a196_3 a196_7
  refine wpF_cut (fun f H => ∃ (vA : Value), f 1 = PT g1 0 ∧ f 3 = PT g14 0 ∧ f 7 = PT g48 0 ∧ f 15 = I ((v : Int)) ∧ f 16 = PT g191 0 ∧ St H0 NoB NoB [rdE vA ((declA (nth a.Decls v)).Args), blkE g191 (.cells #[SB ((declA (nth a.Decls v)).Name), vA, I ((declA (nth a.Decls v)).Srt)] 43), rdE vt ((refTo a a.Nodes.length).To), rdE vn ((doA a).Nodes), blkE g48 (.cells #[vn, vt] 35), blkE g29 (.cells #[I (((sortsF a)).1), I (((sortsF a)).2)] 28), blkE g17 (.cells #[I ((doF a).1), I ((doF a).2)] 28), blkE g14 (.cells #[r8, r9, r10] 26), rdE r8 (a.Decls.map declA), rdE r9 ((doA a).Nodes), rdE r10 ((doA a).Hold), blkE g1 (.cells #[vD, vN, vH] 26), rdE vD a.Decls, rdE vN a.Nodes, rdE vH a.Hold] H) ?_ ?_
  · refine wpF_condP a197_226 (fun h226 => ?t210) (fun h226 => ?e210)
    case e210 =>
      refine wpF_skip ?_
      exact ⟨u189n1, a197_1, a197_3, a197_7, a197_15, a197_16, (by have h__ := (St.drop (show St H0 NoB NoB [rdE u189n1 ((nth a.Decls v).Args), blkE g191 (.cells #[SB ((nth a.Decls v).Name), u189n1, I ((nth a.Decls v).Srt)] 43), rdE vt ((refTo a a.Nodes.length).To), rdE vn ((doA a).Nodes), blkE g48 (.cells #[vn, vt] 35), blkE g29 (.cells #[I (((sortsF a)).1), I (((sortsF a)).2)] 28), blkE g17 (.cells #[I ((doF a).1), I ((doF a).2)] 28), blkE g14 (.cells #[r8, r9, r10] 26), rdE r8 (a.Decls.map declA), rdE r9 ((doA a).Nodes), rdE r10 ((doA a).Hold), blkE g1 (.cells #[vD, vN, vH] 26), rdE vD a.Decls, rdE vN a.Nodes, rdE vH a.Hold] H196 from (hS196.front 1 rfl)) (sk (sk (sk (sk (sk (sk (sk (sk (sk (sk (sk (sk (sk (sk (sk (List.Sublist.slnil))))))))))))))))); rw [declA_no h226]; exact h__)⟩
    refine wpF_seq ?_
    refine wpF_cut (fun f H => f 1 = PT g1 0 ∧ f 3 = PT g14 0 ∧ f 7 = PT g48 0 ∧ f 15 = I ((v : Int)) ∧ f 16 = PT g191 0 ∧ St H0 NoB NoB [blkE g191 (.cells #[SB ((nth a.Decls v).Name), u189n1, I (4)] 43), rdE u189n1 ((nth a.Decls v).Args), rdE vt ((refTo a a.Nodes.length).To), rdE vn ((doA a).Nodes), blkE g48 (.cells #[vn, vt] 35), blkE g29 (.cells #[I (((sortsF a)).1), I (((sortsF a)).2)] 28), blkE g17 (.cells #[I ((doF a).1), I ((doF a).2)] 28), blkE g14 (.cells #[r8, r9, r10] 26), rdE r8 (a.Decls.map declA), rdE r9 ((doA a).Nodes), rdE r10 ((doA a).Hold), blkE g1 (.cells #[vD, vN, vH] 26), rdE vD a.Decls, rdE vN a.Nodes, rdE vH a.Hold] H) ?_ ?_
    · refine wpF_region ?_
      refine wpL_q (U := NoB) rfl (q_fieldAddr rfl Try.underlying43 rfl Try.sizeOf3 a197_16) ?_
      refine wpL_o rfl ?_
      refine e_storeBlk (v := I (4)) rfl rfl rfl rfl Try.sizeOf3 (by show _ < 3; decide) hS196 (fun H200 hS201 hxx => ?_)
      replace hS201 : St H0 NoB NoB [blkE g191 (.cells #[SB ((nth a.Decls v).Name), u189n1, I (4)] 43), rdE u189n1 ((nth a.Decls v).Args), rdE vt ((refTo a a.Nodes.length).To), rdE vn ((doA a).Nodes), blkE g48 (.cells #[vn, vt] 35), blkE g29 (.cells #[I (((sortsF a)).1), I (((sortsF a)).2)] 28), blkE g17 (.cells #[I ((doF a).1), I ((doF a).2)] 28), blkE g14 (.cells #[r8, r9, r10] 26), rdE r8 (a.Decls.map declA), rdE r9 ((doA a).Nodes), rdE r10 ((doA a).Hold), blkE g1 (.cells #[vD, vN, vH] 26), rdE vD a.Decls, rdE vN a.Nodes, rdE vH a.Hold] H200 := hS201
      exact ⟨a197_1, a197_3, a197_7, a197_15, a197_16, hS201⟩
    rintro f202 H202 ⟨a202_1, a202_3, a202_7, a202_15, a202_16, hS202⟩
    clear a197_1 a197_15 a197_16 a197_226 a197_3 a197_7
    refine wpF_cut (fun f H => ∃ (v203 : Value), f 1 = PT g1 0 ∧ f 3 = PT g14 0 ∧ f 7 = PT g48 0 ∧ f 15 = I ((v : Int)) ∧ f 16 = PT g191 0 ∧ St H0 NoB NoB [blkE g191 (.cells #[SB ((nth a.Decls v).Name), v203, I (4)] 43), rowE 3 v203 ([4] : List Int), rdE vt ((refTo a a.Nodes.length).To), rdE vn ((doA a).Nodes), blkE g48 (.cells #[vn, vt] 35), blkE g29 (.cells #[I (((sortsF a)).1), I (((sortsF a)).2)] 28), blkE g17 (.cells #[I ((doF a).1), I ((doF a).2)] 28), blkE g14 (.cells #[r8, r9, r10] 26), rdE r8 (a.Decls.map declA), rdE r9 ((doA a).Nodes), rdE r10 ((doA a).Hold), blkE g1 (.cells #[vD, vN, vH] 26), rdE vD a.Decls, rdE vN a.Nodes, rdE vH a.Hold] H) ?_ ?_
    · refine wpF_region ?_
      refine wpL_o rfl ?_
      refine e_buildSlice (vs := [I (4)]) (xs := ([4] : List Int)) rfl Try.underlying24 Try.zeroValue3 rfl Try.sizeOf3 (par1 (v0 := I (4)) rfl) rfl hS202 (RdVs.cons (Rd.int.2 ⟨rfl, by first | assumption | (constructor <;> omega)⟩) (RdVs.nil)) (by decide) (by decide) (fun v203 H204 hS205 hxx hvv203 => ?_)
      replace hS205 : St H0 NoB NoB [rowE 3 v203 ([4] : List Int), blkE g191 (.cells #[SB ((nth a.Decls v).Name), u189n1, I (4)] 43), rdE u189n1 ((nth a.Decls v).Args), rdE vt ((refTo a a.Nodes.length).To), rdE vn ((doA a).Nodes), blkE g48 (.cells #[vn, vt] 35), blkE g29 (.cells #[I (((sortsF a)).1), I (((sortsF a)).2)] 28), blkE g17 (.cells #[I ((doF a).1), I ((doF a).2)] 28), blkE g14 (.cells #[r8, r9, r10] 26), rdE r8 (a.Decls.map declA), rdE r9 ((doA a).Nodes), rdE r10 ((doA a).Hold), blkE g1 (.cells #[vD, vN, vH] 26), rdE vD a.Decls, rdE vN a.Nodes, rdE vH a.Hold] H204 := hS205
      refine wpL_q (U := NoB) rfl (q_fieldAddr rfl Try.underlying43 rfl Try.sizeOf24 a202_16) ?_
      refine wpL_o rfl ?_
      refine e_storeBlk (v := v203) rfl rfl rfl (oneCell_rdL (hS205.rowl 0 rfl)) Try.sizeOf24 (by show _ < 3; decide) (hS205.front 1 rfl) (fun H206 hS207 hxx => ?_)
      replace hS207 : St H0 NoB NoB [blkE g191 (.cells #[SB ((nth a.Decls v).Name), v203, I (4)] 43), rowE 3 v203 ([4] : List Int), rdE u189n1 ((nth a.Decls v).Args), rdE vt ((refTo a a.Nodes.length).To), rdE vn ((doA a).Nodes), blkE g48 (.cells #[vn, vt] 35), blkE g29 (.cells #[I (((sortsF a)).1), I (((sortsF a)).2)] 28), blkE g17 (.cells #[I ((doF a).1), I ((doF a).2)] 28), blkE g14 (.cells #[r8, r9, r10] 26), rdE r8 (a.Decls.map declA), rdE r9 ((doA a).Nodes), rdE r10 ((doA a).Hold), blkE g1 (.cells #[vD, vN, vH] 26), rdE vD a.Decls, rdE vN a.Nodes, rdE vH a.Hold] H206 := hS207
      exact ⟨v203, a202_1, a202_3, a202_7, a202_15, a202_16, (hS207.drop (sk (sk (sn (sk (sk (sk (sk (sk (sk (sk (sk (sk (sk (sk (sk (sk (List.Sublist.slnil))))))))))))))))))⟩
    rintro f208 H208 ⟨v203, a208_1, a208_3, a208_7, a208_15, a208_16, hS208⟩
    clear a202_1 a202_15 a202_16 a202_3 a202_7
    have hS209 : St H0 NoB NoB [rdE v203 ([4] : List Int), blkE g191 (.cells #[SB ((nth a.Decls v).Name), v203, I (4)] 43), rdE vt ((refTo a a.Nodes.length).To), rdE vn ((doA a).Nodes), blkE g48 (.cells #[vn, vt] 35), blkE g29 (.cells #[I (((sortsF a)).1), I (((sortsF a)).2)] 28), blkE g17 (.cells #[I ((doF a).1), I ((doF a).2)] 28), blkE g14 (.cells #[r8, r9, r10] 26), rdE r8 (a.Decls.map declA), rdE r9 ((doA a).Nodes), rdE r10 ((doA a).Hold), blkE g1 (.cells #[vD, vN, vH] 26), rdE vD a.Decls, rdE vN a.Nodes, rdE vH a.Hold] H208 := St.fin (hS208.front 1 rfl)
    exact ⟨v203, a208_1, a208_3, a208_7, a208_15, a208_16, (by have h__ := hS209; rw [declA_yes h226]; exact h__)⟩
  rintro f198 H198 ⟨vA, a198_1, a198_3, a198_7, a198_15, a198_16, hS198⟩
  clear a197_1 a197_15 a197_16 a197_226 a197_3 a197_7
  refine wpF_seq ?_
  refine wpF_cut (fun f H => ((nth (a.Decls.map declA) v).Name.size ≤ maxLen) ∧ f 1 = PT g1 0 ∧ f 3 = PT g14 0 ∧ f 7 = PT g48 0 ∧ f 15 = I ((v : Int)) ∧ f 261 = B (decide (((¬ sEq ((nth (a.Decls.map declA) v).Name) ((declA (nth a.Decls v)).Name)) ∨ (((nth (a.Decls.map declA) v).Srt) ≠ ((declA (nth a.Decls v)).Srt))) ∨ (¬ (((nth (a.Decls.map declA) v).Args) = ((declA (nth a.Decls v)).Args))))) ∧ St H0 NoB NoB [rdE vA ((declA (nth a.Decls v)).Args), blkE g191 (.cells #[SB ((declA (nth a.Decls v)).Name), vA, I ((declA (nth a.Decls v)).Srt)] 43), rdE vt ((refTo a a.Nodes.length).To), rdE vn ((doA a).Nodes), blkE g48 (.cells #[vn, vt] 35), blkE g29 (.cells #[I (((sortsF a)).1), I (((sortsF a)).2)] 28), blkE g17 (.cells #[I ((doF a).1), I ((doF a).2)] 28), blkE g14 (.cells #[r8, r9, r10] 26), rdE r8 (a.Decls.map declA), rdE r9 ((doA a).Nodes), rdE r10 ((doA a).Hold), blkE g1 (.cells #[vD, vN, vH] 26), rdE vD a.Decls, rdE vN a.Nodes, rdE vH a.Hold] H) ?_ ?_
  · refine wpF_drawn [] [] (fun _ _ => False) (by kernel_rfl) (by kernel_rfl) ?_
    refine wpR_q 0 (by kernel_rfl) rfl (quietAt rfl rfl (q_fieldAddr rfl Try.underlying26 rfl Try.sizeOf22 a198_3)) ?_
    refine wpR_q 1 (by kernel_rfl) rfl (quietAt rfl rfl (q_loadBlk rfl rfl Try.isAgg22 (hS198.blk 7 rfl) rfl (labU_not [] rfl (List.forall_mem_nil _)))) ?_
    refine wpR_q 2 (by kernel_rfl) rfl (quietAt rfl rfl (q_move (v := I ((v : Int))) rfl a198_15)) ?_
    refine wpR_q 3 (by kernel_rfl) rfl (quietAt rfl rfl (q_indexRd (k := v) rfl Try.underlying22 el_Decl_43_ArrSays1 rfl rfl (hS198.rdl 8 rfl) (by omega) (by omega))) ?_
    refine wpR_q 4 (by kernel_rfl) rfl (quietAt rfl rfl (q_fieldE (k := v) rfl Try.underlying43 rfl Try.sizeOf9 rfl rfl (hS198.rdl 8 rfl) (by omega))) ?_
    obtain ⟨_, hcu211o5, hFu211o5⟩ := (Rd.list.1 (hS198.rdS 8 rfl)).cellF v (by omega)
    obtain ⟨u211o5n1, rfl, hu211o50, hu211o51, hu211o52⟩ := hcu211o5
    refine wpR_q 5 (by kernel_rfl) rfl (quietAt rfl rfl (q_loadF rfl rfl (hFu211o5 0 _ Try.prog 9 _ rfl Try.isAgg9 (labU_sub [] rfl (List.forall_mem_nil _))))) ?_
    refine wpR_q 6 (by kernel_rfl) rfl (quietAt rfl rfl (q_fieldAddr rfl Try.underlying43 rfl Try.sizeOf9 a198_16)) ?_
    refine wpR_q 7 (by kernel_rfl) rfl (quietAt rfl rfl (q_loadBlk rfl rfl Try.isAgg9 (hS198.blk 1 rfl) rfl (labU_not [] rfl (List.forall_mem_nil _)))) ?_
    refine wpR_q 8 (by kernel_rfl) rfl (quietAt rfl rfl (q_neqS rfl rfl rfl)) ?_
    refine wpR_q 9 (by kernel_rfl) rfl (quietAt rfl rfl (q_move (v := B (decide (¬ sEq ((nth (a.Decls.map declA) v).Name) ((declA (nth a.Decls v)).Name)))) rfl rfl)) ?_
    by_cases hg212 : ¬ sEq ((nth (a.Decls.map declA) v).Name) ((declA (nth a.Decls v)).Name)
    · have hb213 := Eq.trans rfl (congrArg B (decide_eq_true hg212))
      refine wpR_q 10 (by kernel_rfl) rfl (quietAt_s rfl rfl rfl rfl hb213 rfl) ?_
      refine wpR_q 11 (by kernel_rfl) rfl (quietAt_s rfl rfl rfl rfl hb213 rfl) ?_
      refine wpR_q 12 (by kernel_rfl) rfl (quietAt_s rfl rfl rfl rfl hb213 rfl) ?_
      refine wpR_q 13 (by kernel_rfl) rfl (quietAt_s rfl rfl rfl rfl hb213 rfl) ?_
      refine wpR_q 14 (by kernel_rfl) rfl (quietAt_s rfl rfl rfl rfl hb213 rfl) ?_
      refine wpR_q 15 (by kernel_rfl) rfl (quietAt_s rfl rfl rfl rfl hb213 rfl) ?_
      refine wpR_q 16 (by kernel_rfl) rfl (quietAt_s rfl rfl rfl rfl hb213 rfl) ?_
      refine wpR_q 17 (by kernel_rfl) rfl (quietAt_s rfl rfl rfl rfl hb213 rfl) ?_
      refine wpR_q 18 (by kernel_rfl) rfl (quietAt_s rfl rfl rfl rfl hb213 rfl) ?_
      refine wpR_q 19 (by kernel_rfl) rfl (quietAt rfl rfl (q_pickT (v := B (true)) rfl hb213 rfl)) ?_
      refine wpR_q 20 (by kernel_rfl) rfl (quietAt rfl rfl (q_move (v := B (true)) rfl rfl)) ?_
      refine wpR_q 21 (by kernel_rfl) rfl (quietAt_s rfl rfl rfl rfl rfl rfl) ?_
      refine wpR_q 22 (by kernel_rfl) rfl (quietAt_s rfl rfl rfl rfl rfl rfl) ?_
      refine wpR_q 23 (by kernel_rfl) rfl (quietAt_s rfl rfl rfl rfl rfl rfl) ?_
      refine wpR_q 24 (by kernel_rfl) rfl (quietAt_s rfl rfl rfl rfl rfl rfl) ?_
      refine wpR_q 25 (by kernel_rfl) rfl (quietAt_s rfl rfl rfl rfl rfl rfl) ?_
      refine wpR_q 26 (by kernel_rfl) rfl (quietAt_s rfl rfl rfl rfl rfl rfl) ?_
      refine wpR_q 27 (by kernel_rfl) rfl (quietAt_s rfl rfl rfl rfl rfl rfl) ?_
      refine wpR_q 28 (by kernel_rfl) rfl (quietAt_s rfl rfl rfl rfl rfl rfl) ?_
      refine wpR_q 29 (by kernel_rfl) rfl (quietAt_s rfl rfl rfl rfl rfl rfl) ?_
      refine wpR_q 30 (by kernel_rfl) rfl (quietAt_s rfl rfl rfl rfl rfl rfl) ?_
      refine wpR_q 31 (by kernel_rfl) rfl (quietAt rfl rfl (q_pickT (v := B (true)) rfl rfl rfl)) ?_
      refine wpR_end (by kernel_rfl) ?_
      exact ⟨hu211o50, a198_1, a198_3, a198_7, a198_15, (Eq.trans rfl (congrArg B ((decide_eq_true (Or.inl (Or.inl hg212))).symm))), hS198⟩
    · have hb214 := Eq.trans rfl (congrArg B (decide_eq_false hg212))
      refine wpR_q 10 (by kernel_rfl) rfl (quietAt_g rfl rfl rfl rfl hb214 (q_fieldAddr rfl Try.underlying26 rfl Try.sizeOf22 a198_3)) ?_
      refine wpR_q 11 (by kernel_rfl) rfl (quietAt_g rfl rfl rfl rfl hb214 (q_loadBlk rfl rfl Try.isAgg22 (hS198.blk 7 rfl) rfl (labU_not [] rfl (List.forall_mem_nil _)))) ?_
      refine wpR_q 12 (by kernel_rfl) rfl (quietAt_g rfl rfl rfl rfl hb214 (q_move (v := I ((v : Int))) rfl a198_15)) ?_
      refine wpR_q 13 (by kernel_rfl) rfl (quietAt_g rfl rfl rfl rfl hb214 (q_indexRd (k := v) rfl Try.underlying22 el_Decl_43_ArrSays1 rfl rfl (hS198.rdl 8 rfl) (by omega) (by omega))) ?_
      refine wpR_q 14 (by kernel_rfl) rfl (quietAt_g rfl rfl rfl rfl hb214 (q_fieldE (k := v) rfl Try.underlying43 rfl Try.sizeOf3 rfl rfl (hS198.rdl 8 rfl) (by omega))) ?_
      obtain ⟨_, hcu211o15, hFu211o15⟩ := (Rd.list.1 (hS198.rdS 8 rfl)).cellF v (by omega)
      obtain ⟨u211o15n1, rfl, hu211o150, hu211o151, hu211o152⟩ := hcu211o15
      refine wpR_q 15 (by kernel_rfl) rfl (quietAt_g rfl rfl rfl rfl hb214 (q_loadF rfl rfl (hFu211o15 2 _ Try.prog 3 _ rfl Try.isAgg3 (labU_sub [] rfl (List.forall_mem_nil _))))) ?_
      refine wpR_q 16 (by kernel_rfl) rfl (quietAt_g rfl rfl rfl rfl hb214 (q_fieldAddr rfl Try.underlying43 rfl Try.sizeOf3 a198_16)) ?_
      refine wpR_q 17 (by kernel_rfl) rfl (quietAt_g rfl rfl rfl rfl hb214 (q_loadBlk rfl rfl Try.isAgg3 (hS198.blk 1 rfl) rfl (labU_not [] rfl (List.forall_mem_nil _)))) ?_
      refine wpR_q 18 (by kernel_rfl) rfl (quietAt_g rfl rfl rfl rfl hb214 (q_neq rfl rfl rfl)) ?_
      refine wpR_q 19 (by kernel_rfl) rfl (quietAt rfl rfl (q_pickF (v := B (decide (((nth (a.Decls.map declA) v).Srt) ≠ ((declA (nth a.Decls v)).Srt)))) rfl hb214 rfl)) ?_
      refine wpR_q 20 (by kernel_rfl) rfl (quietAt rfl rfl (q_move (v := B (decide (((nth (a.Decls.map declA) v).Srt) ≠ ((declA (nth a.Decls v)).Srt)))) rfl rfl)) ?_
      by_cases hg215 : ((nth (a.Decls.map declA) v).Srt) ≠ ((declA (nth a.Decls v)).Srt)
      · have hb216 := Eq.trans rfl (congrArg B (decide_eq_true hg215))
        refine wpR_q 21 (by kernel_rfl) rfl (quietAt_s rfl rfl rfl rfl hb216 rfl) ?_
        refine wpR_q 22 (by kernel_rfl) rfl (quietAt_s rfl rfl rfl rfl hb216 rfl) ?_
        refine wpR_q 23 (by kernel_rfl) rfl (quietAt_s rfl rfl rfl rfl hb216 rfl) ?_
        refine wpR_q 24 (by kernel_rfl) rfl (quietAt_s rfl rfl rfl rfl hb216 rfl) ?_
        refine wpR_q 25 (by kernel_rfl) rfl (quietAt_s rfl rfl rfl rfl hb216 rfl) ?_
        refine wpR_q 26 (by kernel_rfl) rfl (quietAt_s rfl rfl rfl rfl hb216 rfl) ?_
        refine wpR_q 27 (by kernel_rfl) rfl (quietAt_s rfl rfl rfl rfl hb216 rfl) ?_
        refine wpR_q 28 (by kernel_rfl) rfl (quietAt_s rfl rfl rfl rfl hb216 rfl) ?_
        refine wpR_q 29 (by kernel_rfl) rfl (quietAt_s rfl rfl rfl rfl hb216 rfl) ?_
        refine wpR_q 30 (by kernel_rfl) rfl (quietAt_s rfl rfl rfl rfl hb216 rfl) ?_
        refine wpR_q 31 (by kernel_rfl) rfl (quietAt rfl rfl (q_pickT (v := B (true)) rfl hb216 rfl)) ?_
        refine wpR_end (by kernel_rfl) ?_
        exact ⟨hu211o50, a198_1, a198_3, a198_7, a198_15, (Eq.trans rfl (congrArg B ((decide_eq_true (Or.inl (Or.inr hg215))).symm))), hS198⟩
      · have hb217 := Eq.trans rfl (congrArg B (decide_eq_false hg215))
        refine wpR_q 21 (by kernel_rfl) rfl (quietAt_g rfl rfl rfl rfl hb217 (q_fieldAddr rfl Try.underlying26 rfl Try.sizeOf22 a198_3)) ?_
        refine wpR_q 22 (by kernel_rfl) rfl (quietAt_g rfl rfl rfl rfl hb217 (q_loadBlk rfl rfl Try.isAgg22 (hS198.blk 7 rfl) rfl (labU_not [] rfl (List.forall_mem_nil _)))) ?_
        refine wpR_q 23 (by kernel_rfl) rfl (quietAt_g rfl rfl rfl rfl hb217 (q_move (v := I ((v : Int))) rfl a198_15)) ?_
        refine wpR_q 24 (by kernel_rfl) rfl (quietAt_g rfl rfl rfl rfl hb217 (q_indexRd (k := v) rfl Try.underlying22 el_Decl_43_ArrSays1 rfl rfl (hS198.rdl 8 rfl) (by omega) (by omega))) ?_
        refine wpR_q 25 (by kernel_rfl) rfl (quietAt_g rfl rfl rfl rfl hb217 (q_fieldE (k := v) rfl Try.underlying43 rfl Try.sizeOf24 rfl rfl (hS198.rdl 8 rfl) (by omega))) ?_
        obtain ⟨_, hcu211o26, hFu211o26⟩ := (Rd.list.1 (hS198.rdS 8 rfl)).cellF v (by omega)
        obtain ⟨u211o26n1, rfl, hu211o260, hu211o261, hu211o262⟩ := hcu211o26
        have hS211o26 : St H0 NoB NoB [rdE u211o26n1 ((nth (a.Decls.map declA) v).Args), rdE vA ((declA (nth a.Decls v)).Args), blkE g191 (.cells #[SB ((declA (nth a.Decls v)).Name), vA, I ((declA (nth a.Decls v)).Srt)] 43), rdE vt ((refTo a a.Nodes.length).To), rdE vn ((doA a).Nodes), blkE g48 (.cells #[vn, vt] 35), blkE g29 (.cells #[I (((sortsF a)).1), I (((sortsF a)).2)] 28), blkE g17 (.cells #[I ((doF a).1), I ((doF a).2)] 28), blkE g14 (.cells #[r8, r9, r10] 26), rdE r8 (a.Decls.map declA), rdE r9 ((doA a).Nodes), rdE r10 ((doA a).Hold), blkE g1 (.cells #[vD, vN, vH] 26), rdE vD a.Decls, rdE vN a.Nodes, rdE vH a.Hold] H198 := hS198.rd (Rd.list.2 hu211o261)
        refine wpR_q 26 (by kernel_rfl) rfl (quietAt_g rfl rfl rfl rfl hb217 (q_loadF rfl rfl (hFu211o26 1 _ Try.prog 24 _ rfl Try.isAgg24 (labU_sub [] rfl (List.forall_mem_nil _))))) ?_
        refine wpR_q 27 (by kernel_rfl) rfl (quietAt_g rfl rfl rfl rfl hb217 (q_fieldAddr rfl Try.underlying43 rfl Try.sizeOf24 a198_16)) ?_
        refine wpR_q 28 (by kernel_rfl) rfl (quietAt_g rfl rfl rfl rfl hb217 (q_loadBlk rfl rfl Try.isAgg24 (hS211o26.blk 2 rfl) rfl (labU_not [] rfl (List.forall_mem_nil _)))) ?_
        refine wpR_n [29] (by kernel_rfl) ?_
        refine List.forall_mem_cons.2 ⟨?_, List.forall_mem_nil _⟩
        refine exE_g rfl rfl rfl rfl hb217 ?_
        refine e_call rfl Try.call12 (arr2 (v0 := u211o26n1) (v1 := vA) rfl rfl) (Ints_R u211o26n1 vA _ _ (hS211o26.rdN 0 rfl) (hS211o26.rdN 1 rfl)) ?_
        rintro _ H211o29 ⟨hxx, rfl⟩
        have hS211o29 : St H0 NoB NoB [rdE u211o26n1 ((nth (a.Decls.map declA) v).Args), rdE vA ((declA (nth a.Decls v)).Args), blkE g191 (.cells #[SB ((declA (nth a.Decls v)).Name), vA, I ((declA (nth a.Decls v)).Srt)] 43), rdE vt ((refTo a a.Nodes.length).To), rdE vn ((doA a).Nodes), blkE g48 (.cells #[vn, vt] 35), blkE g29 (.cells #[I (((sortsF a)).1), I (((sortsF a)).2)] 28), blkE g17 (.cells #[I ((doF a).1), I ((doF a).2)] 28), blkE g14 (.cells #[r8, r9, r10] 26), rdE r8 (a.Decls.map declA), rdE r9 ((doA a).Nodes), rdE r10 ((doA a).Hold), blkE g1 (.cells #[vD, vN, vH] 26), rdE vD a.Decls, rdE vN a.Nodes, rdE vH a.Hold] H211o29 := hS211o26.ext hxx
        refine ⟨Ext.mono hxx (fun _ h => h.elim), ?_⟩
        refine wpR_q 30 (by kernel_rfl) rfl (quietAt_g rfl rfl rfl rfl hb217 (q_notP rfl rfl)) ?_
        refine wpR_q 31 (by kernel_rfl) rfl (quietAt rfl rfl (q_pickF (v := B (decide (¬ (((nth (a.Decls.map declA) v).Args) = ((declA (nth a.Decls v)).Args))))) rfl hb217 rfl)) ?_
        refine wpR_end (by kernel_rfl) ?_
        exact ⟨hu211o50, a198_1, a198_3, a198_7, a198_15, (Eq.trans rfl (congrArg B (decide_congr_of (((not_congr Iff.rfl)).trans (((or_iff_right (not_or.2 ⟨hg212, hg215⟩)).trans (not_congr Iff.rfl))).symm)))), (hS211o29.drop (sn (sk (sk (sk (sk (sk (sk (sk (sk (sk (sk (sk (sk (sk (sk (sk (List.Sublist.slnil))))))))))))))))))⟩
  rintro f218 H218 ⟨hu211o50, a218_1, a218_3, a218_7, a218_15, a218_261, hS218⟩
  clear a198_1 a198_15 a198_16 a198_3 a198_7
  refine wpF_condP a218_261 (fun h261 => ?t222) (fun h261 => ?e222)
  case t222 =>
    refine wpF_seq ?_
    refine wpF_cut (fun f H => f 2 = B (false) ∧ H218 = H) ?_ ?_
    · refine wpF_region ?_
      refine wpL_q (U := NoB) rfl (q_assign (v := B (false)) rfl rfl) ?_
      exact ⟨rfl, rfl⟩
    rintro f220 _ ⟨a220_2, rfl⟩
    clear a218_1 a218_15 a218_261 a218_3 a218_7
    refine wpF_ret ?_
    refine ⟨_, resT a220_2 resN, hS218.frame, ?_⟩
    show (B (false)) = B true
    exact absurd h261 (by rw [nth_map (by omega)]; simp [sEq])
  refine wpF_skip ?_
  refine wpF_cut (fun f H => f 1 = PT g1 0 ∧ f 3 = PT g14 0 ∧ f 7 = PT g48 0 ∧ f 15 = I ((v : Int) + 1) ∧ H218 = H) ?_ ?_
  · refine wpF_region ?_
    refine wpL_q (U := NoB) rfl (q_move (v := I ((v : Int))) rfl a218_15) ?_
    refine wpL_q (U := NoB) rfl (q_add rfl rfl rfl (by constructor <;> omega)) ?_
    refine wpL_q (U := NoB) rfl (q_assign (v := I ((v : Int) + 1)) rfl rfl) ?_
    exact ⟨a218_1, a218_3, a218_7, rfl, rfl⟩
  rintro f221 _ ⟨a221_1, a221_3, a221_7, a221_15, rfl⟩
  clear a218_1 a218_15 a218_261 a218_3 a218_7
  refine ⟨_, ?_, v + 1, rfl, (by omega), a221_1, a221_3, a221_7, (Eq.trans a221_15 (congrArg I (by omega))), (hS218.drop (sn (sn (sk (sk (sk (sk (sk (sk (sk (sk (sk (sk (sk (sk (sk (List.Sublist.slnil)))))))))))))))))⟩
  omega

end Go.Um
