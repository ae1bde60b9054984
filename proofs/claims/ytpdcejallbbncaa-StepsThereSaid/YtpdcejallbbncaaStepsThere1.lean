import Derived.Test.YtpdcejallbbncaaProg
import Derived.Test.YtpdcejallbbncaaStepsBack1
import Derived.Test.YtpdcejallbbncaaUmSub
namespace Go.Um
open Go.Proofs
open GoT (sz ag rdc)
open KeyT (kv)

theorem el_Int_3_StepsThere1 : ElT Try.prog Int 3 := ⟨Try.isAgg3, Try.sizeOf3⟩
theorem em_Bool_4_StepsThere1 : ElemOk Try.prog Bool 4 := ⟨Try.t4, (.bool false), by kernel_rfl, by kernel_rfl, by kernel_rfl, by kernel_rfl, by kernel_rfl⟩

set_option maxHeartbeats 4000000 in
set_option maxRecDepth 100000 in
theorem StepsThere_L {H0 : Heap} (vf vg va vl : Value) (q : Quest) (plan : List Int) (h6qFacts : In64 q.Facts) (rvf : Rd NoB H0 vf q.First) (rvg : Rd NoB H0 vg q.Goal) (rva : Rd NoB H0 va q.Acts) (rl : Rd NoB H0 vl plan) : CallsH Try.prog 10 #[Value.agg #[I (q.Facts), vf, vg, va], vl] H0 (fun rv_ H' => Ext NoB H0 H' ∧ rv_ = B true) := by
  have hsl := (Rd.list.1 rl).small
  have hsa := (Rd.list.1 rva).small
  have hS0 : St H0 NoB NoB [rdE vf q.First, rdE vg q.Goal, rdE va q.Acts, rdE vl plan] H0 := St.arg (St.arg (St.arg (St.arg (St.start (fun _ h => h.elim)) (Bl0.nil) rl (fun _ h => h)) (Bl0.cons (Bl0.nil)) rva (fun _ h => h)) (Bl0.cons (Bl0.cons (Bl0.nil))) rvg (fun _ h => h)) (Bl0.cons (Bl0.cons (Bl0.cons (Bl0.nil)))) rvf (fun _ h => h)
  refine callsH_of_wpF (args := [Value.agg #[I (q.Facts), vf, vg, va], vl]) (rs := [.tmp 4]) Try.func10 rfl Try.ntmps10 Try.results10 (by kernel_rfl) (Nat.le_of_ble_eq_true rfl) ?_
  have a0_0 : argF [Value.agg #[I (q.Facts), vf, vg, va], vl] 0 = Value.agg #[I (q.Facts), vf, vg, va] := rfl
  have a0_1 : argF [Value.agg #[I (q.Facts), vf, vg, va], vl] 1 = vl := rfl
  generalize argF [Value.agg #[I (q.Facts), vf, vg, va], vl] = f0 at *
  refine wpF_seq ?_
  refine wpF_cut (fun f H => ∃ (g1 : Nat), f 1 = vl ∧ f 2 = PT g1 0 ∧ St H0 NoB NoB [blkE g1 (.cells #[I (q.Facts), vf, vg, va] 25), rdE vf q.First, rdE vg q.Goal, rdE va q.Acts, rdE vl plan] H) ?_ ?_
  · refine wpF_region ?_
    refine wpL_o rfl ?_
    refine e_box (v := Value.agg #[I (q.Facts), vf, vg, va]) rfl a0_0 hS0 (fun g1 H2 hS3 hxx => ?_)
    replace hS3 : St H0 NoB NoB [blkE g1 (.cells #[I (q.Facts), vf, vg, va] 25), rdE vf q.First, rdE vg q.Goal, rdE va q.Acts, rdE vl plan] H2 := hS3
    refine wpL_q (U := NoB) rfl (q_assign (v := B (false)) rfl rfl) ?_
    exact ⟨g1, a0_1, rfl, hS3⟩
  rintro f4 H4 ⟨g1, a4_1, a4_2, hS4⟩
  clear a0_0 a0_1
  refine wpF_seq ?_
  refine wpF_cut (fun f H => f 1 = vl ∧ f 2 = PT g1 0 ∧ f 5 = B (true) ∧ St H0 NoB NoB [blkE g1 (.cells #[I (q.Facts), vf, vg, va] 25), rdE vf q.First, rdE vg q.Goal, rdE va q.Acts, rdE vl plan] H) ?_ ?_
  · refine wpF_region ?_
    refine wpL_o rfl ?_
    refine e_call rfl Try.call36 arr0 (stepsFact) ?_
    rintro _ H5 ⟨hxx, rfl⟩
    have hS6 : St H0 NoB NoB [blkE g1 (.cells #[I (q.Facts), vf, vg, va] 25), rdE vf q.First, rdE vg q.Goal, rdE va q.Acts, rdE vl plan] H5 := hS4.ext hxx
    refine wpL_q (U := NoB) rfl (q_assign (v := B (true)) rfl rfl) ?_
    exact ⟨a4_1, a4_2, rfl, hS6⟩
  rintro f8 H8 ⟨a8_1, a8_2, a8_5, hS8⟩
  clear a4_1 a4_2
  refine wpF_seq ?_
  refine wpF_seq ?_
  refine wpF_cut (fun f H => f 1 = vl ∧ f 2 = PT g1 0 ∧ f 20 = B (false) ∧ H8 = H) ?_ ?_
  · refine wpF_region ?_
    refine wpL_q (U := NoB) rfl (q_move (v := B (true)) rfl a8_5) ?_
    refine wpL_q (U := NoB) rfl (q_not rfl rfl) ?_
    exact ⟨a8_1, a8_2, rfl, rfl⟩
  rintro f9 _ ⟨a9_1, a9_2, a9_20, rfl⟩
  clear a8_1 a8_2 a8_5
  refine wpF_condF a9_20 ?_
  refine wpF_skip ?_
  refine wpF_seq ?_
  refine wpF_cut (fun f H => ∃ (g14 : Nat), f 1 = vl ∧ f 2 = PT g1 0 ∧ f 7 = B (walkOk q plan) ∧ f 8 = PT g14 0 ∧ St H0 NoB NoB [blkE g14 (.cells #[I (((walkFault q plan)).1), I (((walkFault q plan)).2)] 27), blkE g1 (.cells #[I (q.Facts), vf, vg, va] 25), rdE vf q.First, rdE vg q.Goal, rdE va q.Acts, rdE vl plan] H) ?_ ?_
  · refine wpF_region ?_
    refine wpL_q (U := NoB) rfl (q_loadBlkA rfl a9_2 Try.isAgg25 Try.sizeOf25 rfl (hS8.blk 0 rfl) (fun h => h)) ?_
    refine wpL_q (U := NoB) rfl (q_move (v := vl) rfl a9_1) ?_
    refine wpL_o rfl ?_
    refine e_call rfl Try.call14 (arr2 (v0 := Value.agg #[I (q.Facts), vf, vg, va]) (v1 := vl) rfl rfl) (Walk_L vf vg va vl q plan (by first | assumption | (constructor <;> omega)) (hS8.rdS 1 rfl) (hS8.rdS 2 rfl) (hS8.rdS 3 rfl) (hS8.rdS 4 rfl) ) ?_
    rintro _ H11 ⟨hxx, r10, rfl, hrr10⟩
    have hS12 : St H0 NoB NoB [rdE r10 (walkNow q plan), blkE g1 (.cells #[I (q.Facts), vf, vg, va] 25), rdE vf q.First, rdE vg q.Goal, rdE va q.Acts, rdE vl plan] H11 := hS8.res hxx hrr10
    refine wpL_q (U := NoB) rfl (q_move (v := Value.tuple #[r10, B (walkOk q plan), Value.agg #[I (((walkFault q plan)).1), I (((walkFault q plan)).2)]]) rfl rfl) ?_
    refine wpL_q (U := NoB) rfl (q_extract (vs := #[r10, B (walkOk q plan), Value.agg #[I (((walkFault q plan)).1), I (((walkFault q plan)).2)]]) (v := r10) rfl rfl rfl) ?_
    refine wpL_q (U := NoB) rfl (q_extract (vs := #[r10, B (walkOk q plan), Value.agg #[I (((walkFault q plan)).1), I (((walkFault q plan)).2)]]) (v := B (walkOk q plan)) rfl rfl rfl) ?_
    refine wpL_q (U := NoB) rfl (q_extract (vs := #[r10, B (walkOk q plan), Value.agg #[I (((walkFault q plan)).1), I (((walkFault q plan)).2)]]) (v := Value.agg #[I (((walkFault q plan)).1), I (((walkFault q plan)).2)]) rfl rfl rfl) ?_
    refine wpL_o rfl ?_
    refine e_alloc rfl Try.zeroValue27 hS12 (fun g14 H15 hS16 hxx => ?_)
    replace hS16 : St H0 NoB NoB [blkE g14 (.cells #[I (0), I (0)] 27), rdE r10 (walkNow q plan), blkE g1 (.cells #[I (q.Facts), vf, vg, va] 25), rdE vf q.First, rdE vg q.Goal, rdE va q.Acts, rdE vl plan] H15 := hS16
    refine wpL_q (U := NoB) rfl (q_assign (v := r10) rfl rfl) ?_
    refine wpL_q (U := NoB) rfl (q_assign (v := B (walkOk q plan)) rfl rfl) ?_
    refine wpL_o rfl ?_
    refine e_storeBlkA (cs' := #[I (((walkFault q plan)).1), I (((walkFault q plan)).2)]) rfl rfl rfl Try.sizeOf27 rfl rfl (List.forall_mem_cons.2 ⟨rfl, List.forall_mem_cons.2 ⟨rfl, List.forall_mem_nil _⟩⟩) hS16 (fun H17 hS18 hxx => ?_)
    replace hS18 : St H0 NoB NoB [blkE g14 (.cells #[I (((walkFault q plan)).1), I (((walkFault q plan)).2)] 27), rdE r10 (walkNow q plan), blkE g1 (.cells #[I (q.Facts), vf, vg, va] 25), rdE vf q.First, rdE vg q.Goal, rdE va q.Acts, rdE vl plan] H17 := hS18
    exact ⟨g14, a9_1, a9_2, rfl, rfl, (hS18.drop (sk (sn (sk (sk (sk (sk (sk (List.Sublist.slnil)))))))))⟩
  rintro f19 H19 ⟨g14, a19_1, a19_2, a19_7, a19_8, hS19⟩
  clear a9_1 a9_2 a9_20
  refine wpF_seq ?_
  refine wpF_seq ?_
  refine wpF_cut (fun f H => f 1 = vl ∧ f 2 = PT g1 0 ∧ f 7 = B (walkOk q plan) ∧ f 8 = PT g14 0 ∧ f 30 = B (decide ((((walkFault q plan)).1) ≠ 0)) ∧ H19 = H) ?_ ?_
  · refine wpF_region ?_
    refine wpL_q (U := NoB) rfl (q_fieldAddr rfl Try.underlying27 rfl Try.sizeOf3 a19_8) ?_
    refine wpL_q (U := NoB) rfl (q_loadBlk rfl rfl Try.isAgg3 (hS19.blk 0 rfl) rfl (fun h => h)) ?_
    refine wpL_q (U := NoB) rfl (q_neq rfl rfl rfl) ?_
    exact ⟨a19_1, a19_2, a19_7, a19_8, rfl, rfl⟩
  rintro f20 _ ⟨a20_1, a20_2, a20_7, a20_8, a20_30, rfl⟩
  clear a19_1 a19_2 a19_7 a19_8
  refine wpF_condP a20_30 (fun h30 => ?t105) (fun h30 => ?e105)
  case t105 =>
    refine wpF_seq ?_
    refine wpF_cut (fun f H => f 4 = B (!(walkOk q plan)) ∧ H19 = H) ?_ ?_
    · refine wpF_region ?_
      refine wpL_q (U := NoB) rfl (q_move (v := B (walkOk q plan)) rfl a20_7) ?_
      refine wpL_q (U := NoB) rfl (q_not rfl rfl) ?_
      refine wpL_q (U := NoB) rfl (q_assign (v := B (!(walkOk q plan))) rfl rfl) ?_
      exact ⟨rfl, rfl⟩
    rintro f22 _ ⟨a22_4, rfl⟩
    clear a20_1 a20_2 a20_30 a20_7 a20_8
    refine wpF_ret ?_
    refine ⟨_, resT a22_4 resN, hS19.frame, ?_⟩
    show (B (!(walkOk q plan))) = B true
    rw [(walk_bad h30).2]
    rfl
  have hz : (walkFault q plan).1 = 0 := Decidable.of_not_not h30
  obtain ⟨hst, hwk, _⟩ := walked hz
  have h20 := (walkFault_zero hz).2.2.1
  have hfx := (walkFault_zero hz).1.facts
  have hmy := (walkFault_zero hz).1.many
  refine wpF_skip ?_
  refine wpF_seq ?_
  refine wpF_cut (fun f H => ∃ (r23 : Value), ∃ (g27 : Nat), f 1 = vl ∧ f 2 = PT g1 0 ∧ f 7 = B (walkOk q plan) ∧ f 8 = PT g14 0 ∧ f 9 = PT g27 0 ∧ St H0 NoB NoB [blkE g14 (.cells #[I ((doF q (plan.length : Int)).1), I ((doF q (plan.length : Int)).2)] 27), blkE g27 (.cells #[I ((doV q (plan.length : Int))), r23] 58), rdE r23 (doC q (plan.length : Int)), blkE g1 (.cells #[I (q.Facts), vf, vg, va] 25), rdE vf q.First, rdE vg q.Goal, rdE va q.Acts, rdE vl plan] H) ?_ ?_
  · refine wpF_region ?_
    refine wpL_q (U := NoB) rfl (q_loadBlkA rfl a20_2 Try.isAgg25 Try.sizeOf25 rfl (hS19.blk 1 rfl) (fun h => h)) ?_
    refine wpL_q (U := NoB) rfl (q_move (v := vl) rfl a20_1) ?_
    refine wpL_q (U := NoB) rfl (q_lenRd rfl Try.underlying22 rfl (hS19.rdl 5 rfl)) ?_
    refine wpL_o rfl ?_
    refine e_call rfl Try.call32 (arr2 (v0 := Value.agg #[I (q.Facts), vf, vg, va]) (v1 := I ((plan.length : Int))) rfl rfl) (Do_E vf vg va q (plan.length : Int) (by first | assumption | (constructor <;> omega)) (hS19.rdS 2 rfl) (hS19.rdS 3 rfl) (hS19.rdS 4 rfl) (by constructor <;> omega)) ?_
    rintro _ H24 ⟨hxx, r23, rfl, hrr23⟩
    have hS25 : St H0 NoB NoB [rdE r23 (doC q (plan.length : Int)), blkE g14 (.cells #[I (((walkFault q plan)).1), I (((walkFault q plan)).2)] 27), blkE g1 (.cells #[I (q.Facts), vf, vg, va] 25), rdE vf q.First, rdE vg q.Goal, rdE va q.Acts, rdE vl plan] H24 := (hS19.res hxx hrr23)
    refine wpL_q (U := NoB) rfl (q_move (v := Value.tuple #[Value.agg #[I ((doV q (plan.length : Int))), r23], Value.agg #[I ((doF q (plan.length : Int)).1), I ((doF q (plan.length : Int)).2)]]) rfl rfl) ?_
    refine wpL_q (U := NoB) rfl (q_extract (vs := #[Value.agg #[I ((doV q (plan.length : Int))), r23], Value.agg #[I ((doF q (plan.length : Int)).1), I ((doF q (plan.length : Int)).2)]]) (v := Value.agg #[I ((doV q (plan.length : Int))), r23]) rfl rfl rfl) ?_
    refine wpL_q (U := NoB) rfl (q_extract (vs := #[Value.agg #[I ((doV q (plan.length : Int))), r23], Value.agg #[I ((doF q (plan.length : Int)).1), I ((doF q (plan.length : Int)).2)]]) (v := Value.agg #[I ((doF q (plan.length : Int)).1), I ((doF q (plan.length : Int)).2)]) rfl rfl rfl) ?_
    refine wpL_o rfl ?_
    refine e_alloc rfl Try.zeroValue58 hS25 (fun g27 H28 hS29 hxx => ?_)
    replace hS29 : St H0 NoB NoB [blkE g27 (.cells #[I (0), (Value.slice none 0 0)] 58), rdE r23 (doC q (plan.length : Int)), blkE g14 (.cells #[I (((walkFault q plan)).1), I (((walkFault q plan)).2)] 27), blkE g1 (.cells #[I (q.Facts), vf, vg, va] 25), rdE vf q.First, rdE vg q.Goal, rdE va q.Acts, rdE vl plan] H28 := hS29
    refine wpL_o rfl ?_
    refine e_storeBlkA (cs' := #[I ((doV q (plan.length : Int))), r23]) rfl rfl rfl Try.sizeOf58 rfl rfl (List.forall_mem_cons.2 ⟨rfl, List.forall_mem_cons.2 ⟨(oneCell_rdL (hS29.rdl 1 rfl)), List.forall_mem_nil _⟩⟩) hS29 (fun H30 hS31 hxx => ?_)
    replace hS31 : St H0 NoB NoB [blkE g27 (.cells #[I ((doV q (plan.length : Int))), r23] 58), rdE r23 (doC q (plan.length : Int)), blkE g14 (.cells #[I (((walkFault q plan)).1), I (((walkFault q plan)).2)] 27), blkE g1 (.cells #[I (q.Facts), vf, vg, va] 25), rdE vf q.First, rdE vg q.Goal, rdE va q.Acts, rdE vl plan] H30 := hS31
    refine wpL_o rfl ?_
    refine e_storeBlkA (cs' := #[I ((doF q (plan.length : Int)).1), I ((doF q (plan.length : Int)).2)]) rfl a20_8 rfl Try.sizeOf27 rfl rfl (List.forall_mem_cons.2 ⟨rfl, List.forall_mem_cons.2 ⟨rfl, List.forall_mem_nil _⟩⟩) (hS31.front 2 rfl) (fun H32 hS33 hxx => ?_)
    replace hS33 : St H0 NoB NoB [blkE g14 (.cells #[I ((doF q (plan.length : Int)).1), I ((doF q (plan.length : Int)).2)] 27), blkE g27 (.cells #[I ((doV q (plan.length : Int))), r23] 58), rdE r23 (doC q (plan.length : Int)), blkE g1 (.cells #[I (q.Facts), vf, vg, va] 25), rdE vf q.First, rdE vg q.Goal, rdE va q.Acts, rdE vl plan] H32 := hS33
    exact ⟨r23, g27, a20_1, a20_2, a20_7, a20_8, rfl, hS33⟩
  rintro f34 H34 ⟨r23, g27, a34_1, a34_2, a34_7, a34_8, a34_9, hS34⟩
  clear a20_1 a20_2 a20_30 a20_7 a20_8
  refine wpF_seq ?_
  refine wpF_seq ?_
  refine wpF_cut (fun f H => f 1 = vl ∧ f 2 = PT g1 0 ∧ f 7 = B (walkOk q plan) ∧ f 8 = PT g14 0 ∧ f 9 = PT g27 0 ∧ f 42 = B (decide (((doF q (plan.length : Int)).1) ≠ 0)) ∧ H34 = H) ?_ ?_
  · refine wpF_region ?_
    refine wpL_q (U := NoB) rfl (q_fieldAddr rfl Try.underlying27 rfl Try.sizeOf3 a34_8) ?_
    refine wpL_q (U := NoB) rfl (q_loadBlk rfl rfl Try.isAgg3 (hS34.blk 0 rfl) rfl (fun h => h)) ?_
    refine wpL_q (U := NoB) rfl (q_neq rfl rfl rfl) ?_
    exact ⟨a34_1, a34_2, a34_7, a34_8, a34_9, rfl, rfl⟩
  rintro f35 _ ⟨a35_1, a35_2, a35_7, a35_8, a35_9, a35_42, rfl⟩
  clear a34_1 a34_2 a34_7 a34_8 a34_9
  refine wpF_condP a35_42 (fun h42 => ?t104) (fun h42 => ?e104)
  case t104 =>
    refine wpF_seq ?_
    refine wpF_cut (fun f H => f 4 = B (decide (((doC q (plan.length : Int)).length : Int) = 0)) ∧ H34 = H) ?_ ?_
    · refine wpF_region ?_
      refine wpL_q (U := NoB) rfl (q_fieldAddr rfl Try.underlying58 rfl Try.sizeOf56 a35_9) ?_
      refine wpL_q (U := NoB) rfl (q_loadBlk rfl rfl Try.isAgg56 (hS34.blk 1 rfl) rfl (fun h => h)) ?_
      refine wpL_q (U := NoB) rfl (q_lenRd rfl Try.underlying56 rfl (hS34.rdl 2 rfl)) ?_
      refine wpL_q (U := NoB) rfl (q_eql rfl rfl rfl) ?_
      refine wpL_q (U := NoB) rfl (q_assign (v := B (decide (((doC q (plan.length : Int)).length : Int) = 0))) rfl rfl) ?_
      exact ⟨rfl, rfl⟩
    rintro f37 _ ⟨a37_4, rfl⟩
    clear a35_1 a35_2 a35_42 a35_7 a35_8 a35_9
    refine wpF_ret ?_
    refine ⟨_, resT a37_4 resN, hS34.frame, ?_⟩
    show (B (decide (((doC q (plan.length : Int)).length : Int) = 0))) = B true
    exact congrArg B (decide_eq_true (by rw [do_none h42]; rfl))
  have htl := there_law hz (Decidable.of_not_not h42)
  refine wpF_skip ?_
  refine wpF_seq ?_
  refine wpF_cut (fun f H => f 1 = vl ∧ f 2 = PT g1 0 ∧ f 7 = B (walkOk q plan) ∧ f 8 = PT g14 0 ∧ f 9 = PT g27 0 ∧ f 10 = (Value.slice none 0 0) ∧ H34 = H) ?_ ?_
  · refine wpF_region ?_
    refine wpL_q (U := NoB) rfl (q_assign (v := (Value.slice none 0 0)) rfl rfl) ?_
    exact ⟨a35_1, a35_2, a35_7, a35_8, a35_9, rfl, rfl⟩
  rintro f38 _ ⟨a38_1, a38_2, a38_7, a38_8, a38_9, a38_10, rfl⟩
  clear a35_1 a35_2 a35_42 a35_7 a35_8 a35_9
  have hS39 : St H0 NoB NoB [rowE 4 (Value.slice none 0 0) ([] : List Bool), blkE g14 (.cells #[I ((doF q (plan.length : Int)).1), I ((doF q (plan.length : Int)).2)] 27), blkE g27 (.cells #[I ((doV q (plan.length : Int))), r23] 58), rdE r23 (doC q (plan.length : Int)), blkE g1 (.cells #[I (q.Facts), vf, vg, va] 25), rdE vf q.First, rdE vg q.Goal, rdE va q.Acts, rdE vl plan] H34 := hS34.row0 4
  refine wpF_seq ?_
  refine wpF_seq ?_
  refine wpF_cut (fun f H => f 1 = vl ∧ f 2 = PT g1 0 ∧ f 7 = B (walkOk q plan) ∧ f 8 = PT g14 0 ∧ f 9 = PT g27 0 ∧ f 10 = (Value.slice none 0 0) ∧ f 11 = I (0) ∧ H34 = H) ?_ ?_
  · refine wpF_region ?_
    refine wpL_q (U := NoB) rfl (q_assign (v := I (0)) rfl rfl) ?_
    exact ⟨a38_1, a38_2, a38_7, a38_8, a38_9, a38_10, rfl, rfl⟩
  rintro f40 _ ⟨a40_1, a40_2, a40_7, a40_8, a40_9, a40_10, a40_11, rfl⟩
  clear a38_1 a38_10 a38_2 a38_7 a38_8 a38_9
  refine wpF_block ?_
  refine wpF_loop (fun mz f H => ∃ (m : Nat), ∃ (vo : Value), mz = plan.length + 1 - m ∧ (m ≤ plan.length + 1) ∧ f 1 = vl ∧ f 2 = PT g1 0 ∧ f 7 = B (walkOk q plan) ∧ f 8 = PT g14 0 ∧ f 9 = PT g27 0 ∧ f 10 = vo ∧ f 11 = I ((m : Int)) ∧ St H0 NoB NoB [rowE 4 vo (thereF q plan m : List Bool), blkE g14 (.cells #[I ((doF q (plan.length : Int)).1), I ((doF q (plan.length : Int)).2)] 27), blkE g27 (.cells #[I ((doV q (plan.length : Int))), r23] 58), rdE r23 (doC q (plan.length : Int)), blkE g1 (.cells #[I (q.Facts), vf, vg, va] 25), rdE vf q.First, rdE vg q.Goal, rdE va q.Acts, rdE vl plan] H) (plan.length + 1 - 0) ?_ ?_
  · exact ⟨0, (Value.slice none 0 0), rfl, Nat.zero_le _, a40_1, a40_2, a40_7, a40_8, a40_9, a40_10, (Eq.trans a40_11 (congrArg I (by omega))), (show St H0 NoB NoB [rowE 4 (Value.slice none 0 0) (thereF q plan 0 : List Bool), blkE g14 (.cells #[I ((doF q (plan.length : Int)).1), I ((doF q (plan.length : Int)).2)] 27), blkE g27 (.cells #[I ((doV q (plan.length : Int))), r23] 58), rdE r23 (doC q (plan.length : Int)), blkE g1 (.cells #[I (q.Facts), vf, vg, va] 25), rdE vf q.First, rdE vg q.Goal, rdE va q.Acts, rdE vl plan] H34 from hS39)⟩
  intro m41 f41 H41 hI41
  obtain ⟨m, vo, hm41, hm, a41_1, a41_2, a41_7, a41_8, a41_9, a41_10, a41_11, hS41⟩ := hI41
  clear a40_1 a40_10 a40_11 a40_2 a40_7 a40_8 a40_9
  refine wpF_seq ?_
  refine wpF_seq ?_
  refine wpF_cut (fun f H => f 1 = vl ∧ f 2 = PT g1 0 ∧ f 7 = B (walkOk q plan) ∧ f 8 = PT g14 0 ∧ f 9 = PT g27 0 ∧ f 10 = vo ∧ f 11 = I ((m : Int)) ∧ f 50 = B (decide ((m : Int) ≤ (plan.length : Int))) ∧ H41 = H) ?_ ?_
  · refine wpF_region ?_
    refine wpL_q (U := NoB) rfl (q_move (v := I ((m : Int))) rfl a41_11) ?_
    refine wpL_q (U := NoB) rfl (q_move (v := vl) rfl a41_1) ?_
    refine wpL_q (U := NoB) rfl (q_lenRd rfl Try.underlying22 rfl (hS41.rdl 8 rfl)) ?_
    refine wpL_q (U := NoB) rfl (q_leq rfl rfl rfl) ?_
    exact ⟨a41_1, a41_2, a41_7, a41_8, a41_9, a41_10, a41_11, rfl, rfl⟩
  rintro f42 _ ⟨a42_1, a42_2, a42_7, a42_8, a42_9, a42_10, a42_11, a42_50, rfl⟩
  clear a41_1 a41_10 a41_11 a41_2 a41_7 a41_8 a41_9
  refine wpF_condP a42_50 (fun h50 => ?t103) (fun h50 => ?e103)
  case t103 =>
    have hwm := hwk m (by omega)
    have hfl := thereF_le hz (m := m) (by omega)
    have hsl2 := stt_len (q := q) (plan := plan) m
    rw [← hwm.2] at hsl2
    refine wpF_skip ?_
    refine wpF_seq ?_
    refine wpF_block ?_
    refine wpF_seq ?_
    refine wpF_cut (fun f H => ∃ (r44o4 : Value), ∃ (g44o9 : Nat), f 1 = vl ∧ f 2 = PT g1 0 ∧ f 7 = B (walkOk q plan) ∧ f 8 = PT g14 0 ∧ f 9 = PT g27 0 ∧ f 10 = vo ∧ f 11 = I ((m : Int)) ∧ f 12 = r44o4 ∧ f 14 = PT g44o9 0 ∧ St H0 NoB NoB [blkE g44o9 (.cells #[I (((walkFault q (plan.take m))).1), I (((walkFault q (plan.take m))).2)] 27), rdE r44o4 (walkNow q (plan.take m)), rowE 4 vo (thereF q plan m : List Bool), blkE g14 (.cells #[I ((doF q (plan.length : Int)).1), I ((doF q (plan.length : Int)).2)] 27), blkE g27 (.cells #[I ((doV q (plan.length : Int))), r23] 58), rdE r23 (doC q (plan.length : Int)), blkE g1 (.cells #[I (q.Facts), vf, vg, va] 25), rdE vf q.First, rdE vg q.Goal, rdE va q.Acts, rdE vl plan] H) ?_ ?_
    · refine wpF_drawn [none, none, none, none, none, none, none, none, none, none, none, none, some 0] [[], [], [], [], [], [], [], [], [], [], [], [], []] (fun l b => match l with | 0 => True | _ => False) (by kernel_rfl) (by kernel_rfl) ?_
      refine wpR_q 0 (by kernel_rfl) rfl (quietAt rfl rfl (q_loadBlkA rfl a42_2 Try.isAgg25 Try.sizeOf25 rfl (hS41.blk 4 rfl) (labU_not [] rfl (List.forall_mem_nil _)))) ?_
      refine wpR_q 1 (by kernel_rfl) rfl (quietAt rfl rfl (q_move (v := vl) rfl a42_1)) ?_
      refine wpR_q 2 (by kernel_rfl) rfl (quietAt rfl rfl (q_move (v := I ((m : Int))) rfl a42_11)) ?_
      have hS44o3 : St H0 NoB NoB [rdE (sliceV 1 vl 0 m) (plan.take m : List Int), rowE 4 vo (thereF q plan m : List Bool), blkE g14 (.cells #[I ((doF q (plan.length : Int)).1), I ((doF q (plan.length : Int)).2)] 27), blkE g27 (.cells #[I ((doV q (plan.length : Int))), r23] 58), rdE r23 (doC q (plan.length : Int)), blkE g1 (.cells #[I (q.Facts), vf, vg, va] 25), rdE vf q.First, rdE vg q.Goal, rdE va q.Acts, rdE vl plan] H41 := hS41.rd (Rd.list.2 (sliceV_hi (m := m) (Rd.list.1 (hS41.rdS 8 rfl)) (by omega)))
      refine wpR_q 3 (by kernel_rfl) rfl (quietAt rfl rfl (q_sliceRd (k := 0) (m := m) rfl Try.underlying22 el_Int_3_StepsThere1 rfl (hS41.rdl 8 rfl) lo0 (lo1 rfl (by omega)) (by omega) (by omega))) ?_
      refine wpR_n [4, 9] (by kernel_rfl) ?_
      refine List.forall_mem_cons.2 ⟨?_, List.forall_mem_cons.2 ⟨?_, List.forall_mem_nil _⟩⟩
      · refine exE rfl rfl ?_
        refine e_call rfl Try.call14 (arr2 (v0 := Value.agg #[I (q.Facts), vf, vg, va]) (v1 := (sliceV 1 vl 0 m)) rfl rfl) (Walk_L vf vg va ((sliceV 1 vl 0 m)) q (plan.take m) (by first | assumption | (constructor <;> omega)) (hS44o3.rdS 6 rfl) (hS44o3.rdS 7 rfl) (hS44o3.rdS 8 rfl) (hS44o3.rdS 0 rfl) ) ?_
        rintro _ H44o4 ⟨hxx, r44o4, rfl, hrr44o4⟩
        have hS44o4 : St H0 NoB NoB [rdE r44o4 (walkNow q (plan.take m)), rdE (sliceV 1 vl 0 m) (plan.take m : List Int), rowE 4 vo (thereF q plan m : List Bool), blkE g14 (.cells #[I ((doF q (plan.length : Int)).1), I ((doF q (plan.length : Int)).2)] 27), blkE g27 (.cells #[I ((doV q (plan.length : Int))), r23] 58), rdE r23 (doC q (plan.length : Int)), blkE g1 (.cells #[I (q.Facts), vf, vg, va] 25), rdE vf q.First, rdE vg q.Goal, rdE va q.Acts, rdE vl plan] H44o4 := hS44o3.res hxx hrr44o4
        refine ⟨Ext.mono hxx (fun _ h => h.elim), ?_⟩
        refine wpR_q 5 (by kernel_rfl) rfl (quietAt rfl rfl (q_move (v := Value.tuple #[r44o4, B (walkOk q (plan.take m)), Value.agg #[I (((walkFault q (plan.take m))).1), I (((walkFault q (plan.take m))).2)]]) rfl rfl)) ?_
        refine wpR_q 6 (by kernel_rfl) rfl (quietAt rfl rfl (q_extract (vs := #[r44o4, B (walkOk q (plan.take m)), Value.agg #[I (((walkFault q (plan.take m))).1), I (((walkFault q (plan.take m))).2)]]) (v := r44o4) rfl rfl rfl)) ?_
        refine wpR_q 7 (by kernel_rfl) rfl (quietAt rfl rfl (q_extract (vs := #[r44o4, B (walkOk q (plan.take m)), Value.agg #[I (((walkFault q (plan.take m))).1), I (((walkFault q (plan.take m))).2)]]) (v := B (walkOk q (plan.take m))) rfl rfl rfl)) ?_
        refine wpR_q 8 (by kernel_rfl) rfl (quietAt rfl rfl (q_extract (vs := #[r44o4, B (walkOk q (plan.take m)), Value.agg #[I (((walkFault q (plan.take m))).1), I (((walkFault q (plan.take m))).2)]]) (v := Value.agg #[I (((walkFault q (plan.take m))).1), I (((walkFault q (plan.take m))).2)]) rfl rfl rfl)) ?_
        refine wpR_n [9] (by kernel_rfl) ?_
        refine List.forall_mem_cons.2 ⟨?_, List.forall_mem_nil _⟩
        refine exE rfl rfl ?_
        refine e_alloc rfl Try.zeroValue27 hS44o4 (fun g44o9 H44o9 hS44o9 hxx => ?_)
        replace hS44o9 : St H0 NoB NoB [blkE g44o9 (.cells #[I (0), I (0)] 27), rdE r44o4 (walkNow q (plan.take m)), rdE (sliceV 1 vl 0 m) (plan.take m : List Int), rowE 4 vo (thereF q plan m : List Bool), blkE g14 (.cells #[I ((doF q (plan.length : Int)).1), I ((doF q (plan.length : Int)).2)] 27), blkE g27 (.cells #[I ((doV q (plan.length : Int))), r23] 58), rdE r23 (doC q (plan.length : Int)), blkE g1 (.cells #[I (q.Facts), vf, vg, va] 25), rdE vf q.First, rdE vg q.Goal, rdE va q.Acts, rdE vl plan] H44o9 := hS44o9
        refine ⟨Ext.mono hxx (fun _ h => h.elim), ?_⟩
        refine wpR_q 10 (by kernel_rfl) rfl (quietAt rfl rfl (q_assign (v := r44o4) rfl rfl)) ?_
        refine wpR_q 11 (by kernel_rfl) rfl (quietAt rfl rfl (q_assign (v := B (walkOk q (plan.take m))) rfl rfl)) ?_
        refine wpR_n [12] (by kernel_rfl) ?_
        refine List.forall_mem_cons.2 ⟨?_, List.forall_mem_nil _⟩
        refine exE rfl rfl ?_
        refine e_storeBlkA (cs' := #[I (((walkFault q (plan.take m))).1), I (((walkFault q (plan.take m))).2)]) rfl rfl rfl Try.sizeOf27 rfl rfl (List.forall_mem_cons.2 ⟨rfl, List.forall_mem_cons.2 ⟨rfl, List.forall_mem_nil _⟩⟩) hS44o9 (fun H44o12 hS44o12 hxx => ?_)
        replace hS44o12 : St H0 NoB NoB [blkE g44o9 (.cells #[I (((walkFault q (plan.take m))).1), I (((walkFault q (plan.take m))).2)] 27), rdE r44o4 (walkNow q (plan.take m)), rdE (sliceV 1 vl 0 m) (plan.take m : List Int), rowE 4 vo (thereF q plan m : List Bool), blkE g14 (.cells #[I ((doF q (plan.length : Int)).1), I ((doF q (plan.length : Int)).2)] 27), blkE g27 (.cells #[I ((doV q (plan.length : Int))), r23] 58), rdE r23 (doC q (plan.length : Int)), blkE g1 (.cells #[I (q.Facts), vf, vg, va] 25), rdE vf q.First, rdE vg q.Goal, rdE va q.Acts, rdE vl plan] H44o12 := hS44o12
        refine ⟨Ext.mono hxx (labS_of 0 rfl (fun _ _ => trivial)), ?_⟩
        refine wpR_end (by kernel_rfl) ?_
        exact ⟨r44o4, g44o9, a42_1, a42_2, a42_7, a42_8, a42_9, a42_10, a42_11, rfl, rfl, (hS44o12.drop (sk (sk (sn (sk (sk (sk (sk (sk (sk (sk (sk (sk (List.Sublist.slnil))))))))))))))⟩
      · refine exE rfl rfl ?_
        refine e_alloc rfl Try.zeroValue27 hS44o3 (fun g44o9 H44o9 hS44o9 hxx => ?_)
        replace hS44o9 : St H0 NoB NoB [blkE g44o9 (.cells #[I (0), I (0)] 27), rdE (sliceV 1 vl 0 m) (plan.take m : List Int), rowE 4 vo (thereF q plan m : List Bool), blkE g14 (.cells #[I ((doF q (plan.length : Int)).1), I ((doF q (plan.length : Int)).2)] 27), blkE g27 (.cells #[I ((doV q (plan.length : Int))), r23] 58), rdE r23 (doC q (plan.length : Int)), blkE g1 (.cells #[I (q.Facts), vf, vg, va] 25), rdE vf q.First, rdE vg q.Goal, rdE va q.Acts, rdE vl plan] H44o9 := hS44o9
        refine ⟨Ext.mono hxx (fun _ h => h.elim), ?_⟩
        refine wpR_n [4] (by kernel_rfl) ?_
        refine List.forall_mem_cons.2 ⟨?_, List.forall_mem_nil _⟩
        refine exE rfl rfl ?_
        refine e_call rfl Try.call14 (arr2 (v0 := Value.agg #[I (q.Facts), vf, vg, va]) (v1 := (sliceV 1 vl 0 m)) rfl rfl) (Walk_L vf vg va ((sliceV 1 vl 0 m)) q (plan.take m) (by first | assumption | (constructor <;> omega)) (hS44o9.rdS 7 rfl) (hS44o9.rdS 8 rfl) (hS44o9.rdS 9 rfl) (hS44o9.rdS 1 rfl) ) ?_
        rintro _ H44o4 ⟨hxx, r44o4, rfl, hrr44o4⟩
        have hS44o4 : St H0 NoB NoB [rdE r44o4 (walkNow q (plan.take m)), blkE g44o9 (.cells #[I (0), I (0)] 27), rdE (sliceV 1 vl 0 m) (plan.take m : List Int), rowE 4 vo (thereF q plan m : List Bool), blkE g14 (.cells #[I ((doF q (plan.length : Int)).1), I ((doF q (plan.length : Int)).2)] 27), blkE g27 (.cells #[I ((doV q (plan.length : Int))), r23] 58), rdE r23 (doC q (plan.length : Int)), blkE g1 (.cells #[I (q.Facts), vf, vg, va] 25), rdE vf q.First, rdE vg q.Goal, rdE va q.Acts, rdE vl plan] H44o4 := hS44o9.res hxx hrr44o4
        refine ⟨Ext.mono hxx (fun _ h => h.elim), ?_⟩
        refine wpR_q 5 (by kernel_rfl) rfl (quietAt rfl rfl (q_move (v := Value.tuple #[r44o4, B (walkOk q (plan.take m)), Value.agg #[I (((walkFault q (plan.take m))).1), I (((walkFault q (plan.take m))).2)]]) rfl rfl)) ?_
        refine wpR_q 6 (by kernel_rfl) rfl (quietAt rfl rfl (q_extract (vs := #[r44o4, B (walkOk q (plan.take m)), Value.agg #[I (((walkFault q (plan.take m))).1), I (((walkFault q (plan.take m))).2)]]) (v := r44o4) rfl rfl rfl)) ?_
        refine wpR_q 7 (by kernel_rfl) rfl (quietAt rfl rfl (q_extract (vs := #[r44o4, B (walkOk q (plan.take m)), Value.agg #[I (((walkFault q (plan.take m))).1), I (((walkFault q (plan.take m))).2)]]) (v := B (walkOk q (plan.take m))) rfl rfl rfl)) ?_
        refine wpR_q 8 (by kernel_rfl) rfl (quietAt rfl rfl (q_extract (vs := #[r44o4, B (walkOk q (plan.take m)), Value.agg #[I (((walkFault q (plan.take m))).1), I (((walkFault q (plan.take m))).2)]]) (v := Value.agg #[I (((walkFault q (plan.take m))).1), I (((walkFault q (plan.take m))).2)]) rfl rfl rfl)) ?_
        refine wpR_q 10 (by kernel_rfl) rfl (quietAt rfl rfl (q_assign (v := r44o4) rfl rfl)) ?_
        refine wpR_q 11 (by kernel_rfl) rfl (quietAt rfl rfl (q_assign (v := B (walkOk q (plan.take m))) rfl rfl)) ?_
        refine wpR_n [12] (by kernel_rfl) ?_
        refine List.forall_mem_cons.2 ⟨?_, List.forall_mem_nil _⟩
        refine exE rfl rfl ?_
        refine e_storeBlkA (cs' := #[I (((walkFault q (plan.take m))).1), I (((walkFault q (plan.take m))).2)]) rfl rfl rfl Try.sizeOf27 rfl rfl (List.forall_mem_cons.2 ⟨rfl, List.forall_mem_cons.2 ⟨rfl, List.forall_mem_nil _⟩⟩) (hS44o4.front 1 rfl) (fun H44o12 hS44o12 hxx => ?_)
        replace hS44o12 : St H0 NoB NoB [blkE g44o9 (.cells #[I (((walkFault q (plan.take m))).1), I (((walkFault q (plan.take m))).2)] 27), rdE r44o4 (walkNow q (plan.take m)), rdE (sliceV 1 vl 0 m) (plan.take m : List Int), rowE 4 vo (thereF q plan m : List Bool), blkE g14 (.cells #[I ((doF q (plan.length : Int)).1), I ((doF q (plan.length : Int)).2)] 27), blkE g27 (.cells #[I ((doV q (plan.length : Int))), r23] 58), rdE r23 (doC q (plan.length : Int)), blkE g1 (.cells #[I (q.Facts), vf, vg, va] 25), rdE vf q.First, rdE vg q.Goal, rdE va q.Acts, rdE vl plan] H44o12 := hS44o12
        refine ⟨Ext.mono hxx (labS_of 0 rfl (fun _ _ => trivial)), ?_⟩
        refine wpR_end (by kernel_rfl) ?_
        exact ⟨r44o4, g44o9, a42_1, a42_2, a42_7, a42_8, a42_9, a42_10, a42_11, rfl, rfl, (hS44o12.drop (sk (sk (sn (sk (sk (sk (sk (sk (sk (sk (sk (sk (List.Sublist.slnil))))))))))))))⟩
    rintro f45 H45 ⟨r44o4, g44o9, a45_1, a45_2, a45_7, a45_8, a45_9, a45_10, a45_11, a45_12, a45_14, hS45⟩
    clear a42_1 a42_10 a42_11 a42_2 a42_50 a42_7 a42_8 a42_9
    refine wpF_seq ?_
    refine wpF_seq ?_
    refine wpF_cut (fun f H => f 1 = vl ∧ f 2 = PT g1 0 ∧ f 7 = B (walkOk q plan) ∧ f 8 = PT g14 0 ∧ f 9 = PT g27 0 ∧ f 10 = vo ∧ f 11 = I ((m : Int)) ∧ f 12 = r44o4 ∧ f 64 = B (decide ((((walkFault q (plan.take m))).1) ≠ 0)) ∧ H45 = H) ?_ ?_
    · refine wpF_region ?_
      refine wpL_q (U := NoB) rfl (q_fieldAddr rfl Try.underlying27 rfl Try.sizeOf3 a45_14) ?_
      refine wpL_q (U := NoB) rfl (q_loadBlk rfl rfl Try.isAgg3 (hS45.blk 0 rfl) rfl (fun h => h)) ?_
      refine wpL_q (U := NoB) rfl (q_neq rfl rfl rfl) ?_
      exact ⟨a45_1, a45_2, a45_7, a45_8, a45_9, a45_10, a45_11, a45_12, rfl, rfl⟩
    rintro f46 _ ⟨a46_1, a46_2, a46_7, a46_8, a46_9, a46_10, a46_11, a46_12, a46_64, rfl⟩
    clear a45_1 a45_10 a45_11 a45_12 a45_14 a45_2 a45_7 a45_8 a45_9
    refine wpF_condP a46_64 (fun h64 => ?t56) (fun h64 => ?e56)
    case t56 =>
      refine wpF_seq ?_
      refine wpF_cut (fun f H => f 4 = B (false) ∧ H45 = H) ?_ ?_
      · refine wpF_region ?_
        refine wpL_q (U := NoB) rfl (q_assign (v := B (false)) rfl rfl) ?_
        exact ⟨rfl, rfl⟩
      rintro f48 _ ⟨a48_4, rfl⟩
      clear a46_1 a46_10 a46_11 a46_12 a46_2 a46_64 a46_7 a46_8 a46_9
      refine wpF_ret ?_
      refine ⟨_, resT a48_4 resN, hS45.frame, ?_⟩
      show (B (false)) = B true
      exfalso
      exact h64 hwm.1
    refine wpF_skip ?_
    refine wpF_cut (fun f H => ∃ (v50 : Value), f 1 = vl ∧ f 2 = PT g1 0 ∧ f 7 = B (walkOk q plan) ∧ f 8 = PT g14 0 ∧ f 9 = PT g27 0 ∧ f 10 = v50 ∧ f 11 = I ((m : Int)) ∧ St H0 NoB NoB [rowE 4 v50 (thereF q plan (m + 1) : List Bool), blkE g44o9 (.cells #[I (((walkFault q (plan.take m))).1), I (((walkFault q (plan.take m))).2)] 27), blkE g14 (.cells #[I ((doF q (plan.length : Int)).1), I ((doF q (plan.length : Int)).2)] 27), blkE g27 (.cells #[I ((doV q (plan.length : Int))), r23] 58), rdE r23 (doC q (plan.length : Int)), blkE g1 (.cells #[I (q.Facts), vf, vg, va] 25), rdE vf q.First, rdE vg q.Goal, rdE va q.Acts, rdE vl plan] H) ?_ ?_
    · refine wpF_region ?_
      refine wpL_q (U := NoB) rfl (q_move (v := vo) rfl a46_10) ?_
      refine wpL_q (U := NoB) rfl (q_move (v := r44o4) rfl a46_12) ?_
      have hS49 : St H0 NoB NoB [rowE 4 vo (thereF q plan m : List Bool), blkE g44o9 (.cells #[I (((walkFault q (plan.take m))).1), I (((walkFault q (plan.take m))).2)] 27), rdE r44o4 (walkNow q (plan.take m)), blkE g14 (.cells #[I ((doF q (plan.length : Int)).1), I ((doF q (plan.length : Int)).2)] 27), blkE g27 (.cells #[I ((doV q (plan.length : Int))), r23] 58), rdE r23 (doC q (plan.length : Int)), blkE g1 (.cells #[I (q.Facts), vf, vg, va] 25), rdE vf q.First, rdE vg q.Goal, rdE va q.Acts, rdE vl plan] H45 := (hS45.front 2 rfl)
      refine wpL_o rfl ?_
      refine e_append rfl Try.underlying29 em_Bool_4_StepsThere1 rfl rfl hS49 (hS49.rdS 2 rfl) (fun _ h => h) (by have hb : GoT.bytes Bool = 1 := rfl; simp [hb]; omega) (by decide) (fun v50 H51 hS52 hxx => ?_)
      replace hS52 : St H0 NoB NoB [rowE 4 v50 ((thereF q plan m) ++ (walkNow q (plan.take m)) : List Bool), blkE g44o9 (.cells #[I (((walkFault q (plan.take m))).1), I (((walkFault q (plan.take m))).2)] 27), rdE r44o4 (walkNow q (plan.take m)), blkE g14 (.cells #[I ((doF q (plan.length : Int)).1), I ((doF q (plan.length : Int)).2)] 27), blkE g27 (.cells #[I ((doV q (plan.length : Int))), r23] 58), rdE r23 (doC q (plan.length : Int)), blkE g1 (.cells #[I (q.Facts), vf, vg, va] 25), rdE vf q.First, rdE vg q.Goal, rdE va q.Acts, rdE vl plan] H51 := hS52
      have hS53 : St H0 NoB NoB [rowE 4 v50 (thereF q plan (m + 1) : List Bool), blkE g44o9 (.cells #[I (((walkFault q (plan.take m))).1), I (((walkFault q (plan.take m))).2)] 27), rdE r44o4 (walkNow q (plan.take m)), blkE g14 (.cells #[I ((doF q (plan.length : Int)).1), I ((doF q (plan.length : Int)).2)] 27), blkE g27 (.cells #[I ((doV q (plan.length : Int))), r23] 58), rdE r23 (doC q (plan.length : Int)), blkE g1 (.cells #[I (q.Facts), vf, vg, va] 25), rdE vf q.First, rdE vg q.Goal, rdE va q.Acts, rdE vl plan] H51 := by rw [show (thereF q plan (m + 1)) = ((thereF q plan m) ++ (walkNow q (plan.take m))) from thereF_next]; exact hS52
      refine wpL_q (U := NoB) rfl (q_assign (v := v50) rfl rfl) ?_
      exact ⟨v50, a46_1, a46_2, a46_7, a46_8, a46_9, rfl, a46_11, (hS53.drop (sk (sk (sn (sk (sk (sk (sk (sk (sk (sk (sk (List.Sublist.slnil)))))))))))))⟩
    rintro f54 H54 ⟨v50, a54_1, a54_2, a54_7, a54_8, a54_9, a54_10, a54_11, hS54⟩
    clear a46_1 a46_10 a46_11 a46_12 a46_2 a46_64 a46_7 a46_8 a46_9
    refine wpF_cut (fun f H => f 1 = vl ∧ f 2 = PT g1 0 ∧ f 7 = B (walkOk q plan) ∧ f 8 = PT g14 0 ∧ f 9 = PT g27 0 ∧ f 10 = v50 ∧ f 11 = I ((m : Int) + 1) ∧ H54 = H) ?_ ?_
    · refine wpF_region ?_
      refine wpL_q (U := NoB) rfl (q_move (v := I ((m : Int))) rfl a54_11) ?_
      refine wpL_q (U := NoB) rfl (q_add rfl rfl rfl (by constructor <;> omega)) ?_
      refine wpL_q (U := NoB) rfl (q_assign (v := I ((m : Int) + 1)) rfl rfl) ?_
      exact ⟨a54_1, a54_2, a54_7, a54_8, a54_9, a54_10, rfl, rfl⟩
    rintro f55 _ ⟨a55_1, a55_2, a55_7, a55_8, a55_9, a55_10, a55_11, rfl⟩
    clear a54_1 a54_10 a54_11 a54_2 a54_7 a54_8 a54_9
    refine ⟨_, ?_, m + 1, v50, rfl, (by omega), a55_1, a55_2, a55_7, a55_8, a55_9, a55_10, (Eq.trans a55_11 (congrArg I (by omega))), (hS54.drop (sk (sn (sk (sk (sk (sk (sk (sk (sk (sk (List.Sublist.slnil))))))))))))⟩
    omega
  refine wpF_exit ?_
  refine atX_here ?_
  refine wpF_seq ?_
  refine wpF_seq ?_
  refine wpF_cut (fun f H => f 1 = vl ∧ f 2 = PT g1 0 ∧ f 7 = B (walkOk q plan) ∧ f 8 = PT g14 0 ∧ f 9 = PT g27 0 ∧ f 10 = vo ∧ f 15 = I (0) ∧ H41 = H) ?_ ?_
  · refine wpF_region ?_
    refine wpL_q (U := NoB) rfl (q_assign (v := I (0)) rfl rfl) ?_
    exact ⟨a42_1, a42_2, a42_7, a42_8, a42_9, a42_10, rfl, rfl⟩
  rintro f57 _ ⟨a57_1, a57_2, a57_7, a57_8, a57_9, a57_10, a57_15, rfl⟩
  clear a42_1 a42_10 a42_11 a42_2 a42_50 a42_7 a42_8 a42_9
  refine wpF_block ?_
  refine wpF_loop (fun mz f H => ∃ (t : Nat), ∃ (vA : Value), ∃ (La : List Bool), mz = plan.length - t ∧ (t ≤ plan.length) ∧ (La = thereT q plan t) ∧ f 1 = vl ∧ f 2 = PT g1 0 ∧ f 7 = B (walkOk q plan) ∧ f 8 = PT g14 0 ∧ f 9 = PT g27 0 ∧ f 10 = vA ∧ f 15 = I ((t : Int)) ∧ St H0 NoB NoB [rowE 4 vA (La : List Bool), blkE g14 (.cells #[I ((doF q (plan.length : Int)).1), I ((doF q (plan.length : Int)).2)] 27), blkE g27 (.cells #[I ((doV q (plan.length : Int))), r23] 58), rdE r23 (doC q (plan.length : Int)), blkE g1 (.cells #[I (q.Facts), vf, vg, va] 25), rdE vf q.First, rdE vg q.Goal, rdE va q.Acts, rdE vl plan] H) (plan.length - 0) ?_ ?_
  · exact ⟨0, vo, thereF q plan m, rfl, Nat.zero_le _, (by rw [thereT_zero, show m = plan.length + 1 by omega]), a57_1, a57_2, a57_7, a57_8, a57_9, a57_10, (Eq.trans a57_15 (congrArg I (by omega))), (show St H0 NoB NoB [rowE 4 vo ((thereF q plan m) : List Bool), blkE g14 (.cells #[I ((doF q (plan.length : Int)).1), I ((doF q (plan.length : Int)).2)] 27), blkE g27 (.cells #[I ((doV q (plan.length : Int))), r23] 58), rdE r23 (doC q (plan.length : Int)), blkE g1 (.cells #[I (q.Facts), vf, vg, va] 25), rdE vf q.First, rdE vg q.Goal, rdE va q.Acts, rdE vl plan] H41 from hS41)⟩
  intro m58 f58 H58 hI58
  obtain ⟨t, vA, La, hm58, ht, ea, a58_1, a58_2, a58_7, a58_8, a58_9, a58_10, a58_15, hS58⟩ := hI58
  clear a57_1 a57_10 a57_15 a57_2 a57_7 a57_8 a57_9
  refine wpF_seq ?_
  refine wpF_seq ?_
  refine wpF_cut (fun f H => f 1 = vl ∧ f 2 = PT g1 0 ∧ f 7 = B (walkOk q plan) ∧ f 8 = PT g14 0 ∧ f 9 = PT g27 0 ∧ f 10 = vA ∧ f 15 = I ((t : Int)) ∧ f 71 = B (decide ((t : Int) < (plan.length : Int))) ∧ H58 = H) ?_ ?_
  · refine wpF_region ?_
    refine wpL_q (U := NoB) rfl (q_move (v := I ((t : Int))) rfl a58_15) ?_
    refine wpL_q (U := NoB) rfl (q_move (v := vl) rfl a58_1) ?_
    refine wpL_q (U := NoB) rfl (q_lenRd rfl Try.underlying22 rfl (hS58.rdl 8 rfl)) ?_
    refine wpL_q (U := NoB) rfl (q_lss rfl rfl rfl) ?_
    exact ⟨a58_1, a58_2, a58_7, a58_8, a58_9, a58_10, a58_15, rfl, rfl⟩
  rintro f59 _ ⟨a59_1, a59_2, a59_7, a59_8, a59_9, a59_10, a59_15, a59_71, rfl⟩
  clear a58_1 a58_10 a58_15 a58_2 a58_7 a58_8 a58_9
  refine wpF_condP a59_71 (fun h71 => ?t102) (fun h71 => ?e102)
  case t102 =>
    refine wpF_skip ?_
    refine wpF_seq ?_
    refine wpF_block ?_
    refine wpF_seq ?_
    refine wpF_cut (fun f H => f 1 = vl ∧ f 2 = PT g1 0 ∧ f 7 = B (walkOk q plan) ∧ f 8 = PT g14 0 ∧ f 9 = PT g27 0 ∧ f 10 = vA ∧ f 15 = I ((t : Int)) ∧ f 16 = I (0) ∧ H58 = H) ?_ ?_
    · refine wpF_region ?_
      refine wpL_q (U := NoB) rfl (q_assign (v := I (0)) rfl rfl) ?_
      exact ⟨a59_1, a59_2, a59_7, a59_8, a59_9, a59_10, a59_15, rfl, rfl⟩
    rintro f61 _ ⟨a61_1, a61_2, a61_7, a61_8, a61_9, a61_10, a61_15, a61_16, rfl⟩
    clear a59_1 a59_10 a59_15 a59_2 a59_7 a59_71 a59_8 a59_9
    refine wpF_block ?_
    refine wpF_loop (fun mz f H => ∃ (k : Nat), ∃ (vB : Value), ∃ (Lb : List Bool), mz = q.Acts.length - k ∧ (k ≤ q.Acts.length) ∧ (Lb = thereK q plan t k) ∧ f 1 = vl ∧ f 2 = PT g1 0 ∧ f 7 = B (walkOk q plan) ∧ f 8 = PT g14 0 ∧ f 9 = PT g27 0 ∧ f 10 = vB ∧ f 15 = I ((t : Int)) ∧ f 16 = I ((k : Int)) ∧ St H0 NoB NoB [rowE 4 vB (Lb : List Bool), blkE g14 (.cells #[I ((doF q (plan.length : Int)).1), I ((doF q (plan.length : Int)).2)] 27), blkE g27 (.cells #[I ((doV q (plan.length : Int))), r23] 58), rdE r23 (doC q (plan.length : Int)), blkE g1 (.cells #[I (q.Facts), vf, vg, va] 25), rdE vf q.First, rdE vg q.Goal, rdE va q.Acts, rdE vl plan] H) (q.Acts.length - 0) ?_ ?_
    · exact ⟨0, vA, La, rfl, Nat.zero_le _, (by rw [thereK_zero, ea]), a61_1, a61_2, a61_7, a61_8, a61_9, a61_10, a61_15, (Eq.trans a61_16 (congrArg I (by omega))), hS58⟩
    intro m62 f62 H62 hI62
    obtain ⟨k, vB, Lb, hm62, hk, eb, a62_1, a62_2, a62_7, a62_8, a62_9, a62_10, a62_15, a62_16, hS62⟩ := hI62
    clear a61_1 a61_10 a61_15 a61_16 a61_2 a61_7 a61_8 a61_9
    refine wpF_seq ?_
    refine wpF_seq ?_
    refine wpF_cut (fun f H => f 1 = vl ∧ f 2 = PT g1 0 ∧ f 7 = B (walkOk q plan) ∧ f 8 = PT g14 0 ∧ f 9 = PT g27 0 ∧ f 10 = vB ∧ f 15 = I ((t : Int)) ∧ f 16 = I ((k : Int)) ∧ f 78 = B (decide ((k : Int) < (q.Acts.length : Int))) ∧ H62 = H) ?_ ?_
    · refine wpF_region ?_
      refine wpL_q (U := NoB) rfl (q_move (v := I ((k : Int))) rfl a62_16) ?_
      refine wpL_q (U := NoB) rfl (q_fieldAddr rfl Try.underlying25 rfl Try.sizeOf23 a62_2) ?_
      refine wpL_q (U := NoB) rfl (q_loadBlk rfl rfl Try.isAgg23 (hS62.blk 4 rfl) rfl (fun h => h)) ?_
      refine wpL_q (U := NoB) rfl (q_lenRd rfl Try.underlying23 rfl (hS62.rdl 7 rfl)) ?_
      refine wpL_q (U := NoB) rfl (q_lss rfl rfl rfl) ?_
      exact ⟨a62_1, a62_2, a62_7, a62_8, a62_9, a62_10, a62_15, a62_16, rfl, rfl⟩
    rintro f63 _ ⟨a63_1, a63_2, a63_7, a63_8, a63_9, a63_10, a63_15, a63_16, a63_78, rfl⟩
    clear a62_1 a62_10 a62_15 a62_16 a62_2 a62_7 a62_8 a62_9
    refine wpF_condP a63_78 (fun h78 => ?t76) (fun h78 => ?e76)
    case e76 =>
      refine wpF_exit ?_
      refine atX_here ?_
      refine wpF_cut (fun f H => f 1 = vl ∧ f 2 = PT g1 0 ∧ f 7 = B (walkOk q plan) ∧ f 8 = PT g14 0 ∧ f 9 = PT g27 0 ∧ f 10 = vB ∧ f 15 = I ((t : Int) + 1) ∧ H62 = H) ?_ ?_
      · refine wpF_region ?_
        refine wpL_q (U := NoB) rfl (q_move (v := I ((t : Int))) rfl a63_15) ?_
        refine wpL_q (U := NoB) rfl (q_add rfl rfl rfl (by constructor <;> omega)) ?_
        refine wpL_q (U := NoB) rfl (q_assign (v := I ((t : Int) + 1)) rfl rfl) ?_
        exact ⟨a63_1, a63_2, a63_7, a63_8, a63_9, a63_10, rfl, rfl⟩
      rintro f75 _ ⟨a75_1, a75_2, a75_7, a75_8, a75_9, a75_10, a75_15, rfl⟩
      clear a63_1 a63_10 a63_15 a63_16 a63_2 a63_7 a63_78 a63_8 a63_9
      refine ⟨_, ?_, t + 1, vB, Lb, rfl, (by omega), (by rw [eb, thereT_next, show k = q.Acts.length by omega]), a75_1, a75_2, a75_7, a75_8, a75_9, a75_10, (Eq.trans a75_15 (congrArg I (by omega))), hS62⟩
      omega
    have hkl := thereK_le hz (t := t) (k := k) (by omega) (by omega)
    refine wpF_skip ?_
    refine wpF_seq ?_
    refine wpF_block ?_
    refine wpF_cut (fun f H => ∃ (v70 : Value), f 1 = vl ∧ f 2 = PT g1 0 ∧ f 7 = B (walkOk q plan) ∧ f 8 = PT g14 0 ∧ f 9 = PT g27 0 ∧ f 10 = v70 ∧ f 15 = I ((t : Int)) ∧ f 16 = I ((k : Int)) ∧ St H0 NoB NoB [rowE 4 v70 (Lb ++ ([decide ((k : Int) = (nth plan t))]) : List Bool), blkE g14 (.cells #[I ((doF q (plan.length : Int)).1), I ((doF q (plan.length : Int)).2)] 27), blkE g27 (.cells #[I ((doV q (plan.length : Int))), r23] 58), rdE r23 (doC q (plan.length : Int)), blkE g1 (.cells #[I (q.Facts), vf, vg, va] 25), rdE vf q.First, rdE vg q.Goal, rdE va q.Acts, rdE vl plan] H) ?_ ?_
    · refine wpF_region ?_
      refine wpL_q (U := NoB) rfl (q_move (v := vB) rfl a63_10) ?_
      refine wpL_q (U := NoB) rfl (q_move (v := I ((k : Int))) rfl a63_16) ?_
      refine wpL_q (U := NoB) rfl (q_move (v := vl) rfl a63_1) ?_
      refine wpL_q (U := NoB) rfl (q_move (v := I ((t : Int))) rfl a63_15) ?_
      refine wpL_q (U := NoB) rfl (q_indexRd (k := t) rfl Try.underlying22 el_Int_3_StepsThere1 rfl rfl (hS62.rdl 8 rfl) (by omega) (by omega)) ?_
      refine wpL_q (U := NoB) rfl (q_loadInt (k := t) rfl rfl el_Int_3_StepsThere1 (hS62.rdl 8 rfl) (by omega) (fun _ h => h)) ?_
      refine wpL_q (U := NoB) rfl (q_eql rfl rfl rfl) ?_
      refine wpL_o rfl ?_
      refine e_buildSlice (vs := [B (decide ((k : Int) = (nth plan t)))]) (xs := ([decide ((k : Int) = (nth plan t))] : List Bool)) rfl Try.underlying29 Try.zeroValue4 rfl Try.sizeOf4 (par1 (v0 := B (decide ((k : Int) = (nth plan t)))) rfl) rfl hS62 (RdVs.cons (Rd.bool.2 rfl) (RdVs.nil)) (by decide) (by decide) (fun v65 H66 hS67 hxx hvv65 => ?_)
      replace hS67 : St H0 NoB NoB [rowE 4 v65 ([decide ((k : Int) = (nth plan t))] : List Bool), rowE 4 vB (Lb : List Bool), blkE g14 (.cells #[I ((doF q (plan.length : Int)).1), I ((doF q (plan.length : Int)).2)] 27), blkE g27 (.cells #[I ((doV q (plan.length : Int))), r23] 58), rdE r23 (doC q (plan.length : Int)), blkE g1 (.cells #[I (q.Facts), vf, vg, va] 25), rdE vf q.First, rdE vg q.Goal, rdE va q.Acts, rdE vl plan] H66 := hS67
      have hS68 : St H0 NoB NoB [rdE v65 ([decide ((k : Int) = (nth plan t))] : List Bool), rowE 4 vB (Lb : List Bool), blkE g14 (.cells #[I ((doF q (plan.length : Int)).1), I ((doF q (plan.length : Int)).2)] 27), blkE g27 (.cells #[I ((doV q (plan.length : Int))), r23] 58), rdE r23 (doC q (plan.length : Int)), blkE g1 (.cells #[I (q.Facts), vf, vg, va] 25), rdE vf q.First, rdE vg q.Goal, rdE va q.Acts, rdE vl plan] H66 := St.fin hS67
      have hS69 : St H0 NoB NoB [rowE 4 vB (Lb : List Bool), rdE v65 ([decide ((k : Int) = (nth plan t))] : List Bool), blkE g14 (.cells #[I ((doF q (plan.length : Int)).1), I ((doF q (plan.length : Int)).2)] 27), blkE g27 (.cells #[I ((doV q (plan.length : Int))), r23] 58), rdE r23 (doC q (plan.length : Int)), blkE g1 (.cells #[I (q.Facts), vf, vg, va] 25), rdE vf q.First, rdE vg q.Goal, rdE va q.Acts, rdE vl plan] H66 := (hS68.front 1 rfl)
      refine wpL_o rfl ?_
      refine e_append rfl Try.underlying29 em_Bool_4_StepsThere1 rfl rfl hS69 (hS69.rdS 1 rfl) (fun _ h => h) (by have hb : GoT.bytes Bool = 1 := rfl; rw [eb]; simp [hb]; omega) (by decide) (fun v70 H71 hS72 hxx => ?_)
      replace hS72 : St H0 NoB NoB [rowE 4 v70 (Lb ++ ([decide ((k : Int) = (nth plan t))]) : List Bool), rdE v65 ([decide ((k : Int) = (nth plan t))] : List Bool), blkE g14 (.cells #[I ((doF q (plan.length : Int)).1), I ((doF q (plan.length : Int)).2)] 27), blkE g27 (.cells #[I ((doV q (plan.length : Int))), r23] 58), rdE r23 (doC q (plan.length : Int)), blkE g1 (.cells #[I (q.Facts), vf, vg, va] 25), rdE vf q.First, rdE vg q.Goal, rdE va q.Acts, rdE vl plan] H71 := hS72
      refine wpL_q (U := NoB) rfl (q_assign (v := v70) rfl rfl) ?_
      exact ⟨v70, a63_1, a63_2, a63_7, a63_8, a63_9, rfl, a63_15, a63_16, (hS72.drop (sk (sn (sk (sk (sk (sk (sk (sk (sk (sk (List.Sublist.slnil))))))))))))⟩
    rintro f73 H73 ⟨v70, a73_1, a73_2, a73_7, a73_8, a73_9, a73_10, a73_15, a73_16, hS73⟩
    clear a63_1 a63_10 a63_15 a63_16 a63_2 a63_7 a63_78 a63_8 a63_9
    refine wpF_cut (fun f H => f 1 = vl ∧ f 2 = PT g1 0 ∧ f 7 = B (walkOk q plan) ∧ f 8 = PT g14 0 ∧ f 9 = PT g27 0 ∧ f 10 = v70 ∧ f 15 = I ((t : Int)) ∧ f 16 = I ((k : Int) + 1) ∧ H73 = H) ?_ ?_
    · refine wpF_region ?_
      refine wpL_q (U := NoB) rfl (q_move (v := I ((k : Int))) rfl a73_16) ?_
      refine wpL_q (U := NoB) rfl (q_add rfl rfl rfl (by constructor <;> omega)) ?_
      refine wpL_q (U := NoB) rfl (q_assign (v := I ((k : Int) + 1)) rfl rfl) ?_
      exact ⟨a73_1, a73_2, a73_7, a73_8, a73_9, a73_10, a73_15, rfl, rfl⟩
    rintro f74 _ ⟨a74_1, a74_2, a74_7, a74_8, a74_9, a74_10, a74_15, a74_16, rfl⟩
    clear a73_1 a73_10 a73_15 a73_16 a73_2 a73_7 a73_8 a73_9
    refine ⟨_, ?_, k + 1, v70, Lb ++ ([decide ((k : Int) = (nth plan t))]), rfl, (by omega), (by rw [eb, thereK_next]), a74_1, a74_2, a74_7, a74_8, a74_9, a74_10, a74_15, (Eq.trans a74_16 (congrArg I (by omega))), (show St H0 NoB NoB [rowE 4 v70 ((Lb ++ ([decide ((k : Int) = (nth plan t))])) : List Bool), blkE g14 (.cells #[I ((doF q (plan.length : Int)).1), I ((doF q (plan.length : Int)).2)] 27), blkE g27 (.cells #[I ((doV q (plan.length : Int))), r23] 58), rdE r23 (doC q (plan.length : Int)), blkE g1 (.cells #[I (q.Facts), vf, vg, va] 25), rdE vf q.First, rdE vg q.Goal, rdE va q.Acts, rdE vl plan] H73 from hS73)⟩
    omega
  refine wpF_exit ?_
  refine atX_here ?_
  refine wpF_seq ?_
  refine wpF_seq ?_
  refine wpF_cut (fun f H => f 1 = vl ∧ f 2 = PT g1 0 ∧ f 8 = PT g14 0 ∧ f 10 = vA ∧ f 102 = B (decide (((La.length : Int) ≠ (doV q (plan.length : Int))) ∨ ((heldB (doC q (plan.length : Int)) La) ≠ (walkOk q plan)))) ∧ St H0 NoB NoB [rowE 4 vA (La : List Bool), blkE g14 (.cells #[I ((doF q (plan.length : Int)).1), I ((doF q (plan.length : Int)).2)] 27), blkE g27 (.cells #[I ((doV q (plan.length : Int))), r23] 58), rdE r23 (doC q (plan.length : Int)), blkE g1 (.cells #[I (q.Facts), vf, vg, va] 25), rdE vf q.First, rdE vg q.Goal, rdE va q.Acts, rdE vl plan] H) ?_ ?_
  · refine wpF_region ?_
    refine wpL_q (U := NoB) rfl (q_move (v := vA) rfl a59_10) ?_
    refine wpL_q (U := NoB) rfl (q_lenRd rfl Try.underlying29 rfl (hS58.rowl 0 rfl)) ?_
    refine wpL_q (U := NoB) rfl (q_fieldAddr rfl Try.underlying58 rfl Try.sizeOf3 a59_9) ?_
    refine wpL_q (U := NoB) rfl (q_loadBlk rfl rfl Try.isAgg3 (hS58.blk 2 rfl) rfl (fun h => h)) ?_
    refine wpL_q (U := NoB) rfl (q_neq rfl rfl rfl) ?_
    refine wpL_q (U := NoB) rfl (q_move (v := B (decide ((La.length : Int) ≠ (doV q (plan.length : Int))))) rfl rfl) ?_
    by_cases hg77 : (La.length : Int) ≠ (doV q (plan.length : Int))
    · have hb78 := Eq.trans rfl (congrArg B (decide_eq_true hg77))
      refine wpL_gs rfl rfl rfl hb78 rfl ?_
      refine wpL_gs rfl rfl rfl hb78 rfl ?_
      refine wpL_gs rfl rfl rfl hb78 rfl ?_
      refine wpL_gs rfl rfl rfl hb78 rfl ?_
      refine wpL_gs rfl rfl rfl hb78 rfl ?_
      refine wpL_gs rfl rfl rfl hb78 rfl ?_
      refine wpL_q (U := NoB) rfl (q_pickT (v := B (true)) rfl hb78 rfl) ?_
      exact ⟨a59_1, a59_2, a59_8, a59_10, (Eq.trans rfl (congrArg B ((decide_eq_true (Or.inl hg77)).symm))), hS58⟩
    · have hb79 := Eq.trans rfl (congrArg B (decide_eq_false hg77))
      refine wpL_gq (U := NoB) rfl rfl rfl hb79 (q_fieldAddr rfl Try.underlying58 rfl Try.sizeOf56 a59_9) ?_
      refine wpL_gq (U := NoB) rfl rfl rfl hb79 (q_loadBlk rfl rfl Try.isAgg56 (hS58.blk 2 rfl) rfl (fun h => h)) ?_
      refine wpL_gq (U := NoB) rfl rfl rfl hb79 (q_move (v := vA) rfl a59_10) ?_
      refine wpL_go rfl rfl rfl hb79 ?_
      refine e_call rfl Try.call37 (arr2 (v0 := r23) (v1 := vA) rfl rfl) (Held_R r23 vA _ _ (hS58.rdN 3 rfl) (hS58.rowN 0 rfl) doC_small) ?_
      rintro _ H80 ⟨hxx, rfl⟩
      have hS81 : St H0 NoB NoB [rowE 4 vA (La : List Bool), blkE g14 (.cells #[I ((doF q (plan.length : Int)).1), I ((doF q (plan.length : Int)).2)] 27), blkE g27 (.cells #[I ((doV q (plan.length : Int))), r23] 58), rdE r23 (doC q (plan.length : Int)), blkE g1 (.cells #[I (q.Facts), vf, vg, va] 25), rdE vf q.First, rdE vg q.Goal, rdE va q.Acts, rdE vl plan] H80 := hS58.ext hxx
      refine wpL_gq (U := NoB) rfl rfl rfl hb79 (q_move (v := B (walkOk q plan)) rfl a59_7) ?_
      refine wpL_gq (U := NoB) rfl rfl rfl hb79 (q_neqB rfl Try.underlying4 rfl rfl) ?_
      refine wpL_q (U := NoB) rfl (q_pickF (v := B (decide ((heldB (doC q (plan.length : Int)) La) ≠ (walkOk q plan)))) rfl hb79 rfl) ?_
      exact ⟨a59_1, a59_2, a59_8, a59_10, (Eq.trans rfl (congrArg B (decide_congr_of ((Iff.rfl).trans (((or_iff_right hg77).trans Iff.rfl)).symm)))), hS81⟩
  rintro f83 H83 ⟨a83_1, a83_2, a83_8, a83_10, a83_102, hS83⟩
  clear a59_1 a59_10 a59_15 a59_2 a59_7 a59_71 a59_8 a59_9
  refine wpF_condP a83_102 (fun h102 => ?t101) (fun h102 => ?e101)
  case t101 =>
    refine wpF_seq ?_
    refine wpF_cut (fun f H => f 4 = B (false) ∧ H83 = H) ?_ ?_
    · refine wpF_region ?_
      refine wpL_q (U := NoB) rfl (q_assign (v := B (false)) rfl rfl) ?_
      exact ⟨rfl, rfl⟩
    rintro f85 _ ⟨a85_4, rfl⟩
    clear a83_1 a83_10 a83_102 a83_2 a83_8
    refine wpF_ret ?_
    refine ⟨_, resT a85_4 resN, hS83.frame, ?_⟩
    show (B (false)) = B true
    exfalso
    rw [ea, show t = plan.length by omega, thereT_all] at h102
    exact h102.elim (fun h => h htl.1) (fun h => h (by rw [htl.2.1]))
  refine wpF_skip ?_
  refine wpF_seq ?_
  refine wpF_cut (fun f H => ∃ (r87 : Value), f 1 = vl ∧ f 8 = PT g14 0 ∧ f 17 = r87 ∧ St H0 NoB NoB [blkE g14 (.cells #[I ((backF q (plan.length : Int) La).1), I ((backF q (plan.length : Int) La).2)] 27), rdE r87 (backP q (plan.length : Int) La), blkE g27 (.cells #[I ((doV q (plan.length : Int))), r23] 58), rdE r23 (doC q (plan.length : Int)), blkE g1 (.cells #[I (q.Facts), vf, vg, va] 25), rdE vf q.First, rdE vg q.Goal, rdE va q.Acts, rdE vl plan] H) ?_ ?_
  · refine wpF_region ?_
    refine wpL_q (U := NoB) rfl (q_loadBlkA rfl a83_2 Try.isAgg25 Try.sizeOf25 rfl (hS83.blk 4 rfl) (fun h => h)) ?_
    refine wpL_q (U := NoB) rfl (q_move (v := vl) rfl a83_1) ?_
    refine wpL_q (U := NoB) rfl (q_lenRd rfl Try.underlying22 rfl (hS83.rdl 8 rfl)) ?_
    refine wpL_q (U := NoB) rfl (q_move (v := vA) rfl a83_10) ?_
    have hS86 : St H0 NoB NoB [rdE vA La, blkE g14 (.cells #[I ((doF q (plan.length : Int)).1), I ((doF q (plan.length : Int)).2)] 27), blkE g27 (.cells #[I ((doV q (plan.length : Int))), r23] 58), rdE r23 (doC q (plan.length : Int)), blkE g1 (.cells #[I (q.Facts), vf, vg, va] 25), rdE vf q.First, rdE vg q.Goal, rdE va q.Acts, rdE vl plan] H83 := St.fin hS83
    refine wpL_o rfl ?_
    refine e_call rfl Try.call33 (arr3 (v0 := Value.agg #[I (q.Facts), vf, vg, va]) (v1 := I ((plan.length : Int))) (v2 := vA) rfl rfl rfl) (Back_E vf vg va vA q (plan.length : Int) La (by first | assumption | (constructor <;> omega)) (hS86.rdS 5 rfl) (hS86.rdS 6 rfl) (hS86.rdS 7 rfl) (hS86.rdS 0 rfl) (by constructor <;> omega)) ?_
    rintro _ H88 ⟨hxx, r87, rfl, hrr87⟩
    have hS89 : St H0 NoB NoB [rdE r87 (backP q (plan.length : Int) La), rdE vA La, blkE g14 (.cells #[I ((doF q (plan.length : Int)).1), I ((doF q (plan.length : Int)).2)] 27), blkE g27 (.cells #[I ((doV q (plan.length : Int))), r23] 58), rdE r23 (doC q (plan.length : Int)), blkE g1 (.cells #[I (q.Facts), vf, vg, va] 25), rdE vf q.First, rdE vg q.Goal, rdE va q.Acts, rdE vl plan] H88 := (hS86.res hxx hrr87)
    refine wpL_q (U := NoB) rfl (q_move (v := Value.tuple #[r87, Value.agg #[I ((backF q (plan.length : Int) La).1), I ((backF q (plan.length : Int) La).2)]]) rfl rfl) ?_
    refine wpL_q (U := NoB) rfl (q_extract (vs := #[r87, Value.agg #[I ((backF q (plan.length : Int) La).1), I ((backF q (plan.length : Int) La).2)]]) (v := r87) rfl rfl rfl) ?_
    refine wpL_q (U := NoB) rfl (q_extract (vs := #[r87, Value.agg #[I ((backF q (plan.length : Int) La).1), I ((backF q (plan.length : Int) La).2)]]) (v := Value.agg #[I ((backF q (plan.length : Int) La).1), I ((backF q (plan.length : Int) La).2)]) rfl rfl rfl) ?_
    refine wpL_q (U := NoB) rfl (q_assign (v := r87) rfl rfl) ?_
    refine wpL_o rfl ?_
    refine e_storeBlkA (cs' := #[I ((backF q (plan.length : Int) La).1), I ((backF q (plan.length : Int) La).2)]) rfl a83_8 rfl Try.sizeOf27 rfl rfl (List.forall_mem_cons.2 ⟨rfl, List.forall_mem_cons.2 ⟨rfl, List.forall_mem_nil _⟩⟩) (hS89.front 2 rfl) (fun H91 hS92 hxx => ?_)
    replace hS92 : St H0 NoB NoB [blkE g14 (.cells #[I ((backF q (plan.length : Int) La).1), I ((backF q (plan.length : Int) La).2)] 27), rdE r87 (backP q (plan.length : Int) La), rdE vA La, blkE g27 (.cells #[I ((doV q (plan.length : Int))), r23] 58), rdE r23 (doC q (plan.length : Int)), blkE g1 (.cells #[I (q.Facts), vf, vg, va] 25), rdE vf q.First, rdE vg q.Goal, rdE va q.Acts, rdE vl plan] H91 := hS92
    exact ⟨r87, a83_1, a83_8, rfl, (hS92.drop (sk (sk (sn (sk (sk (sk (sk (sk (sk (sk (List.Sublist.slnil))))))))))))⟩
  rintro f93 H93 ⟨r87, a93_1, a93_8, a93_17, hS93⟩
  clear a83_1 a83_10 a83_102 a83_2 a83_8
  refine wpF_seq ?_
  refine wpF_cut (fun f H => f 4 = B (decide ((((backF q (plan.length : Int) La).1) = 0) ∧ ((backP q (plan.length : Int) La) = plan))) ∧ St H0 NoB NoB [blkE g14 (.cells #[I ((backF q (plan.length : Int) La).1), I ((backF q (plan.length : Int) La).2)] 27), blkE g27 (.cells #[I ((doV q (plan.length : Int))), r23] 58), rdE r23 (doC q (plan.length : Int)), blkE g1 (.cells #[I (q.Facts), vf, vg, va] 25), rdE vf q.First, rdE vg q.Goal, rdE va q.Acts, rdE vl plan] H) ?_ ?_
  · refine wpF_region ?_
    refine wpL_q (U := NoB) rfl (q_fieldAddr rfl Try.underlying27 rfl Try.sizeOf3 a93_8) ?_
    refine wpL_q (U := NoB) rfl (q_loadBlk rfl rfl Try.isAgg3 (hS93.blk 0 rfl) rfl (fun h => h)) ?_
    refine wpL_q (U := NoB) rfl (q_eql rfl rfl rfl) ?_
    refine wpL_q (U := NoB) rfl (q_move (v := B (decide (((backF q (plan.length : Int) La).1) = 0))) rfl rfl) ?_
    by_cases hg94 : ((backF q (plan.length : Int) La).1) = 0
    · have hb95 := Eq.trans rfl (congrArg B (decide_eq_true hg94))
      refine wpL_gq (U := NoB) rfl rfl rfl hb95 (q_move (v := r87) rfl a93_17) ?_
      refine wpL_gq (U := NoB) rfl rfl rfl hb95 (q_move (v := vl) rfl a93_1) ?_
      refine wpL_go rfl rfl rfl hb95 ?_
      refine e_call rfl Try.call26 (arr2 (v0 := r87) (v1 := vl) rfl rfl) (Ints_R r87 vl _ _ (hS93.rdN 1 rfl) (hS93.rdN 8 rfl)) ?_
      rintro _ H97 ⟨hxx, rfl⟩
      have hS98 : St H0 NoB NoB [blkE g14 (.cells #[I ((backF q (plan.length : Int) La).1), I ((backF q (plan.length : Int) La).2)] 27), rdE r87 (backP q (plan.length : Int) La), blkE g27 (.cells #[I ((doV q (plan.length : Int))), r23] 58), rdE r23 (doC q (plan.length : Int)), blkE g1 (.cells #[I (q.Facts), vf, vg, va] 25), rdE vf q.First, rdE vg q.Goal, rdE va q.Acts, rdE vl plan] H97 := hS93.ext hxx
      refine wpL_q (U := NoB) rfl (q_pickT (v := B (decide ((backP q (plan.length : Int) La) = plan))) rfl hb95 rfl) ?_
      refine wpL_q (U := NoB) rfl (q_assign (v := B (decide ((backP q (plan.length : Int) La) = plan))) rfl rfl) ?_
      exact ⟨(Eq.trans rfl (congrArg B (decide_congr_of ((Iff.rfl).trans (((and_iff_right hg94).trans Iff.rfl)).symm)))), (hS98.drop (sk (sn (sk (sk (sk (sk (sk (sk (sk (List.Sublist.slnil)))))))))))⟩
    · have hb96 := Eq.trans rfl (congrArg B (decide_eq_false hg94))
      refine wpL_gs rfl rfl rfl hb96 rfl ?_
      refine wpL_gs rfl rfl rfl hb96 rfl ?_
      refine wpL_gs rfl rfl rfl hb96 rfl ?_
      refine wpL_q (U := NoB) rfl (q_pickF (v := B (false)) rfl hb96 rfl) ?_
      refine wpL_q (U := NoB) rfl (q_assign (v := B (false)) rfl rfl) ?_
      exact ⟨(Eq.trans rfl (congrArg B ((decide_eq_false (fun h => hg94 h.1)).symm))), (hS93.drop (sk (sn (sk (sk (sk (sk (sk (sk (sk (List.Sublist.slnil)))))))))))⟩
  rintro f100 H100 ⟨a100_4, hS100⟩
  clear a93_1 a93_17 a93_8
  refine wpF_ret ?_
  refine ⟨_, resT a100_4 resN, hS100.frame, ?_⟩
  show (B (decide ((((backF q (plan.length : Int) La).1) = 0) ∧ ((backP q (plan.length : Int) La) = plan)))) = B true
  rw [ea, show t = plan.length by omega, thereT_all]
  exact congrArg B (decide_eq_true (by rw [htl.2.2.1, htl.2.2.2]; simp))

end Go.Um
