import Derived.Test.YtpdcejallbbncaaProg
import Derived.Test.YtpdcejallbbncaaBestD1
import Derived.Test.YtpdcejallbbncaaActParts1
import Derived.Test.YtpdcejallbbncaaUmSub
namespace Go.Um
open Go.Proofs
open GoT (sz ag rdc)
open KeyT (kv)

theorem em_Int_3_BestPlans1 : ElemOk Try.prog Int 3 := ⟨Try.t3, (.int .i64 0), by kernel_rfl, by kernel_rfl, by kernel_rfl, by kernel_rfl, by kernel_rfl⟩

set_option maxRecDepth 100000 in
theorem bestFact {H0 : Heap}   : CallsH Try.prog 29 #[] H0 (fun rv_ H' => Ext NoB H0 H' ∧ rv_ = B true) := by
  have h6qq : In64 questQ.Facts := by decide
  have hS0 : St H0 NoB NoB [] H0 := St.start (fun _ h => h.elim)
  refine callsH_of_wpF (args := []) (rs := [.tmp 0]) Try.func29 rfl Try.ntmps29 Try.results29 (by kernel_rfl) (Nat.le_of_ble_eq_true rfl) ?_
  generalize argF [] = f0 at *
  refine wpF_seq ?_
  refine wpF_cut (fun f H => H0 = H) ?_ ?_
  · refine wpF_region ?_
    refine wpL_q (U := NoB) rfl (q_assign (v := B (false)) rfl rfl) ?_
    exact rfl
  rintro f1 _ rfl
  refine wpF_seq ?_
  refine wpF_cut (fun f H => ∃ (r8 : Value), ∃ (r8p : List Int), ∃ (r8s : Int), ∃ (g12 : Nat), (DoOk questQ r8s r8p) ∧ f 1 = I (r8s) ∧ f 2 = r8 ∧ f 3 = PT g12 0 ∧ St H0 NoB NoB [blkE g12 (.cells #[I ((questFault questQ).1), I ((questFault questQ).2)] 27), rdE r8 r8p] H) ?_ ?_
  · refine wpF_region ?_
    refine wpL_o rfl ?_
    refine e_call rfl Try.call31 arr0 (quest_L (S := SL NoB [])) ?_
    rintro _ H5 ⟨hxx, r2, r3, r4, rfl, hrr2, hrr3, hrr4⟩
    have hS6 : St H0 NoB NoB [rdE r2 questQ.First, rdE r3 questQ.Goal, rdE r4 questQ.Acts] H5 := ((((hS0.ext hxx).rd (hrr4.sub fun b hb => ⟨hb, SL.lt hS0 hb⟩)).rd (hrr3.sub fun b hb => ⟨(SL_rd hb), SL.lt hS0 (SL_rd hb)⟩)).rd (hrr2.sub fun b hb => ⟨(SL_rd (SL_rd hb)), SL.lt hS0 (SL_rd (SL_rd hb))⟩))
    refine wpL_o rfl ?_
    refine e_call rfl Try.call27 (arr1 (v0 := Value.agg #[I (questQ.Facts), r2, r3, r4]) rfl) (Do_L r2 r3 r4 questQ (by first | assumption | (constructor <;> omega)) (hS6.rdS 0 rfl) (hS6.rdS 1 rfl) (hS6.rdS 2 rfl)) ?_
    rintro _ H9 ⟨hxx, r8, r8p, r8s, rfl, hrr8, hDr8⟩
    have hS10 : St H0 NoB NoB [rdE r8 r8p, rdE r2 questQ.First, rdE r3 questQ.Goal, rdE r4 questQ.Acts] H9 := (hS6.res hxx hrr8)
    refine wpL_q (U := NoB) rfl (q_move (v := Value.tuple #[I (r8s), r8, Value.agg #[I ((questFault questQ).1), I ((questFault questQ).2)]]) rfl rfl) ?_
    refine wpL_q (U := NoB) rfl (q_extract (vs := #[I (r8s), r8, Value.agg #[I ((questFault questQ).1), I ((questFault questQ).2)]]) (v := I (r8s)) rfl rfl rfl) ?_
    refine wpL_q (U := NoB) rfl (q_extract (vs := #[I (r8s), r8, Value.agg #[I ((questFault questQ).1), I ((questFault questQ).2)]]) (v := r8) rfl rfl rfl) ?_
    refine wpL_q (U := NoB) rfl (q_extract (vs := #[I (r8s), r8, Value.agg #[I ((questFault questQ).1), I ((questFault questQ).2)]]) (v := Value.agg #[I ((questFault questQ).1), I ((questFault questQ).2)]) rfl rfl rfl) ?_
    refine wpL_o rfl ?_
    refine e_alloc rfl Try.zeroValue27 hS10 (fun g12 H13 hS14 hxx => ?_)
    replace hS14 : St H0 NoB NoB [blkE g12 (.cells #[I (0), I (0)] 27), rdE r8 r8p, rdE r2 questQ.First, rdE r3 questQ.Goal, rdE r4 questQ.Acts] H13 := hS14
    refine wpL_q (U := NoB) rfl (q_assign (v := I (r8s)) rfl rfl) ?_
    refine wpL_q (U := NoB) rfl (q_assign (v := r8) rfl rfl) ?_
    refine wpL_o rfl ?_
    refine e_storeBlkA (cs' := #[I ((questFault questQ).1), I ((questFault questQ).2)]) rfl rfl rfl Try.sizeOf27 rfl rfl (List.forall_mem_cons.2 ⟨rfl, List.forall_mem_cons.2 ⟨rfl, List.forall_mem_nil _⟩⟩) hS14 (fun H15 hS16 hxx => ?_)
    replace hS16 : St H0 NoB NoB [blkE g12 (.cells #[I ((questFault questQ).1), I ((questFault questQ).2)] 27), rdE r8 r8p, rdE r2 questQ.First, rdE r3 questQ.Goal, rdE r4 questQ.Acts] H15 := hS16
    exact ⟨r8, r8p, r8s, g12, hDr8, rfl, rfl, rfl, (hS16.drop (sk (sk (sn (sn (sn (List.Sublist.slnil)))))))⟩
  rintro f17 H17 ⟨r8, r8p, r8s, g12, hDr8, a17_1, a17_2, a17_3, hS17⟩
  obtain ⟨e1, e2⟩ := quest_do hDr8
  refine wpF_seq ?_
  refine wpF_cut (fun f H => f 0 = B (decide (((((questFault questQ).1) = 0) ∧ (r8s = 1)) ∧ (r8p = ([0])))) ∧ St H0 NoB NoB [blkE g12 (.cells #[I ((questFault questQ).1), I ((questFault questQ).2)] 27), rdE r8 r8p] H) ?_ ?_
  · refine wpF_region ?_
    refine wpL_q (U := NoB) rfl (q_fieldAddr rfl Try.underlying27 rfl Try.sizeOf3 a17_3) ?_
    refine wpL_q (U := NoB) rfl (q_loadBlk rfl rfl Try.isAgg3 (hS17.blk 0 rfl) rfl (fun h => h)) ?_
    refine wpL_q (U := NoB) rfl (q_eql rfl rfl rfl) ?_
    refine wpL_q (U := NoB) rfl (q_move (v := B (decide (((questFault questQ).1) = 0))) rfl rfl) ?_
    by_cases hg18 : ((questFault questQ).1) = 0
    · have hb19 := Eq.trans rfl (congrArg B (decide_eq_true hg18))
      refine wpL_gq (U := NoB) rfl rfl rfl hb19 (q_move (v := I (r8s)) rfl a17_1) ?_
      refine wpL_gq (U := NoB) rfl rfl rfl hb19 (q_eql rfl rfl rfl) ?_
      refine wpL_q (U := NoB) rfl (q_pickT (v := B (decide (r8s = 1))) rfl hb19 rfl) ?_
      refine wpL_q (U := NoB) rfl (q_move (v := B (decide (r8s = 1))) rfl rfl) ?_
      by_cases hg21 : r8s = 1
      · have hb22 := Eq.trans rfl (congrArg B (decide_eq_true hg21))
        refine wpL_gq (U := NoB) rfl rfl rfl hb22 (q_move (v := r8) rfl a17_2) ?_
        refine wpL_go rfl rfl rfl hb22 ?_
        refine e_buildSlice (vs := [I (0)]) (xs := ([0] : List Int)) rfl Try.underlying22 Try.zeroValue3 rfl Try.sizeOf3 (par1 (v0 := I (0)) rfl) rfl hS17 (RdVs.cons (Rd.int.2 ⟨rfl, by constructor <;> omega⟩) (RdVs.nil)) (by decide) (by decide) (fun v24 H25 hS26 hxx hvv24 => ?_)
        replace hS26 : St H0 NoB NoB [rowE 3 v24 ([0] : List Int), blkE g12 (.cells #[I ((questFault questQ).1), I ((questFault questQ).2)] 27), rdE r8 r8p] H25 := hS26
        refine wpL_go rfl rfl rfl hb22 ?_
        refine e_call rfl Try.call26 (arr2 (v0 := r8) (v1 := v24) rfl rfl) (Ints_R r8 v24 _ _ (hS26.rdN 2 rfl) (hS26.rowN 0 rfl)) ?_
        rintro _ H27 ⟨hxx, rfl⟩
        have hS28 : St H0 NoB NoB [rowE 3 v24 ([0] : List Int), blkE g12 (.cells #[I ((questFault questQ).1), I ((questFault questQ).2)] 27), rdE r8 r8p] H27 := hS26.ext hxx
        refine wpL_q (U := NoB) rfl (q_pickT (v := B (decide (r8p = ([0])))) rfl hb22 rfl) ?_
        refine wpL_q (U := NoB) rfl (q_assign (v := B (decide (r8p = ([0])))) rfl rfl) ?_
        exact ⟨(Eq.trans rfl (congrArg B (decide_congr_of ((Iff.rfl).trans (((and_iff_right ⟨hg18, hg21⟩).trans Iff.rfl)).symm)))), (hS28.drop (sn (sk (sk (List.Sublist.slnil)))))⟩
      · have hb23 := Eq.trans rfl (congrArg B (decide_eq_false hg21))
        refine wpL_gs rfl rfl rfl hb23 rfl ?_
        refine wpL_gs rfl rfl rfl hb23 rfl ?_
        refine wpL_gs rfl rfl rfl hb23 rfl ?_
        refine wpL_q (U := NoB) rfl (q_pickF (v := B (false)) rfl hb23 rfl) ?_
        refine wpL_q (U := NoB) rfl (q_assign (v := B (false)) rfl rfl) ?_
        exact ⟨(Eq.trans rfl (congrArg B ((decide_eq_false (fun h => (fun h => hg21 h.2) h.1)).symm))), hS17⟩
    · have hb20 := Eq.trans rfl (congrArg B (decide_eq_false hg18))
      refine wpL_gs rfl rfl rfl hb20 rfl ?_
      refine wpL_gs rfl rfl rfl hb20 rfl ?_
      refine wpL_q (U := NoB) rfl (q_pickF (v := B (false)) rfl hb20 rfl) ?_
      refine wpL_q (U := NoB) rfl (q_move (v := B (false)) rfl rfl) ?_
      refine wpL_gs rfl rfl rfl rfl rfl ?_
      refine wpL_gs rfl rfl rfl rfl rfl ?_
      refine wpL_gs rfl rfl rfl rfl rfl ?_
      refine wpL_q (U := NoB) rfl (q_pickF (v := B (false)) rfl rfl rfl) ?_
      refine wpL_q (U := NoB) rfl (q_assign (v := B (false)) rfl rfl) ?_
      exact ⟨(Eq.trans rfl (congrArg B ((decide_eq_false (fun h => (fun h => hg18 h.1) h.1)).symm))), hS17⟩
  rintro f30 H30 ⟨a30_0, hS30⟩
  clear a17_1 a17_2 a17_3
  refine wpF_ret ?_
  refine ⟨_, resT a30_0 resN, hS30.frame, ?_⟩
  show (B (decide (((((questFault questQ).1) = 0) ∧ (r8s = 1)) ∧ (r8p = ([0]))))) = B true
  exact congrArg B (decide_eq_true (by simp [e1, e2, questQ_far.2.2]))

set_option maxHeartbeats 1000000 in
set_option maxRecDepth 100000 in
theorem BestPlans_L {H0 : Heap} (vf vg va vl : Value) (q : Quest) (plan : List Int) (h6qFacts : In64 q.Facts) (rvf : Rd NoB H0 vf q.First) (rvg : Rd NoB H0 vg q.Goal) (rva : Rd NoB H0 va q.Acts) (rl : Rd NoB H0 vl plan) : CallsH Try.prog 7 #[Value.agg #[I (q.Facts), vf, vg, va], vl] H0 (fun rv_ H' => Ext NoB H0 H' ∧ rv_ = B true) := by
  have hsl := (Rd.list.1 rl).small
  have hsa := (Rd.list.1 rva).small
  have hpb := (Rd.list.1 rl).bound
  have hS0 : St H0 NoB NoB [rdE vf q.First, rdE vg q.Goal, rdE va q.Acts, rdE vl plan] H0 := St.arg (St.arg (St.arg (St.arg (St.start (fun _ h => h.elim)) (Bl0.nil) rl (fun _ h => h)) (Bl0.cons (Bl0.nil)) rva (fun _ h => h)) (Bl0.cons (Bl0.cons (Bl0.nil))) rvg (fun _ h => h)) (Bl0.cons (Bl0.cons (Bl0.cons (Bl0.nil)))) rvf (fun _ h => h)
  refine callsH_of_wpF (args := [Value.agg #[I (q.Facts), vf, vg, va], vl]) (rs := [.tmp 4]) Try.func7 rfl Try.ntmps7 Try.results7 (by kernel_rfl) (Nat.le_of_ble_eq_true rfl) ?_
  have a0_0 : argF [Value.agg #[I (q.Facts), vf, vg, va], vl] 0 = Value.agg #[I (q.Facts), vf, vg, va] := rfl
  have a0_1 : argF [Value.agg #[I (q.Facts), vf, vg, va], vl] 1 = vl := rfl
  generalize argF [Value.agg #[I (q.Facts), vf, vg, va], vl] = f0 at *
  refine wpF_seq ?_
  refine wpF_cut (fun f H => ∃ (g1 : Nat), f 1 = vl ∧ f 2 = PT g1 0 ∧ St H0 NoB NoB [blkE g1 (.cells #[I (q.Facts), vf, vg, va] 25), rdE vf q.First, rdE vg q.Goal, rdE va q.Acts, rdE vl plan] H) ?_ ?_
  · refine wpF_region ?_
    refine wpL_o rfl ?_
    refine e_box (v := Value.agg #[I (q.Facts), vf, vg, va]) rfl a0_0 hS0 (fun g1 H2 hS3 hxx => ?_)
    replace hS3 : St H0 NoB NoB [blkE g1 (.cells #[I (q.Facts), vf, vg, va] 25), rdE vf q.First, rdE vg q.Goal, rdE va q.Acts, rdE vl plan] H2 := hS3
    refine wpL_q (U := NoB) rfl (q_assign (v := B (false)) rfl rfl) ?_
    exact ⟨g1, a0_1, rfl, hS3⟩
  rintro f4 H4 ⟨g1, a4_1, a4_2, hS4⟩
  clear a0_0 a0_1
  refine wpF_seq ?_
  refine wpF_cut (fun f H => f 1 = vl ∧ f 2 = PT g1 0 ∧ f 5 = B (true) ∧ St H0 NoB NoB [blkE g1 (.cells #[I (q.Facts), vf, vg, va] 25), rdE vf q.First, rdE vg q.Goal, rdE va q.Acts, rdE vl plan] H) ?_ ?_
  · refine wpF_region ?_
    refine wpL_o rfl ?_
    refine e_call rfl Try.call29 arr0 (bestFact) ?_
    rintro _ H5 ⟨hxx, rfl⟩
    have hS6 : St H0 NoB NoB [blkE g1 (.cells #[I (q.Facts), vf, vg, va] 25), rdE vf q.First, rdE vg q.Goal, rdE va q.Acts, rdE vl plan] H5 := hS4.ext hxx
    refine wpL_q (U := NoB) rfl (q_assign (v := B (true)) rfl rfl) ?_
    exact ⟨a4_1, a4_2, rfl, hS6⟩
  rintro f8 H8 ⟨a8_1, a8_2, a8_5, hS8⟩
  clear a4_1 a4_2
  refine wpF_seq ?_
  refine wpF_seq ?_
  refine wpF_cut (fun f H => f 1 = vl ∧ f 2 = PT g1 0 ∧ f 15 = B (false) ∧ H8 = H) ?_ ?_
  · refine wpF_region ?_
    refine wpL_q (U := NoB) rfl (q_move (v := B (true)) rfl a8_5) ?_
    refine wpL_q (U := NoB) rfl (q_not rfl rfl) ?_
    exact ⟨a8_1, a8_2, rfl, rfl⟩
  rintro f9 _ ⟨a9_1, a9_2, a9_15, rfl⟩
  clear a8_1 a8_2 a8_5
  refine wpF_condF a9_15 ?_
  refine wpF_skip ?_
  refine wpF_seq ?_
  refine wpF_cut (fun f H => ∃ (r10 : Value), ∃ (r10p : List Int), ∃ (r10s : Int), ∃ (g14 : Nat), (DoOk q r10s r10p) ∧ f 1 = vl ∧ f 2 = PT g1 0 ∧ f 6 = I (r10s) ∧ f 7 = r10 ∧ f 8 = PT g14 0 ∧ St H0 NoB NoB [blkE g14 (.cells #[I ((questFault q).1), I ((questFault q).2)] 27), rdE r10 r10p, blkE g1 (.cells #[I (q.Facts), vf, vg, va] 25), rdE vf q.First, rdE vg q.Goal, rdE va q.Acts, rdE vl plan] H) ?_ ?_
  · refine wpF_region ?_
    refine wpL_q (U := NoB) rfl (q_loadBlkA rfl a9_2 Try.isAgg25 Try.sizeOf25 rfl (hS8.blk 0 rfl) (fun h => h)) ?_
    refine wpL_o rfl ?_
    refine e_call rfl Try.call27 (arr1 (v0 := Value.agg #[I (q.Facts), vf, vg, va]) rfl) (Do_L vf vg va q (by first | assumption | (constructor <;> omega)) (hS8.rdS 1 rfl) (hS8.rdS 2 rfl) (hS8.rdS 3 rfl)) ?_
    rintro _ H11 ⟨hxx, r10, r10p, r10s, rfl, hrr10, hDr10⟩
    have hS12 : St H0 NoB NoB [rdE r10 r10p, blkE g1 (.cells #[I (q.Facts), vf, vg, va] 25), rdE vf q.First, rdE vg q.Goal, rdE va q.Acts, rdE vl plan] H11 := (hS8.res hxx hrr10)
    refine wpL_q (U := NoB) rfl (q_move (v := Value.tuple #[I (r10s), r10, Value.agg #[I ((questFault q).1), I ((questFault q).2)]]) rfl rfl) ?_
    refine wpL_q (U := NoB) rfl (q_extract (vs := #[I (r10s), r10, Value.agg #[I ((questFault q).1), I ((questFault q).2)]]) (v := I (r10s)) rfl rfl rfl) ?_
    refine wpL_q (U := NoB) rfl (q_extract (vs := #[I (r10s), r10, Value.agg #[I ((questFault q).1), I ((questFault q).2)]]) (v := r10) rfl rfl rfl) ?_
    refine wpL_q (U := NoB) rfl (q_extract (vs := #[I (r10s), r10, Value.agg #[I ((questFault q).1), I ((questFault q).2)]]) (v := Value.agg #[I ((questFault q).1), I ((questFault q).2)]) rfl rfl rfl) ?_
    refine wpL_o rfl ?_
    refine e_alloc rfl Try.zeroValue27 hS12 (fun g14 H15 hS16 hxx => ?_)
    replace hS16 : St H0 NoB NoB [blkE g14 (.cells #[I (0), I (0)] 27), rdE r10 r10p, blkE g1 (.cells #[I (q.Facts), vf, vg, va] 25), rdE vf q.First, rdE vg q.Goal, rdE va q.Acts, rdE vl plan] H15 := hS16
    refine wpL_q (U := NoB) rfl (q_assign (v := I (r10s)) rfl rfl) ?_
    refine wpL_q (U := NoB) rfl (q_assign (v := r10) rfl rfl) ?_
    refine wpL_o rfl ?_
    refine e_storeBlkA (cs' := #[I ((questFault q).1), I ((questFault q).2)]) rfl rfl rfl Try.sizeOf27 rfl rfl (List.forall_mem_cons.2 ⟨rfl, List.forall_mem_cons.2 ⟨rfl, List.forall_mem_nil _⟩⟩) hS16 (fun H17 hS18 hxx => ?_)
    replace hS18 : St H0 NoB NoB [blkE g14 (.cells #[I ((questFault q).1), I ((questFault q).2)] 27), rdE r10 r10p, blkE g1 (.cells #[I (q.Facts), vf, vg, va] 25), rdE vf q.First, rdE vg q.Goal, rdE va q.Acts, rdE vl plan] H17 := hS18
    exact ⟨r10, r10p, r10s, g14, hDr10, a9_1, a9_2, rfl, rfl, rfl, hS18⟩
  rintro f19 H19 ⟨r10, r10p, r10s, g14, hDr10, a19_1, a19_2, a19_6, a19_7, a19_8, hS19⟩
  clear a9_1 a9_15 a9_2
  have hD := hDr10
  refine wpF_seq ?_
  refine wpF_seq ?_
  refine wpF_cut (fun f H => f 1 = vl ∧ f 2 = PT g1 0 ∧ f 6 = I (r10s) ∧ f 7 = r10 ∧ f 8 = PT g14 0 ∧ f 24 = B (decide (((questFault q).1) ≠ 0)) ∧ H19 = H) ?_ ?_
  · refine wpF_region ?_
    refine wpL_q (U := NoB) rfl (q_fieldAddr rfl Try.underlying27 rfl Try.sizeOf3 a19_8) ?_
    refine wpL_q (U := NoB) rfl (q_loadBlk rfl rfl Try.isAgg3 (hS19.blk 0 rfl) rfl (fun h => h)) ?_
    refine wpL_q (U := NoB) rfl (q_neq rfl rfl rfl) ?_
    exact ⟨a19_1, a19_2, a19_6, a19_7, a19_8, rfl, rfl⟩
  rintro f20 _ ⟨a20_1, a20_2, a20_6, a20_7, a20_8, a20_24, rfl⟩
  clear a19_1 a19_2 a19_6 a19_7 a19_8
  refine wpF_condP a20_24 (fun h24 => ?t79) (fun h24 => ?e79)
  case t79 =>
    refine wpF_seq ?_
    refine wpF_cut (fun f H => f 4 = B (decide ((r10p.length : Int) = 0)) ∧ H19 = H) ?_ ?_
    · refine wpF_region ?_
      refine wpL_q (U := NoB) rfl (q_move (v := r10) rfl a20_7) ?_
      refine wpL_q (U := NoB) rfl (q_lenRd rfl Try.underlying22 rfl (hS19.rdl 1 rfl)) ?_
      refine wpL_q (U := NoB) rfl (q_eql rfl rfl rfl) ?_
      refine wpL_q (U := NoB) rfl (q_assign (v := B (decide ((r10p.length : Int) = 0))) rfl rfl) ?_
      exact ⟨rfl, rfl⟩
    rintro f22 _ ⟨a22_4, rfl⟩
    clear a20_1 a20_2 a20_24 a20_6 a20_7 a20_8
    refine wpF_ret ?_
    refine ⟨_, resT a22_4 resN, hS19.frame, ?_⟩
    show (B (decide ((r10p.length : Int) = 0))) = B true
    exact congrArg B (decide_eq_true (by rw [(hD.bad h24).2]; rfl))
  have hz : (questFault q).1 = 0 := Decidable.of_not_not h24
  refine wpF_skip ?_
  refine wpF_seq ?_
  refine wpF_cut (fun f H => f 1 = vl ∧ f 2 = PT g1 0 ∧ f 6 = I (r10s) ∧ f 7 = r10 ∧ f 8 = PT g14 0 ∧ f 10 = B (walkOk q plan) ∧ St H0 NoB NoB [blkE g14 (.cells #[I (((walkFault q plan)).1), I (((walkFault q plan)).2)] 27), rdE r10 r10p, blkE g1 (.cells #[I (q.Facts), vf, vg, va] 25), rdE vf q.First, rdE vg q.Goal, rdE va q.Acts, rdE vl plan] H) ?_ ?_
  · refine wpF_region ?_
    refine wpL_q (U := NoB) rfl (q_loadBlkA rfl a20_2 Try.isAgg25 Try.sizeOf25 rfl (hS19.blk 2 rfl) (fun h => h)) ?_
    refine wpL_q (U := NoB) rfl (q_move (v := vl) rfl a20_1) ?_
    refine wpL_o rfl ?_
    refine e_call rfl Try.call14 (arr2 (v0 := Value.agg #[I (q.Facts), vf, vg, va]) (v1 := vl) rfl rfl) (Walk_L vf vg va vl q plan (by first | assumption | (constructor <;> omega)) (hS19.rdS 3 rfl) (hS19.rdS 4 rfl) (hS19.rdS 5 rfl) (hS19.rdS 6 rfl) ) ?_
    rintro _ H24 ⟨hxx, r23, rfl, hrr23⟩
    have hS25 : St H0 NoB NoB [rdE r23 (walkNow q plan), blkE g14 (.cells #[I ((questFault q).1), I ((questFault q).2)] 27), rdE r10 r10p, blkE g1 (.cells #[I (q.Facts), vf, vg, va] 25), rdE vf q.First, rdE vg q.Goal, rdE va q.Acts, rdE vl plan] H24 := hS19.res hxx hrr23
    refine wpL_q (U := NoB) rfl (q_move (v := Value.tuple #[r23, B (walkOk q plan), Value.agg #[I (((walkFault q plan)).1), I (((walkFault q plan)).2)]]) rfl rfl) ?_
    refine wpL_q (U := NoB) rfl (q_extract (vs := #[r23, B (walkOk q plan), Value.agg #[I (((walkFault q plan)).1), I (((walkFault q plan)).2)]]) (v := r23) rfl rfl rfl) ?_
    refine wpL_q (U := NoB) rfl (q_extract (vs := #[r23, B (walkOk q plan), Value.agg #[I (((walkFault q plan)).1), I (((walkFault q plan)).2)]]) (v := B (walkOk q plan)) rfl rfl rfl) ?_
    refine wpL_q (U := NoB) rfl (q_extract (vs := #[r23, B (walkOk q plan), Value.agg #[I (((walkFault q plan)).1), I (((walkFault q plan)).2)]]) (v := Value.agg #[I (((walkFault q plan)).1), I (((walkFault q plan)).2)]) rfl rfl rfl) ?_
    refine wpL_q (U := NoB) rfl (q_assign (v := r23) rfl rfl) ?_
    refine wpL_q (U := NoB) rfl (q_assign (v := B (walkOk q plan)) rfl rfl) ?_
    refine wpL_o rfl ?_
    refine e_storeBlkA (cs' := #[I (((walkFault q plan)).1), I (((walkFault q plan)).2)]) rfl a20_8 rfl Try.sizeOf27 rfl rfl (List.forall_mem_cons.2 ⟨rfl, List.forall_mem_cons.2 ⟨rfl, List.forall_mem_nil _⟩⟩) (hS25.front 1 rfl) (fun H27 hS28 hxx => ?_)
    replace hS28 : St H0 NoB NoB [blkE g14 (.cells #[I (((walkFault q plan)).1), I (((walkFault q plan)).2)] 27), rdE r23 (walkNow q plan), rdE r10 r10p, blkE g1 (.cells #[I (q.Facts), vf, vg, va] 25), rdE vf q.First, rdE vg q.Goal, rdE va q.Acts, rdE vl plan] H27 := hS28
    exact ⟨a20_1, a20_2, a20_6, a20_7, a20_8, rfl, (hS28.drop (sk (sn (sk (sk (sk (sk (sk (sk (List.Sublist.slnil))))))))))⟩
  rintro f29 H29 ⟨a29_1, a29_2, a29_6, a29_7, a29_8, a29_10, hS29⟩
  clear a20_1 a20_2 a20_24 a20_6 a20_7 a20_8
  refine wpF_seq ?_
  refine wpF_cut (fun f H => ∃ (v34 : Value), f 1 = v34 ∧ f 2 = PT g1 0 ∧ f 6 = I (r10s) ∧ f 7 = r10 ∧ f 8 = PT g14 0 ∧ f 10 = B (walkOk q plan) ∧ St H0 NoB NoB [rowE 3 v34 (plan : List Int), blkE g14 (.cells #[I (((walkFault q plan)).1), I (((walkFault q plan)).2)] 27), rdE r10 r10p, blkE g1 (.cells #[I (q.Facts), vf, vg, va] 25), rdE vf q.First, rdE vg q.Goal, rdE va q.Acts, rdE vl plan] H) ?_ ?_
  · refine wpF_region ?_
    refine wpL_o rfl ?_
    refine e_buildSlice (vs := []) (xs := ([] : List Int)) rfl Try.underlying22 Try.zeroValue3 rfl Try.sizeOf3 par0 rfl hS29 (RdVs.nil) (by decide) (by decide) (fun v30 H31 hS32 hxx hvv30 => ?_)
    replace hS32 : St H0 NoB NoB [rowE 3 v30 ([] : List Int), blkE g14 (.cells #[I (((walkFault q plan)).1), I (((walkFault q plan)).2)] 27), rdE r10 r10p, blkE g1 (.cells #[I (q.Facts), vf, vg, va] 25), rdE vf q.First, rdE vg q.Goal, rdE va q.Acts, rdE vl plan] H31 := hS32
    refine wpL_q (U := NoB) rfl (q_move (v := vl) rfl a29_1) ?_
    have hS33 : St H0 NoB NoB [rowE 3 v30 ([] : List Int), blkE g14 (.cells #[I (((walkFault q plan)).1), I (((walkFault q plan)).2)] 27), rdE r10 r10p, blkE g1 (.cells #[I (q.Facts), vf, vg, va] 25), rdE vf q.First, rdE vg q.Goal, rdE va q.Acts, rdE vl plan] H31 := hS32
    refine wpL_o rfl ?_
    refine e_append rfl Try.underlying22 em_Int_3_BestPlans1 rfl rfl hS33 (hS33.rdS 7 rfl) (fun _ h => h) (by have hb : GoT.bytes Int = 8 := rfl; simp [hb]; omega) (by decide) (fun v34 H35 hS36 hxx => ?_)
    replace hS36 : St H0 NoB NoB [rowE 3 v34 (plan : List Int), blkE g14 (.cells #[I (((walkFault q plan)).1), I (((walkFault q plan)).2)] 27), rdE r10 r10p, blkE g1 (.cells #[I (q.Facts), vf, vg, va] 25), rdE vf q.First, rdE vg q.Goal, rdE va q.Acts, rdE vl plan] H35 := by simpa using hS36
    have hS37 : St H0 NoB NoB [rowE 3 v34 (plan : List Int), blkE g14 (.cells #[I (((walkFault q plan)).1), I (((walkFault q plan)).2)] 27), rdE r10 r10p, blkE g1 (.cells #[I (q.Facts), vf, vg, va] 25), rdE vf q.First, rdE vg q.Goal, rdE va q.Acts, rdE vl plan] H35 := by rw [show plan = plan from rfl]; exact hS36
    refine wpL_q (U := NoB) rfl (q_assign (v := v34) rfl rfl) ?_
    exact ⟨v34, rfl, a29_2, a29_6, a29_7, a29_8, a29_10, hS37⟩
  rintro f38 H38 ⟨v34, a38_1, a38_2, a38_6, a38_7, a38_8, a38_10, hS38⟩
  clear a29_1 a29_10 a29_2 a29_6 a29_7 a29_8
  refine wpF_seq ?_
  refine wpF_seq ?_
  refine wpF_cut (fun f H => f 1 = v34 ∧ f 2 = PT g1 0 ∧ f 6 = I (r10s) ∧ f 7 = r10 ∧ f 8 = PT g14 0 ∧ f 10 = B (walkOk q plan) ∧ f 39 = B (decide (r10s = 2)) ∧ H38 = H) ?_ ?_
  · refine wpF_region ?_
    refine wpL_q (U := NoB) rfl (q_move (v := I (r10s)) rfl a38_6) ?_
    refine wpL_q (U := NoB) rfl (q_eql rfl rfl rfl) ?_
    exact ⟨a38_1, a38_2, a38_6, a38_7, a38_8, a38_10, rfl, rfl⟩
  rintro f39 _ ⟨a39_1, a39_2, a39_6, a39_7, a39_8, a39_10, a39_39, rfl⟩
  clear a38_1 a38_10 a38_2 a38_6 a38_7 a38_8
  refine wpF_condP a39_39 (fun h39 => ?t78) (fun h39 => ?e78)
  case t78 =>
    refine wpF_seq ?_
    refine wpF_cut (fun f H => f 4 = B (decide (((((walkFault q plan)).1) ≠ 0) ∨ ((!(walkOk q plan)) = true))) ∧ H38 = H) ?_ ?_
    · refine wpF_region ?_
      refine wpL_q (U := NoB) rfl (q_fieldAddr rfl Try.underlying27 rfl Try.sizeOf3 a39_8) ?_
      refine wpL_q (U := NoB) rfl (q_loadBlk rfl rfl Try.isAgg3 (hS38.blk 1 rfl) rfl (fun h => h)) ?_
      refine wpL_q (U := NoB) rfl (q_neq rfl rfl rfl) ?_
      refine wpL_q (U := NoB) rfl (q_move (v := B (decide ((((walkFault q plan)).1) ≠ 0))) rfl rfl) ?_
      by_cases hg41 : (((walkFault q plan)).1) ≠ 0
      · have hb42 := Eq.trans rfl (congrArg B (decide_eq_true hg41))
        refine wpL_gs rfl rfl rfl hb42 rfl ?_
        refine wpL_gs rfl rfl rfl hb42 rfl ?_
        refine wpL_q (U := NoB) rfl (q_pickT (v := B (true)) rfl hb42 rfl) ?_
        refine wpL_q (U := NoB) rfl (q_assign (v := B (true)) rfl rfl) ?_
        exact ⟨(Eq.trans rfl (congrArg B ((decide_eq_true (Or.inl hg41)).symm))), rfl⟩
      · have hb43 := Eq.trans rfl (congrArg B (decide_eq_false hg41))
        refine wpL_gq (U := NoB) rfl rfl rfl hb43 (q_move (v := B (walkOk q plan)) rfl a39_10) ?_
        refine wpL_gq (U := NoB) rfl rfl rfl hb43 (q_not rfl rfl) ?_
        refine wpL_q (U := NoB) rfl (q_pickF (v := B (!(walkOk q plan))) rfl hb43 rfl) ?_
        refine wpL_q (U := NoB) rfl (q_assign (v := B (!(walkOk q plan))) rfl rfl) ?_
        exact ⟨(Eq.trans rfl (congrArg B (bool_congr_of ((Iff.rfl).trans (((or_iff_right hg41).trans Iff.rfl)).symm)))), rfl⟩
    rintro f44 _ ⟨a44_4, rfl⟩
    clear a39_1 a39_10 a39_2 a39_39 a39_6 a39_7 a39_8
    refine wpF_ret ?_
    refine ⟨_, resT a44_4 resN, hS38.frame, ?_⟩
    show (B (decide (((((walkFault q plan)).1) ≠ 0) ∨ ((!(walkOk q plan)) = true)))) = B true
    exact congrArg B (decide_eq_true (by have hq := plans_no (w := plan) hD hz h39; simpa using hq))
  have hpl := plans_yes (w := plan) hD hz h39
  refine wpF_skip ?_
  refine wpF_seq ?_
  refine wpF_seq ?_
  refine wpF_cut (fun f H => f 2 = PT g1 0 ∧ f 6 = I (r10s) ∧ f 7 = r10 ∧ f 8 = PT g14 0 ∧ f 71 = B (decide ((((((walkFault q plan)).1) = 0) ∧ ((walkOk q plan) = true)) ∧ (((plan.length : Int) < (r10p.length : Int)) ∨ (((plan.length : Int) = (r10p.length : Int)) ∧ ((lessB plan r10p) = true))))) ∧ St H0 NoB NoB [rowE 3 v34 (plan : List Int), blkE g14 (.cells #[I (((walkFault q plan)).1), I (((walkFault q plan)).2)] 27), rdE r10 r10p, blkE g1 (.cells #[I (q.Facts), vf, vg, va] 25), rdE vf q.First, rdE vg q.Goal, rdE va q.Acts, rdE vl plan] H) ?_ ?_
  · refine wpF_region ?_
    refine wpL_q (U := NoB) rfl (q_fieldAddr rfl Try.underlying27 rfl Try.sizeOf3 a39_8) ?_
    refine wpL_q (U := NoB) rfl (q_loadBlk rfl rfl Try.isAgg3 (hS38.blk 1 rfl) rfl (fun h => h)) ?_
    refine wpL_q (U := NoB) rfl (q_eql rfl rfl rfl) ?_
    refine wpL_q (U := NoB) rfl (q_move (v := B (decide ((((walkFault q plan)).1) = 0))) rfl rfl) ?_
    by_cases hg45 : (((walkFault q plan)).1) = 0
    · have hb46 := Eq.trans rfl (congrArg B (decide_eq_true hg45))
      refine wpL_gq (U := NoB) rfl rfl rfl hb46 (q_move (v := B (walkOk q plan)) rfl a39_10) ?_
      refine wpL_q (U := NoB) rfl (q_pickT (v := B (walkOk q plan)) rfl hb46 rfl) ?_
      refine wpL_q (U := NoB) rfl (q_move (v := B (walkOk q plan)) rfl rfl) ?_
      by_cases hg48 : (walkOk q plan) = true
      · have hb49 := Eq.trans rfl (congrArg B hg48)
        refine wpL_gq (U := NoB) rfl rfl rfl hb49 (q_move (v := v34) rfl a39_1) ?_
        refine wpL_gq (U := NoB) rfl rfl rfl hb49 (q_lenRd rfl Try.underlying22 rfl (hS38.rowl 0 rfl)) ?_
        refine wpL_gq (U := NoB) rfl rfl rfl hb49 (q_move (v := r10) rfl a39_7) ?_
        refine wpL_gq (U := NoB) rfl rfl rfl hb49 (q_lenRd rfl Try.underlying22 rfl (hS38.rdl 2 rfl)) ?_
        refine wpL_gq (U := NoB) rfl rfl rfl hb49 (q_lss rfl rfl rfl) ?_
        refine wpL_gq (U := NoB) rfl rfl rfl hb49 (q_move (v := B (decide ((plan.length : Int) < (r10p.length : Int)))) rfl rfl) ?_
        by_cases hg51 : (plan.length : Int) < (r10p.length : Int)
        · have hb52 := Eq.trans rfl (congrArg B (decide_eq_true hg51))
          refine wpL_gs rfl rfl rfl hb52 rfl ?_
          refine wpL_gs rfl rfl rfl hb52 rfl ?_
          refine wpL_gs rfl rfl rfl hb52 rfl ?_
          refine wpL_gs rfl rfl rfl hb52 rfl ?_
          refine wpL_gs rfl rfl rfl hb52 rfl ?_
          refine wpL_gs rfl rfl rfl hb52 rfl ?_
          refine wpL_gs' rfl rfl rfl rfl ?_
          refine wpL_gs' rfl rfl rfl rfl ?_
          refine wpL_gs' rfl rfl rfl rfl ?_
          refine wpL_gs rfl rfl rfl hb52 rfl ?_
          refine wpL_gq (U := NoB) rfl rfl rfl hb49 (q_pickT (v := B (true)) rfl hb52 rfl) ?_
          refine wpL_q (U := NoB) rfl (q_pickT (v := B (true)) rfl hb49 rfl) ?_
          exact ⟨a39_2, a39_6, a39_7, a39_8, (Eq.trans rfl (congrArg B ((decide_eq_true ⟨⟨hg45, hg48⟩, (Or.inl hg51)⟩).symm))), hS38⟩
        · have hb53 := Eq.trans rfl (congrArg B (decide_eq_false hg51))
          refine wpL_gq (U := NoB) rfl rfl rfl hb53 (q_move (v := v34) rfl a39_1) ?_
          refine wpL_gq (U := NoB) rfl rfl rfl hb53 (q_lenRd rfl Try.underlying22 rfl (hS38.rowl 0 rfl)) ?_
          refine wpL_gq (U := NoB) rfl rfl rfl hb53 (q_move (v := r10) rfl a39_7) ?_
          refine wpL_gq (U := NoB) rfl rfl rfl hb53 (q_lenRd rfl Try.underlying22 rfl (hS38.rdl 2 rfl)) ?_
          refine wpL_gq (U := NoB) rfl rfl rfl hb53 (q_eql rfl rfl rfl) ?_
          refine wpL_gq (U := NoB) rfl rfl rfl hb53 (q_move (v := B (decide ((plan.length : Int) = (r10p.length : Int)))) rfl rfl) ?_
          by_cases hg54 : (plan.length : Int) = (r10p.length : Int)
          · have hb55 := Eq.trans rfl (congrArg B (decide_eq_true hg54))
            refine wpL_gq (U := NoB) rfl rfl rfl hb55 (q_move (v := v34) rfl a39_1) ?_
            refine wpL_gq (U := NoB) rfl rfl rfl hb55 (q_move (v := r10) rfl a39_7) ?_
            refine wpL_go rfl rfl rfl hb55 ?_
            refine e_call rfl Try.call30 (arr2 (v0 := v34) (v1 := r10) rfl rfl) (Less_R v34 r10 plan r10p (hS38.rowN 0 rfl) (hS38.rdN 2 rfl) ) ?_
            rintro _ H57 ⟨hxx, rfl⟩
            have hS58 : St H0 NoB NoB [rowE 3 v34 (plan : List Int), blkE g14 (.cells #[I (((walkFault q plan)).1), I (((walkFault q plan)).2)] 27), rdE r10 r10p, blkE g1 (.cells #[I (q.Facts), vf, vg, va] 25), rdE vf q.First, rdE vg q.Goal, rdE va q.Acts, rdE vl plan] H57 := hS38.ext hxx
            refine wpL_gq (U := NoB) rfl rfl rfl hb53 (q_pickT (v := B (lessB plan r10p)) rfl hb55 rfl) ?_
            refine wpL_gq (U := NoB) rfl rfl rfl hb49 (q_pickF (v := B (lessB plan r10p)) rfl hb53 rfl) ?_
            refine wpL_q (U := NoB) rfl (q_pickT (v := B (lessB plan r10p)) rfl hb49 rfl) ?_
            exact ⟨a39_2, a39_6, a39_7, a39_8, (Eq.trans rfl (congrArg B (bool_congr_of ((Iff.rfl).trans (((and_iff_right ⟨hg45, hg48⟩).trans ((or_iff_right hg51).trans ((and_iff_right hg54).trans Iff.rfl)))).symm)))), hS58⟩
          · have hb56 := Eq.trans rfl (congrArg B (decide_eq_false hg54))
            refine wpL_gs rfl rfl rfl hb56 rfl ?_
            refine wpL_gs rfl rfl rfl hb56 rfl ?_
            refine wpL_gs rfl rfl rfl hb56 rfl ?_
            refine wpL_gq (U := NoB) rfl rfl rfl hb53 (q_pickF (v := B (false)) rfl hb56 rfl) ?_
            refine wpL_gq (U := NoB) rfl rfl rfl hb49 (q_pickF (v := B (false)) rfl hb53 rfl) ?_
            refine wpL_q (U := NoB) rfl (q_pickT (v := B (false)) rfl hb49 rfl) ?_
            exact ⟨a39_2, a39_6, a39_7, a39_8, (Eq.trans rfl (congrArg B ((decide_eq_false (fun h => (not_or.2 ⟨hg51, (fun h => hg54 h.1)⟩) h.2)).symm))), hS38⟩
      · have hb50 := Eq.trans rfl (congrArg B (Bool.eq_false_iff.2 hg48))
        refine wpL_gs rfl rfl rfl hb50 rfl ?_
        refine wpL_gs rfl rfl rfl hb50 rfl ?_
        refine wpL_gs rfl rfl rfl hb50 rfl ?_
        refine wpL_gs rfl rfl rfl hb50 rfl ?_
        refine wpL_gs rfl rfl rfl hb50 rfl ?_
        refine wpL_gs rfl rfl rfl hb50 rfl ?_
        refine wpL_gs' rfl rfl rfl rfl ?_
        refine wpL_gs' rfl rfl rfl rfl ?_
        refine wpL_gs' rfl rfl rfl rfl ?_
        refine wpL_gs' rfl rfl rfl rfl ?_
        refine wpL_gs' rfl rfl rfl rfl ?_
        refine wpL_gs' rfl rfl rfl rfl ?_
        refine wpL_gs' rfl rfl rfl rfl ?_
        refine wpL_gs' rfl rfl rfl rfl ?_
        refine wpL_gs' rfl rfl rfl rfl ?_
        refine wpL_gs' rfl rfl rfl rfl ?_
        refine wpL_gs rfl rfl rfl hb50 rfl ?_
        refine wpL_q (U := NoB) rfl (q_pickF (v := B (false)) rfl hb50 rfl) ?_
        exact ⟨a39_2, a39_6, a39_7, a39_8, (Eq.trans rfl (congrArg B ((decide_eq_false (fun h => (fun h => hg48 h.2) h.1)).symm))), hS38⟩
    · have hb47 := Eq.trans rfl (congrArg B (decide_eq_false hg45))
      refine wpL_gs rfl rfl rfl hb47 rfl ?_
      refine wpL_q (U := NoB) rfl (q_pickF (v := B (false)) rfl hb47 rfl) ?_
      refine wpL_q (U := NoB) rfl (q_move (v := B (false)) rfl rfl) ?_
      refine wpL_gs rfl rfl rfl rfl rfl ?_
      refine wpL_gs rfl rfl rfl rfl rfl ?_
      refine wpL_gs rfl rfl rfl rfl rfl ?_
      refine wpL_gs rfl rfl rfl rfl rfl ?_
      refine wpL_gs rfl rfl rfl rfl rfl ?_
      refine wpL_gs rfl rfl rfl rfl rfl ?_
      refine wpL_gs' rfl rfl rfl rfl ?_
      refine wpL_gs' rfl rfl rfl rfl ?_
      refine wpL_gs' rfl rfl rfl rfl ?_
      refine wpL_gs' rfl rfl rfl rfl ?_
      refine wpL_gs' rfl rfl rfl rfl ?_
      refine wpL_gs' rfl rfl rfl rfl ?_
      refine wpL_gs' rfl rfl rfl rfl ?_
      refine wpL_gs' rfl rfl rfl rfl ?_
      refine wpL_gs' rfl rfl rfl rfl ?_
      refine wpL_gs' rfl rfl rfl rfl ?_
      refine wpL_gs rfl rfl rfl rfl rfl ?_
      refine wpL_q (U := NoB) rfl (q_pickF (v := B (false)) rfl rfl rfl) ?_
      exact ⟨a39_2, a39_6, a39_7, a39_8, (Eq.trans rfl (congrArg B ((decide_eq_false (fun h => (fun h => hg45 h.1) h.1)).symm))), hS38⟩
  rintro f60 H60 ⟨a60_2, a60_6, a60_7, a60_8, a60_71, hS60⟩
  clear a39_1 a39_10 a39_2 a39_39 a39_6 a39_7 a39_8
  refine wpF_condP a60_71 (fun h71 => ?t77) (fun h71 => ?e77)
  case t77 =>
    refine wpF_seq ?_
    refine wpF_cut (fun f H => f 4 = B (false) ∧ H60 = H) ?_ ?_
    · refine wpF_region ?_
      refine wpL_q (U := NoB) rfl (q_assign (v := B (false)) rfl rfl) ?_
      exact ⟨rfl, rfl⟩
    rintro f62 _ ⟨a62_4, rfl⟩
    clear a60_2 a60_6 a60_7 a60_71 a60_8
    refine wpF_ret ?_
    refine ⟨_, resT a62_4 resN, hS60.frame, ?_⟩
    show (B (false)) = B true
    exfalso
    have hq := hpl.2.2.2 h71.1.1 h71.1.2
    exact hq (h71.2.imp (fun h => by omega) (fun h => ⟨by omega, h.2⟩))
  refine wpF_skip ?_
  refine wpF_seq ?_
  refine wpF_cut (fun f H => f 6 = I (r10s) ∧ f 8 = PT g14 0 ∧ f 12 = B (walkOk q r10p) ∧ St H0 NoB NoB [blkE g14 (.cells #[I (((walkFault q r10p)).1), I (((walkFault q r10p)).2)] 27), rowE 3 v34 (plan : List Int), rdE r10 r10p, blkE g1 (.cells #[I (q.Facts), vf, vg, va] 25), rdE vf q.First, rdE vg q.Goal, rdE va q.Acts, rdE vl plan] H) ?_ ?_
  · refine wpF_region ?_
    refine wpL_q (U := NoB) rfl (q_loadBlkA rfl a60_2 Try.isAgg25 Try.sizeOf25 rfl (hS60.blk 3 rfl) (fun h => h)) ?_
    refine wpL_q (U := NoB) rfl (q_move (v := r10) rfl a60_7) ?_
    refine wpL_o rfl ?_
    refine e_call rfl Try.call14 (arr2 (v0 := Value.agg #[I (q.Facts), vf, vg, va]) (v1 := r10) rfl rfl) (Walk_L vf vg va r10 q r10p (by first | assumption | (constructor <;> omega)) (hS60.rdS 4 rfl) (hS60.rdS 5 rfl) (hS60.rdS 6 rfl) (hS60.rdS 2 rfl) ) ?_
    rintro _ H64 ⟨hxx, r63, rfl, hrr63⟩
    have hS65 : St H0 NoB NoB [rdE r63 (walkNow q r10p), rowE 3 v34 (plan : List Int), blkE g14 (.cells #[I (((walkFault q plan)).1), I (((walkFault q plan)).2)] 27), rdE r10 r10p, blkE g1 (.cells #[I (q.Facts), vf, vg, va] 25), rdE vf q.First, rdE vg q.Goal, rdE va q.Acts, rdE vl plan] H64 := hS60.res hxx hrr63
    refine wpL_q (U := NoB) rfl (q_move (v := Value.tuple #[r63, B (walkOk q r10p), Value.agg #[I (((walkFault q r10p)).1), I (((walkFault q r10p)).2)]]) rfl rfl) ?_
    refine wpL_q (U := NoB) rfl (q_extract (vs := #[r63, B (walkOk q r10p), Value.agg #[I (((walkFault q r10p)).1), I (((walkFault q r10p)).2)]]) (v := r63) rfl rfl rfl) ?_
    refine wpL_q (U := NoB) rfl (q_extract (vs := #[r63, B (walkOk q r10p), Value.agg #[I (((walkFault q r10p)).1), I (((walkFault q r10p)).2)]]) (v := B (walkOk q r10p)) rfl rfl rfl) ?_
    refine wpL_q (U := NoB) rfl (q_extract (vs := #[r63, B (walkOk q r10p), Value.agg #[I (((walkFault q r10p)).1), I (((walkFault q r10p)).2)]]) (v := Value.agg #[I (((walkFault q r10p)).1), I (((walkFault q r10p)).2)]) rfl rfl rfl) ?_
    refine wpL_q (U := NoB) rfl (q_assign (v := r63) rfl rfl) ?_
    refine wpL_q (U := NoB) rfl (q_assign (v := B (walkOk q r10p)) rfl rfl) ?_
    refine wpL_o rfl ?_
    refine e_storeBlkA (cs' := #[I (((walkFault q r10p)).1), I (((walkFault q r10p)).2)]) rfl a60_8 rfl Try.sizeOf27 rfl rfl (List.forall_mem_cons.2 ⟨rfl, List.forall_mem_cons.2 ⟨rfl, List.forall_mem_nil _⟩⟩) (hS65.front 2 rfl) (fun H67 hS68 hxx => ?_)
    replace hS68 : St H0 NoB NoB [blkE g14 (.cells #[I (((walkFault q r10p)).1), I (((walkFault q r10p)).2)] 27), rdE r63 (walkNow q r10p), rowE 3 v34 (plan : List Int), rdE r10 r10p, blkE g1 (.cells #[I (q.Facts), vf, vg, va] 25), rdE vf q.First, rdE vg q.Goal, rdE va q.Acts, rdE vl plan] H67 := hS68
    exact ⟨a60_6, a60_8, rfl, (hS68.drop (sk (sn (sk (sk (sk (sk (sk (sk (sk (List.Sublist.slnil)))))))))))⟩
  rintro f69 H69 ⟨a69_6, a69_8, a69_12, hS69⟩
  clear a60_2 a60_6 a60_7 a60_71 a60_8
  refine wpF_seq ?_
  refine wpF_cut (fun f H => f 4 = B (decide (((r10s = 1) ∧ ((((walkFault q r10p)).1) = 0)) ∧ ((walkOk q r10p) = true))) ∧ H69 = H) ?_ ?_
  · refine wpF_region ?_
    refine wpL_q (U := NoB) rfl (q_move (v := I (r10s)) rfl a69_6) ?_
    refine wpL_q (U := NoB) rfl (q_eql rfl rfl rfl) ?_
    refine wpL_q (U := NoB) rfl (q_move (v := B (decide (r10s = 1))) rfl rfl) ?_
    by_cases hg70 : r10s = 1
    · have hb71 := Eq.trans rfl (congrArg B (decide_eq_true hg70))
      refine wpL_gq (U := NoB) rfl rfl rfl hb71 (q_fieldAddr rfl Try.underlying27 rfl Try.sizeOf3 a69_8) ?_
      refine wpL_gq (U := NoB) rfl rfl rfl hb71 (q_loadBlk rfl rfl Try.isAgg3 (hS69.blk 0 rfl) rfl (fun h => h)) ?_
      refine wpL_gq (U := NoB) rfl rfl rfl hb71 (q_eql rfl rfl rfl) ?_
      refine wpL_q (U := NoB) rfl (q_pickT (v := B (decide ((((walkFault q r10p)).1) = 0))) rfl hb71 rfl) ?_
      refine wpL_q (U := NoB) rfl (q_move (v := B (decide ((((walkFault q r10p)).1) = 0))) rfl rfl) ?_
      by_cases hg73 : (((walkFault q r10p)).1) = 0
      · have hb74 := Eq.trans rfl (congrArg B (decide_eq_true hg73))
        refine wpL_gq (U := NoB) rfl rfl rfl hb74 (q_move (v := B (walkOk q r10p)) rfl a69_12) ?_
        refine wpL_q (U := NoB) rfl (q_pickT (v := B (walkOk q r10p)) rfl hb74 rfl) ?_
        refine wpL_q (U := NoB) rfl (q_assign (v := B (walkOk q r10p)) rfl rfl) ?_
        exact ⟨(Eq.trans rfl (congrArg B (bool_congr_of ((Iff.rfl).trans (((and_iff_right ⟨hg70, hg73⟩).trans Iff.rfl)).symm)))), rfl⟩
      · have hb75 := Eq.trans rfl (congrArg B (decide_eq_false hg73))
        refine wpL_gs rfl rfl rfl hb75 rfl ?_
        refine wpL_q (U := NoB) rfl (q_pickF (v := B (false)) rfl hb75 rfl) ?_
        refine wpL_q (U := NoB) rfl (q_assign (v := B (false)) rfl rfl) ?_
        exact ⟨(Eq.trans rfl (congrArg B ((decide_eq_false (fun h => (fun h => hg73 h.2) h.1)).symm))), rfl⟩
    · have hb72 := Eq.trans rfl (congrArg B (decide_eq_false hg70))
      refine wpL_gs rfl rfl rfl hb72 rfl ?_
      refine wpL_gs rfl rfl rfl hb72 rfl ?_
      refine wpL_gs rfl rfl rfl hb72 rfl ?_
      refine wpL_q (U := NoB) rfl (q_pickF (v := B (false)) rfl hb72 rfl) ?_
      refine wpL_q (U := NoB) rfl (q_move (v := B (false)) rfl rfl) ?_
      refine wpL_gs rfl rfl rfl rfl rfl ?_
      refine wpL_q (U := NoB) rfl (q_pickF (v := B (false)) rfl rfl rfl) ?_
      refine wpL_q (U := NoB) rfl (q_assign (v := B (false)) rfl rfl) ?_
      exact ⟨(Eq.trans rfl (congrArg B ((decide_eq_false (fun h => (fun h => hg70 h.1) h.1)).symm))), rfl⟩
  rintro f76 _ ⟨a76_4, rfl⟩
  clear a69_12 a69_6 a69_8
  refine wpF_ret ?_
  refine ⟨_, resT a76_4 resN, hS69.frame, ?_⟩
  show (B (decide (((r10s = 1) ∧ ((((walkFault q r10p)).1) = 0)) ∧ ((walkOk q r10p) = true)))) = B true
  exact congrArg B (decide_eq_true (by rw [hpl.1, hpl.2.1, hpl.2.2.1]; simp))

end Go.Um
