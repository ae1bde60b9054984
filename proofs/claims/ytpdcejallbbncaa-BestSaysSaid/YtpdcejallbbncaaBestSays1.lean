import Derived.Test.YtpdcejallbbncaaProg
import Derived.Test.YtpdcejallbbncaaBestD1
import Derived.Test.YtpdcejallbbncaaPlanR1
namespace Go.Um
open Go.Proofs
open GoT (sz ag rdc)
open KeyT (kv)

theorem fl27_BestSays1 (a b c d : Int) (w : World) : (Op.equalIn 10000 27 (.agg #[I a, I b]) (.agg #[I c, I d])).run Try.prog w = .ok (decide (a = c ∧ b = d)) w := eq2_run Try.underlying27 Try.underlying3 Try.underlying3 (by decide) (by decide) rfl rfl Try.isAgg3 Try.isAgg3 Try.stoodInHeld27 a b c d w

set_option maxHeartbeats 1000000 in
set_option maxRecDepth 100000 in
theorem BestSays_L {H0 : Heap} (vf vg va : Value) (q : Quest) (h6qFacts : In64 q.Facts) (rvf : Rd NoB H0 vf q.First) (rvg : Rd NoB H0 vg q.Goal) (rva : Rd NoB H0 va q.Acts) : CallsH Try.prog 6 #[Value.agg #[I (q.Facts), vf, vg, va]] H0 (fun rv_ H' => Ext NoB H0 H' ∧ rv_ = B true) := by
  have hsg := (Rd.list.1 rvg).small
  have hsa := (Rd.list.1 rva).small
  have hS0 : St H0 NoB NoB [rdE vf q.First, rdE vg q.Goal, rdE va q.Acts] H0 := St.arg (St.arg (St.arg (St.start (fun _ h => h.elim)) (Bl0.nil) rva (fun _ h => h)) (Bl0.cons (Bl0.nil)) rvg (fun _ h => h)) (Bl0.cons (Bl0.cons (Bl0.nil))) rvf (fun _ h => h)
  refine callsH_of_wpF (args := [Value.agg #[I (q.Facts), vf, vg, va]]) (rs := [.tmp 2]) Try.func6 rfl Try.ntmps6 Try.results6 (by kernel_rfl) (Nat.le_of_ble_eq_true rfl) ?_
  have a0_0 : argF [Value.agg #[I (q.Facts), vf, vg, va]] 0 = Value.agg #[I (q.Facts), vf, vg, va] := rfl
  generalize argF [Value.agg #[I (q.Facts), vf, vg, va]] = f0 at *
  refine wpF_seq ?_
  refine wpF_cut (fun f H => ∃ (g1 : Nat), f 1 = PT g1 0 ∧ St H0 NoB NoB [blkE g1 (.cells #[I (q.Facts), vf, vg, va] 25), rdE vf q.First, rdE vg q.Goal, rdE va q.Acts] H) ?_ ?_
  · refine wpF_region ?_
    refine wpL_o rfl ?_
    refine e_box (v := Value.agg #[I (q.Facts), vf, vg, va]) rfl a0_0 hS0 (fun g1 H2 hS3 hxx => ?_)
    replace hS3 : St H0 NoB NoB [blkE g1 (.cells #[I (q.Facts), vf, vg, va] 25), rdE vf q.First, rdE vg q.Goal, rdE va q.Acts] H2 := hS3
    refine wpL_q (U := NoB) rfl (q_assign (v := B (false)) rfl rfl) ?_
    exact ⟨g1, rfl, hS3⟩
  rintro f4 H4 ⟨g1, a4_1, hS4⟩
  clear a0_0
  refine wpF_seq ?_
  refine wpF_seq ?_
  refine wpF_cut (fun f H => f 1 = PT g1 0 ∧ f 12 = B (decide (20 < (q.Acts.length : Int))) ∧ H4 = H) ?_ ?_
  · refine wpF_region ?_
    refine wpL_q (U := NoB) rfl (q_fieldAddr rfl Try.underlying25 rfl Try.sizeOf23 a4_1) ?_
    refine wpL_q (U := NoB) rfl (q_loadBlk rfl rfl Try.isAgg23 (hS4.blk 0 rfl) rfl (fun h => h)) ?_
    refine wpL_q (U := NoB) rfl (q_lenRd rfl Try.underlying23 rfl (hS4.rdl 3 rfl)) ?_
    refine wpL_q (U := NoB) rfl (q_gtr rfl rfl rfl) ?_
    exact ⟨a4_1, rfl, rfl⟩
  rintro f5 _ ⟨a5_1, a5_12, rfl⟩
  clear a4_1
  refine wpF_condP a5_12 (fun hbig => ?t72) (fun hbig => ?e72)
  case t72 =>
    refine wpF_seq ?_
    refine wpF_cut (fun f H => f 2 = B (true) ∧ H4 = H) ?_ ?_
    · refine wpF_region ?_
      refine wpL_q (U := NoB) rfl (q_assign (v := B (true)) rfl rfl) ?_
      exact ⟨rfl, rfl⟩
    rintro f7 _ ⟨a7_2, rfl⟩
    clear a5_1 a5_12
    refine wpF_ret ?_
    refine ⟨_, resT a7_2 resN, hS4.frame, ?_⟩
    show (B (true)) = B true
    rfl
  refine wpF_skip ?_
  refine wpF_seq ?_
  refine wpF_cut (fun f H => ∃ (g11 : Nat), f 1 = PT g1 0 ∧ f 3 = PT g11 0 ∧ St H0 NoB NoB [blkE g11 (.cells #[I ((questFault q).1), I ((questFault q).2)] 27), blkE g1 (.cells #[I (q.Facts), vf, vg, va] 25), rdE vf q.First, rdE vg q.Goal, rdE va q.Acts] H) ?_ ?_
  · refine wpF_region ?_
    refine wpL_q (U := NoB) rfl (q_loadBlkA rfl a5_1 Try.isAgg25 Try.sizeOf25 rfl (hS4.blk 0 rfl) (fun h => h)) ?_
    refine wpL_o rfl ?_
    refine e_call rfl Try.call12 (arr1 (v0 := Value.agg #[I (q.Facts), vf, vg, va]) rfl) (Quest_R vf vg va q (by first | assumption | (constructor <;> omega)) (hS4.rdN 1 rfl) (hS4.rdN 2 rfl) (hS4.rdN 3 rfl) ) ?_
    rintro _ H8 ⟨hxx, rfl⟩
    have hS9 : St H0 NoB NoB [blkE g1 (.cells #[I (q.Facts), vf, vg, va] 25), rdE vf q.First, rdE vg q.Goal, rdE va q.Acts] H8 := hS4.ext hxx
    refine wpL_o rfl ?_
    refine e_alloc rfl Try.zeroValue27 hS9 (fun g11 H12 hS13 hxx => ?_)
    replace hS13 : St H0 NoB NoB [blkE g11 (.cells #[I (0), I (0)] 27), blkE g1 (.cells #[I (q.Facts), vf, vg, va] 25), rdE vf q.First, rdE vg q.Goal, rdE va q.Acts] H12 := hS13
    refine wpL_o rfl ?_
    refine e_storeBlkA (cs' := #[I ((questFault q).1), I ((questFault q).2)]) rfl rfl rfl Try.sizeOf27 rfl rfl (List.forall_mem_cons.2 ⟨rfl, List.forall_mem_cons.2 ⟨rfl, List.forall_mem_nil _⟩⟩) hS13 (fun H14 hS15 hxx => ?_)
    replace hS15 : St H0 NoB NoB [blkE g11 (.cells #[I ((questFault q).1), I ((questFault q).2)] 27), blkE g1 (.cells #[I (q.Facts), vf, vg, va] 25), rdE vf q.First, rdE vg q.Goal, rdE va q.Acts] H14 := hS15
    exact ⟨g11, a5_1, rfl, hS15⟩
  rintro f16 H16 ⟨g11, a16_1, a16_3, hS16⟩
  clear a5_1 a5_12
  refine wpF_seq ?_
  refine wpF_cut (fun f H => ∃ (r17 : Value), ∃ (r17p : List Int), ∃ (r17s : Int), ∃ (g21 : Nat), (DoOk q r17s r17p) ∧ f 1 = PT g1 0 ∧ f 3 = PT g11 0 ∧ f 4 = I (r17s) ∧ f 5 = r17 ∧ f 6 = PT g21 0 ∧ St H0 NoB NoB [blkE g21 (.cells #[I ((questFault q).1), I ((questFault q).2)] 27), rdE r17 r17p, blkE g11 (.cells #[I ((questFault q).1), I ((questFault q).2)] 27), blkE g1 (.cells #[I (q.Facts), vf, vg, va] 25), rdE vf q.First, rdE vg q.Goal, rdE va q.Acts] H) ?_ ?_
  · refine wpF_region ?_
    refine wpL_q (U := NoB) rfl (q_loadBlkA rfl a16_1 Try.isAgg25 Try.sizeOf25 rfl (hS16.blk 1 rfl) (fun h => h)) ?_
    refine wpL_o rfl ?_
    refine e_call rfl Try.call27 (arr1 (v0 := Value.agg #[I (q.Facts), vf, vg, va]) rfl) (Do_L vf vg va q (by first | assumption | (constructor <;> omega)) (hS16.rdS 2 rfl) (hS16.rdS 3 rfl) (hS16.rdS 4 rfl)) ?_
    rintro _ H18 ⟨hxx, r17, r17p, r17s, rfl, hrr17, hDr17⟩
    have hS19 : St H0 NoB NoB [rdE r17 r17p, blkE g11 (.cells #[I ((questFault q).1), I ((questFault q).2)] 27), blkE g1 (.cells #[I (q.Facts), vf, vg, va] 25), rdE vf q.First, rdE vg q.Goal, rdE va q.Acts] H18 := (hS16.res hxx hrr17)
    refine wpL_q (U := NoB) rfl (q_move (v := Value.tuple #[I (r17s), r17, Value.agg #[I ((questFault q).1), I ((questFault q).2)]]) rfl rfl) ?_
    refine wpL_q (U := NoB) rfl (q_extract (vs := #[I (r17s), r17, Value.agg #[I ((questFault q).1), I ((questFault q).2)]]) (v := I (r17s)) rfl rfl rfl) ?_
    refine wpL_q (U := NoB) rfl (q_extract (vs := #[I (r17s), r17, Value.agg #[I ((questFault q).1), I ((questFault q).2)]]) (v := r17) rfl rfl rfl) ?_
    refine wpL_q (U := NoB) rfl (q_extract (vs := #[I (r17s), r17, Value.agg #[I ((questFault q).1), I ((questFault q).2)]]) (v := Value.agg #[I ((questFault q).1), I ((questFault q).2)]) rfl rfl rfl) ?_
    refine wpL_o rfl ?_
    refine e_alloc rfl Try.zeroValue27 hS19 (fun g21 H22 hS23 hxx => ?_)
    replace hS23 : St H0 NoB NoB [blkE g21 (.cells #[I (0), I (0)] 27), rdE r17 r17p, blkE g11 (.cells #[I ((questFault q).1), I ((questFault q).2)] 27), blkE g1 (.cells #[I (q.Facts), vf, vg, va] 25), rdE vf q.First, rdE vg q.Goal, rdE va q.Acts] H22 := hS23
    refine wpL_q (U := NoB) rfl (q_assign (v := I (r17s)) rfl rfl) ?_
    refine wpL_q (U := NoB) rfl (q_assign (v := r17) rfl rfl) ?_
    refine wpL_o rfl ?_
    refine e_storeBlkA (cs' := #[I ((questFault q).1), I ((questFault q).2)]) rfl rfl rfl Try.sizeOf27 rfl rfl (List.forall_mem_cons.2 ⟨rfl, List.forall_mem_cons.2 ⟨rfl, List.forall_mem_nil _⟩⟩) hS23 (fun H24 hS25 hxx => ?_)
    replace hS25 : St H0 NoB NoB [blkE g21 (.cells #[I ((questFault q).1), I ((questFault q).2)] 27), rdE r17 r17p, blkE g11 (.cells #[I ((questFault q).1), I ((questFault q).2)] 27), blkE g1 (.cells #[I (q.Facts), vf, vg, va] 25), rdE vf q.First, rdE vg q.Goal, rdE va q.Acts] H24 := hS25
    exact ⟨r17, r17p, r17s, g21, hDr17, a16_1, a16_3, rfl, rfl, rfl, hS25⟩
  rintro f26 H26 ⟨r17, r17p, r17s, g21, hDr17, a26_1, a26_3, a26_4, a26_5, a26_6, hS26⟩
  clear a16_1 a16_3
  have hD := hDr17
  refine wpF_seq ?_
  refine wpF_seq ?_
  refine wpF_cut (fun f H => f 1 = PT g1 0 ∧ f 3 = PT g11 0 ∧ f 4 = I (r17s) ∧ f 5 = r17 ∧ f 6 = PT g21 0 ∧ f 23 = B (decide (((questFault q).1) ≠ 0)) ∧ H26 = H) ?_ ?_
  · refine wpF_region ?_
    refine wpL_q (U := NoB) rfl (q_fieldAddr rfl Try.underlying27 rfl Try.sizeOf3 a26_3) ?_
    refine wpL_q (U := NoB) rfl (q_loadBlk rfl rfl Try.isAgg3 (hS26.blk 2 rfl) rfl (fun h => h)) ?_
    refine wpL_q (U := NoB) rfl (q_neq rfl rfl rfl) ?_
    exact ⟨a26_1, a26_3, a26_4, a26_5, a26_6, rfl, rfl⟩
  rintro f27 _ ⟨a27_1, a27_3, a27_4, a27_5, a27_6, a27_23, rfl⟩
  clear a26_1 a26_3 a26_4 a26_5 a26_6
  refine wpF_condP a27_23 (fun h1 => ?t71) (fun h1 => ?e71)
  case t71 =>
    refine wpF_seq ?_
    refine wpF_cut (fun f H => f 2 = B (decide (((((questFault q).1) = ((questFault q).1) ∧ ((questFault q).2) = ((questFault q).2)) ∧ (r17s = 0)) ∧ ((r17p.length : Int) = 0))) ∧ H26 = H) ?_ ?_
    · refine wpF_region ?_
      refine wpL_q (U := NoB) rfl (q_loadBlkA rfl a27_6 Try.isAgg27 Try.sizeOf27 rfl (hS26.blk 0 rfl) (fun h => h)) ?_
      refine wpL_q (U := NoB) rfl (q_loadBlkA rfl a27_3 Try.isAgg27 Try.sizeOf27 rfl (hS26.blk 2 rfl) (fun h => h)) ?_
      refine wpL_q (U := NoB) rfl (q_eqlF2 rfl Try.eqGuardType27 (fl27_BestSays1 _ _ _ _) rfl rfl) ?_
      refine wpL_q (U := NoB) rfl (q_move (v := B (decide (((questFault q).1) = ((questFault q).1) ∧ ((questFault q).2) = ((questFault q).2)))) rfl rfl) ?_
      by_cases hg29 : ((questFault q).1) = ((questFault q).1) ∧ ((questFault q).2) = ((questFault q).2)
      · have hb30 := Eq.trans rfl (congrArg B (decide_eq_true hg29))
        refine wpL_gq (U := NoB) rfl rfl rfl hb30 (q_move (v := I (r17s)) rfl a27_4) ?_
        refine wpL_gq (U := NoB) rfl rfl rfl hb30 (q_eql rfl rfl rfl) ?_
        refine wpL_q (U := NoB) rfl (q_pickT (v := B (decide (r17s = 0))) rfl hb30 rfl) ?_
        refine wpL_q (U := NoB) rfl (q_move (v := B (decide (r17s = 0))) rfl rfl) ?_
        by_cases hg32 : r17s = 0
        · have hb33 := Eq.trans rfl (congrArg B (decide_eq_true hg32))
          refine wpL_gq (U := NoB) rfl rfl rfl hb33 (q_move (v := r17) rfl a27_5) ?_
          refine wpL_gq (U := NoB) rfl rfl rfl hb33 (q_lenRd rfl Try.underlying22 rfl (hS26.rdl 1 rfl)) ?_
          refine wpL_gq (U := NoB) rfl rfl rfl hb33 (q_eql rfl rfl rfl) ?_
          refine wpL_q (U := NoB) rfl (q_pickT (v := B (decide ((r17p.length : Int) = 0))) rfl hb33 rfl) ?_
          refine wpL_q (U := NoB) rfl (q_assign (v := B (decide ((r17p.length : Int) = 0))) rfl rfl) ?_
          exact ⟨(Eq.trans rfl (congrArg B (decide_congr_of ((Iff.rfl).trans (((and_iff_right ⟨hg29, hg32⟩).trans Iff.rfl)).symm)))), rfl⟩
        · have hb34 := Eq.trans rfl (congrArg B (decide_eq_false hg32))
          refine wpL_gs rfl rfl rfl hb34 rfl ?_
          refine wpL_gs rfl rfl rfl hb34 rfl ?_
          refine wpL_gs rfl rfl rfl hb34 rfl ?_
          refine wpL_q (U := NoB) rfl (q_pickF (v := B (false)) rfl hb34 rfl) ?_
          refine wpL_q (U := NoB) rfl (q_assign (v := B (false)) rfl rfl) ?_
          exact ⟨(Eq.trans rfl (congrArg B ((decide_eq_false (fun h => (fun h => hg32 h.2) h.1)).symm))), rfl⟩
      · have hb31 := Eq.trans rfl (congrArg B (decide_eq_false hg29))
        refine wpL_gs rfl rfl rfl hb31 rfl ?_
        refine wpL_gs rfl rfl rfl hb31 rfl ?_
        refine wpL_q (U := NoB) rfl (q_pickF (v := B (false)) rfl hb31 rfl) ?_
        refine wpL_q (U := NoB) rfl (q_move (v := B (false)) rfl rfl) ?_
        refine wpL_gs rfl rfl rfl rfl rfl ?_
        refine wpL_gs rfl rfl rfl rfl rfl ?_
        refine wpL_gs rfl rfl rfl rfl rfl ?_
        refine wpL_q (U := NoB) rfl (q_pickF (v := B (false)) rfl rfl rfl) ?_
        refine wpL_q (U := NoB) rfl (q_assign (v := B (false)) rfl rfl) ?_
        exact ⟨(Eq.trans rfl (congrArg B ((decide_eq_false (fun h => (fun h => hg29 h.1) h.1)).symm))), rfl⟩
    rintro f35 _ ⟨a35_2, rfl⟩
    clear a27_1 a27_23 a27_3 a27_4 a27_5 a27_6
    refine wpF_ret ?_
    refine ⟨_, resT a35_2 resN, hS26.frame, ?_⟩
    show (B (decide (((((questFault q).1) = ((questFault q).1) ∧ ((questFault q).2) = ((questFault q).2)) ∧ (r17s = 0)) ∧ ((r17p.length : Int) = 0)))) = B true
    exact congrArg B (decide_eq_true (by rw [(hD.bad h1).1, (hD.bad h1).2]; simp))
  have hz : (questFault q).1 = 0 := Decidable.of_not_not h1
  have hQ := QW.of hz
  have hso := says_one hD hz
  refine wpF_skip ?_
  refine wpF_seq ?_
  refine wpF_seq ?_
  refine wpF_cut (fun f H => f 1 = PT g1 0 ∧ f 4 = I (r17s) ∧ f 5 = r17 ∧ f 6 = PT g21 0 ∧ f 38 = B (decide (9 < q.Facts)) ∧ H26 = H) ?_ ?_
  · refine wpF_region ?_
    refine wpL_q (U := NoB) rfl (q_fieldAddr rfl Try.underlying25 rfl Try.sizeOf3 a27_1) ?_
    refine wpL_q (U := NoB) rfl (q_loadBlk rfl rfl Try.isAgg3 (hS26.blk 3 rfl) rfl (fun h => h)) ?_
    refine wpL_q (U := NoB) rfl (q_gtr rfl rfl rfl) ?_
    exact ⟨a27_1, a27_4, a27_5, a27_6, rfl, rfl⟩
  rintro f36 _ ⟨a36_1, a36_4, a36_5, a36_6, a36_38, rfl⟩
  clear a27_1 a27_23 a27_3 a27_4 a27_5 a27_6
  refine wpF_condP a36_38 (fun h38 => ?t70) (fun h38 => ?e70)
  case t70 =>
    refine wpF_seq ?_
    refine wpF_cut (fun f H => f 2 = B (decide ((((questFault q).1) = 0) ∧ (1 ≤ r17s ∧ r17s ≤ 2))) ∧ St H0 NoB NoB [blkE g21 (.cells #[I ((questFault q).1), I ((questFault q).2)] 27), rdE r17 r17p, blkE g11 (.cells #[I ((questFault q).1), I ((questFault q).2)] 27), blkE g1 (.cells #[I (q.Facts), vf, vg, va] 25), rdE vf q.First, rdE vg q.Goal, rdE va q.Acts] H) ?_ ?_
    · refine wpF_region ?_
      refine wpL_q (U := NoB) rfl (q_fieldAddr rfl Try.underlying27 rfl Try.sizeOf3 a36_6) ?_
      refine wpL_q (U := NoB) rfl (q_loadBlk rfl rfl Try.isAgg3 (hS26.blk 0 rfl) rfl (fun h => h)) ?_
      refine wpL_q (U := NoB) rfl (q_eql rfl rfl rfl) ?_
      refine wpL_q (U := NoB) rfl (q_move (v := B (decide (((questFault q).1) = 0))) rfl rfl) ?_
      by_cases hg38 : ((questFault q).1) = 0
      · have hb39 := Eq.trans rfl (congrArg B (decide_eq_true hg38))
        refine wpL_gq (U := NoB) rfl rfl rfl hb39 (q_move (v := I (r17s)) rfl a36_4) ?_
        refine wpL_go rfl rfl rfl hb39 ?_
        refine e_call rfl Try.call17 (arr3 (v0 := I (r17s)) (v1 := I (1)) (v2 := I (2)) rfl rfl rfl) (in_L r17s 1 2) ?_
        rintro _ H41 ⟨hxx, rfl⟩
        have hS42 : St H0 NoB NoB [blkE g21 (.cells #[I ((questFault q).1), I ((questFault q).2)] 27), rdE r17 r17p, blkE g11 (.cells #[I ((questFault q).1), I ((questFault q).2)] 27), blkE g1 (.cells #[I (q.Facts), vf, vg, va] 25), rdE vf q.First, rdE vg q.Goal, rdE va q.Acts] H41 := hS26.ext hxx
        refine wpL_q (U := NoB) rfl (q_pickT (v := B (decide (1 ≤ r17s ∧ r17s ≤ 2))) rfl hb39 rfl) ?_
        refine wpL_q (U := NoB) rfl (q_assign (v := B (decide (1 ≤ r17s ∧ r17s ≤ 2))) rfl rfl) ?_
        exact ⟨(Eq.trans rfl (congrArg B (decide_congr_of ((Iff.rfl).trans (((and_iff_right hg38).trans Iff.rfl)).symm)))), hS42⟩
      · have hb40 := Eq.trans rfl (congrArg B (decide_eq_false hg38))
        refine wpL_gs rfl rfl rfl hb40 rfl ?_
        refine wpL_gs rfl rfl rfl hb40 rfl ?_
        refine wpL_q (U := NoB) rfl (q_pickF (v := B (false)) rfl hb40 rfl) ?_
        refine wpL_q (U := NoB) rfl (q_assign (v := B (false)) rfl rfl) ?_
        exact ⟨(Eq.trans rfl (congrArg B ((decide_eq_false (fun h => hg38 h.1)).symm))), hS26⟩
    rintro f44 H44 ⟨a44_2, hS44⟩
    clear a36_1 a36_38 a36_4 a36_5 a36_6
    refine wpF_ret ?_
    refine ⟨_, resT a44_2 resN, hS44.frame, ?_⟩
    show (B (decide ((((questFault q).1) = 0) ∧ (1 ≤ r17s ∧ r17s ≤ 2)))) = B true
    exact congrArg B (decide_eq_true ⟨hz, hso⟩)
  refine wpF_skip ?_
  refine wpF_seq ?_
  refine wpF_cut (fun f H => ∃ (r45 : Value), ∃ (r45p : List Int), ∃ (r45o : Bool), (BestOk q r45o r45p) ∧ f 4 = I (r17s) ∧ f 5 = r17 ∧ f 6 = PT g21 0 ∧ f 7 = r45 ∧ f 8 = B (r45o) ∧ St H0 NoB NoB [rdE r45 r45p, blkE g21 (.cells #[I ((questFault q).1), I ((questFault q).2)] 27), rdE r17 r17p, blkE g11 (.cells #[I ((questFault q).1), I ((questFault q).2)] 27), blkE g1 (.cells #[I (q.Facts), vf, vg, va] 25), rdE vf q.First, rdE vg q.Goal, rdE va q.Acts] H) ?_ ?_
  · refine wpF_region ?_
    refine wpL_q (U := NoB) rfl (q_loadBlkA rfl a36_1 Try.isAgg25 Try.sizeOf25 rfl (hS26.blk 3 rfl) (fun h => h)) ?_
    refine wpL_o rfl ?_
    refine e_call rfl Try.call28 (arr1 (v0 := Value.agg #[I (q.Facts), vf, vg, va]) rfl) (Plan_R vf vg va q (by first | assumption | (constructor <;> omega)) (hS26.rdS 4 rfl) (hS26.rdS 5 rfl) (hS26.rdS 6 rfl) hQ) ?_
    rintro _ H46 ⟨hxx, r45, r45p, r45o, rfl, hrr45, hPr45⟩
    have hS47 : St H0 NoB NoB [rdE r45 r45p, blkE g21 (.cells #[I ((questFault q).1), I ((questFault q).2)] 27), rdE r17 r17p, blkE g11 (.cells #[I ((questFault q).1), I ((questFault q).2)] 27), blkE g1 (.cells #[I (q.Facts), vf, vg, va] 25), rdE vf q.First, rdE vg q.Goal, rdE va q.Acts] H46 := (hS26.res hxx hrr45)
    refine wpL_q (U := NoB) rfl (q_move (v := Value.tuple #[r45, B (r45o)]) rfl rfl) ?_
    refine wpL_q (U := NoB) rfl (q_extract (vs := #[r45, B (r45o)]) (v := r45) rfl rfl rfl) ?_
    refine wpL_q (U := NoB) rfl (q_extract (vs := #[r45, B (r45o)]) (v := B (r45o)) rfl rfl rfl) ?_
    refine wpL_q (U := NoB) rfl (q_assign (v := r45) rfl rfl) ?_
    refine wpL_q (U := NoB) rfl (q_assign (v := B (r45o)) rfl rfl) ?_
    exact ⟨r45, r45p, r45o, hPr45, a36_4, a36_5, a36_6, rfl, rfl, hS47⟩
  rintro f49 H49 ⟨r45, r45p, r45o, hPr45, a49_4, a49_5, a49_6, a49_7, a49_8, hS49⟩
  clear a36_1 a36_38 a36_4 a36_5 a36_6
  have hsm := says_same hD hz hPr45
  refine wpF_seq ?_
  refine wpF_seq ?_
  refine wpF_cut (fun f H => f 4 = I (r17s) ∧ f 5 = r17 ∧ f 6 = PT g21 0 ∧ f 7 = r45 ∧ f 52 = B (!r45o) ∧ H49 = H) ?_ ?_
  · refine wpF_region ?_
    refine wpL_q (U := NoB) rfl (q_move (v := B (r45o)) rfl a49_8) ?_
    refine wpL_q (U := NoB) rfl (q_not rfl rfl) ?_
    exact ⟨a49_4, a49_5, a49_6, a49_7, rfl, rfl⟩
  rintro f50 _ ⟨a50_4, a50_5, a50_6, a50_7, a50_52, rfl⟩
  clear a49_4 a49_5 a49_6 a49_7 a49_8
  refine wpF_cond a50_52 (fun h52 => ?t69) (fun h52 => ?e69)
  case t69 =>
    refine wpF_seq ?_
    refine wpF_cut (fun f H => f 2 = B (decide (((((questFault q).1) = 0) ∧ (r17s = 2)) ∧ ((r17p.length : Int) = 0))) ∧ H49 = H) ?_ ?_
    · refine wpF_region ?_
      refine wpL_q (U := NoB) rfl (q_fieldAddr rfl Try.underlying27 rfl Try.sizeOf3 a50_6) ?_
      refine wpL_q (U := NoB) rfl (q_loadBlk rfl rfl Try.isAgg3 (hS49.blk 1 rfl) rfl (fun h => h)) ?_
      refine wpL_q (U := NoB) rfl (q_eql rfl rfl rfl) ?_
      refine wpL_q (U := NoB) rfl (q_move (v := B (decide (((questFault q).1) = 0))) rfl rfl) ?_
      by_cases hg52 : ((questFault q).1) = 0
      · have hb53 := Eq.trans rfl (congrArg B (decide_eq_true hg52))
        refine wpL_gq (U := NoB) rfl rfl rfl hb53 (q_move (v := I (r17s)) rfl a50_4) ?_
        refine wpL_gq (U := NoB) rfl rfl rfl hb53 (q_eql rfl rfl rfl) ?_
        refine wpL_q (U := NoB) rfl (q_pickT (v := B (decide (r17s = 2))) rfl hb53 rfl) ?_
        refine wpL_q (U := NoB) rfl (q_move (v := B (decide (r17s = 2))) rfl rfl) ?_
        by_cases hg55 : r17s = 2
        · have hb56 := Eq.trans rfl (congrArg B (decide_eq_true hg55))
          refine wpL_gq (U := NoB) rfl rfl rfl hb56 (q_move (v := r17) rfl a50_5) ?_
          refine wpL_gq (U := NoB) rfl rfl rfl hb56 (q_lenRd rfl Try.underlying22 rfl (hS49.rdl 2 rfl)) ?_
          refine wpL_gq (U := NoB) rfl rfl rfl hb56 (q_eql rfl rfl rfl) ?_
          refine wpL_q (U := NoB) rfl (q_pickT (v := B (decide ((r17p.length : Int) = 0))) rfl hb56 rfl) ?_
          refine wpL_q (U := NoB) rfl (q_assign (v := B (decide ((r17p.length : Int) = 0))) rfl rfl) ?_
          exact ⟨(Eq.trans rfl (congrArg B (decide_congr_of ((Iff.rfl).trans (((and_iff_right ⟨hg52, hg55⟩).trans Iff.rfl)).symm)))), rfl⟩
        · have hb57 := Eq.trans rfl (congrArg B (decide_eq_false hg55))
          refine wpL_gs rfl rfl rfl hb57 rfl ?_
          refine wpL_gs rfl rfl rfl hb57 rfl ?_
          refine wpL_gs rfl rfl rfl hb57 rfl ?_
          refine wpL_q (U := NoB) rfl (q_pickF (v := B (false)) rfl hb57 rfl) ?_
          refine wpL_q (U := NoB) rfl (q_assign (v := B (false)) rfl rfl) ?_
          exact ⟨(Eq.trans rfl (congrArg B ((decide_eq_false (fun h => (fun h => hg55 h.2) h.1)).symm))), rfl⟩
      · have hb54 := Eq.trans rfl (congrArg B (decide_eq_false hg52))
        refine wpL_gs rfl rfl rfl hb54 rfl ?_
        refine wpL_gs rfl rfl rfl hb54 rfl ?_
        refine wpL_q (U := NoB) rfl (q_pickF (v := B (false)) rfl hb54 rfl) ?_
        refine wpL_q (U := NoB) rfl (q_move (v := B (false)) rfl rfl) ?_
        refine wpL_gs rfl rfl rfl rfl rfl ?_
        refine wpL_gs rfl rfl rfl rfl rfl ?_
        refine wpL_gs rfl rfl rfl rfl rfl ?_
        refine wpL_q (U := NoB) rfl (q_pickF (v := B (false)) rfl rfl rfl) ?_
        refine wpL_q (U := NoB) rfl (q_assign (v := B (false)) rfl rfl) ?_
        exact ⟨(Eq.trans rfl (congrArg B ((decide_eq_false (fun h => (fun h => hg52 h.1) h.1)).symm))), rfl⟩
    rintro f58 _ ⟨a58_2, rfl⟩
    clear a50_4 a50_5 a50_52 a50_6 a50_7
    refine wpF_ret ?_
    refine ⟨_, resT a58_2 resN, hS49.frame, ?_⟩
    show (B (decide (((((questFault q).1) = 0) ∧ (r17s = 2)) ∧ ((r17p.length : Int) = 0)))) = B true
    have ho := h52
    exact congrArg B (decide_eq_true (by simp at ho; simp [hz, hsm.1, hsm.2.2 ho, ho]))
  refine wpF_skip ?_
  refine wpF_seq ?_
  refine wpF_cut (fun f H => f 2 = B (decide (((((questFault q).1) = 0) ∧ (r17s = 1)) ∧ (r17p = r45p))) ∧ St H0 NoB NoB [rdE r45 r45p, blkE g21 (.cells #[I ((questFault q).1), I ((questFault q).2)] 27), rdE r17 r17p, blkE g11 (.cells #[I ((questFault q).1), I ((questFault q).2)] 27), blkE g1 (.cells #[I (q.Facts), vf, vg, va] 25), rdE vf q.First, rdE vg q.Goal, rdE va q.Acts] H) ?_ ?_
  · refine wpF_region ?_
    refine wpL_q (U := NoB) rfl (q_fieldAddr rfl Try.underlying27 rfl Try.sizeOf3 a50_6) ?_
    refine wpL_q (U := NoB) rfl (q_loadBlk rfl rfl Try.isAgg3 (hS49.blk 1 rfl) rfl (fun h => h)) ?_
    refine wpL_q (U := NoB) rfl (q_eql rfl rfl rfl) ?_
    refine wpL_q (U := NoB) rfl (q_move (v := B (decide (((questFault q).1) = 0))) rfl rfl) ?_
    by_cases hg59 : ((questFault q).1) = 0
    · have hb60 := Eq.trans rfl (congrArg B (decide_eq_true hg59))
      refine wpL_gq (U := NoB) rfl rfl rfl hb60 (q_move (v := I (r17s)) rfl a50_4) ?_
      refine wpL_gq (U := NoB) rfl rfl rfl hb60 (q_eql rfl rfl rfl) ?_
      refine wpL_q (U := NoB) rfl (q_pickT (v := B (decide (r17s = 1))) rfl hb60 rfl) ?_
      refine wpL_q (U := NoB) rfl (q_move (v := B (decide (r17s = 1))) rfl rfl) ?_
      by_cases hg62 : r17s = 1
      · have hb63 := Eq.trans rfl (congrArg B (decide_eq_true hg62))
        refine wpL_gq (U := NoB) rfl rfl rfl hb63 (q_move (v := r17) rfl a50_5) ?_
        refine wpL_gq (U := NoB) rfl rfl rfl hb63 (q_move (v := r45) rfl a50_7) ?_
        refine wpL_go rfl rfl rfl hb63 ?_
        refine e_call rfl Try.call26 (arr2 (v0 := r17) (v1 := r45) rfl rfl) (Ints_R r17 r45 _ _ (hS49.rdN 2 rfl) (hS49.rdN 0 rfl)) ?_
        rintro _ H65 ⟨hxx, rfl⟩
        have hS66 : St H0 NoB NoB [rdE r45 r45p, blkE g21 (.cells #[I ((questFault q).1), I ((questFault q).2)] 27), rdE r17 r17p, blkE g11 (.cells #[I ((questFault q).1), I ((questFault q).2)] 27), blkE g1 (.cells #[I (q.Facts), vf, vg, va] 25), rdE vf q.First, rdE vg q.Goal, rdE va q.Acts] H65 := hS49.ext hxx
        refine wpL_q (U := NoB) rfl (q_pickT (v := B (decide (r17p = r45p))) rfl hb63 rfl) ?_
        refine wpL_q (U := NoB) rfl (q_assign (v := B (decide (r17p = r45p))) rfl rfl) ?_
        exact ⟨(Eq.trans rfl (congrArg B (decide_congr_of ((Iff.rfl).trans (((and_iff_right ⟨hg59, hg62⟩).trans Iff.rfl)).symm)))), hS66⟩
      · have hb64 := Eq.trans rfl (congrArg B (decide_eq_false hg62))
        refine wpL_gs rfl rfl rfl hb64 rfl ?_
        refine wpL_gs rfl rfl rfl hb64 rfl ?_
        refine wpL_gs rfl rfl rfl hb64 rfl ?_
        refine wpL_q (U := NoB) rfl (q_pickF (v := B (false)) rfl hb64 rfl) ?_
        refine wpL_q (U := NoB) rfl (q_assign (v := B (false)) rfl rfl) ?_
        exact ⟨(Eq.trans rfl (congrArg B ((decide_eq_false (fun h => (fun h => hg62 h.2) h.1)).symm))), hS49⟩
    · have hb61 := Eq.trans rfl (congrArg B (decide_eq_false hg59))
      refine wpL_gs rfl rfl rfl hb61 rfl ?_
      refine wpL_gs rfl rfl rfl hb61 rfl ?_
      refine wpL_q (U := NoB) rfl (q_pickF (v := B (false)) rfl hb61 rfl) ?_
      refine wpL_q (U := NoB) rfl (q_move (v := B (false)) rfl rfl) ?_
      refine wpL_gs rfl rfl rfl rfl rfl ?_
      refine wpL_gs rfl rfl rfl rfl rfl ?_
      refine wpL_gs rfl rfl rfl rfl rfl ?_
      refine wpL_q (U := NoB) rfl (q_pickF (v := B (false)) rfl rfl rfl) ?_
      refine wpL_q (U := NoB) rfl (q_assign (v := B (false)) rfl rfl) ?_
      exact ⟨(Eq.trans rfl (congrArg B ((decide_eq_false (fun h => (fun h => hg59 h.1) h.1)).symm))), hS49⟩
  rintro f68 H68 ⟨a68_2, hS68⟩
  clear a50_4 a50_5 a50_52 a50_6 a50_7
  refine wpF_ret ?_
  refine ⟨_, resT a68_2 resN, hS68.frame, ?_⟩
  show (B (decide (((((questFault q).1) = 0) ∧ (r17s = 1)) ∧ (r17p = r45p)))) = B true
  have ho := h52
  exact congrArg B (decide_eq_true (by simp at ho; simp [hz, hsm.1, hsm.2.1, ho]))

end Go.Um
