import Derived.Test.YtkhpaklglggagaaProg
import Derived.Test.YtkhpaklglggagaaAutoQ2
import Derived.Test.YtkhpaklglggagaaAutoQ3
import Derived.Test.YtkhpaklglggagaaAutoN1
import Derived.Test.YtkhpaklglggagaaAutoP5
import Derived.Test.YtkhpaklglggagaaUmSub
namespace Go.Um
open Go.Proofs
open GoT (sz ag rdc)
open KeyT (kv)

theorem fl24_AutoPairs1 (a b c d : Int) (w : World) : (Op.equalIn 10000 24 (.agg #[I a, I b]) (.agg #[I c, I d])).run Try.prog w = .ok (decide (a = c ∧ b = d)) w := eq2_run Try.underlying24 Try.underlying3 Try.underlying3 (by decide) (by decide) rfl rfl Try.isAgg3 Try.isAgg3 Try.stoodInHeld24 a b c d w

set_option maxHeartbeats 8000000 in
set_option maxRecDepth 100000 in
theorem AutoPairs_L {H0 : Heap} (vn vt wn wt : Value) (a b : Auto) (rn : Rd NoB H0 vn a.Next) (rt : Rd NoB H0 vt a.Takes) (hsg : In64 a.Signs) (sw : Rd NoB H0 wn b.Next) (st : Rd NoB H0 wt b.Takes) (hsgb : In64 b.Signs) : CallsH Try.prog 7 #[Value.agg #[I (a.Signs), vn, vt], Value.agg #[I (b.Signs), wn, wt]] H0 (fun rv_ H' => Ext NoB H0 H' ∧ rv_ = B true) := by
  have hsn := (Rd.list.1 rn).small
  have hsm := (Rd.list.1 sw).small
  have g1 : In64 (andR a b).1.Signs := bothR_sg hsg
  have g2 : In64 (orR a b).1.Signs := bothR_sg hsg
  have g3 : In64 (prodA a b (opB true)).Signs := prod_sg hsg
  have g4 : In64 (prodA a b (opB false)).Signs := prod_sg hsg
  have g5 : In64 (leastA a).Signs := leastA_sg hsg
  have g6 : In64 (leastA b).Signs := leastA_sg hsgb
  have hS0 : St H0 NoB NoB [rdE vn a.Next, rdE vt a.Takes, rdE wn b.Next, rdE wt b.Takes] H0 := St.arg (St.arg (St.arg (St.arg (St.start (fun _ h => h.elim)) (Bl0.nil) st (fun _ h => h)) (Bl0.cons (Bl0.nil)) sw (fun _ h => h)) (Bl0.cons (Bl0.cons (Bl0.nil))) rt (fun _ h => h)) (Bl0.cons (Bl0.cons (Bl0.cons (Bl0.nil)))) rn (fun _ h => h)
  refine callsH_of_wpF (args := [Value.agg #[I (a.Signs), vn, vt], Value.agg #[I (b.Signs), wn, wt]]) (rs := [.tmp 4]) Try.func7 rfl Try.ntmps7 Try.results7 (by kernel_rfl) (Nat.le_of_ble_eq_true rfl) ?_
  have a0_0 : argF [Value.agg #[I (a.Signs), vn, vt], Value.agg #[I (b.Signs), wn, wt]] 0 = Value.agg #[I (a.Signs), vn, vt] := rfl
  have a0_1 : argF [Value.agg #[I (a.Signs), vn, vt], Value.agg #[I (b.Signs), wn, wt]] 1 = Value.agg #[I (b.Signs), wn, wt] := rfl
  generalize argF [Value.agg #[I (a.Signs), vn, vt], Value.agg #[I (b.Signs), wn, wt]] = f0 at *
  refine wpF_seq ?_
  refine wpF_cut (fun f H => ∃ (g1 : Nat), ∃ (g4 : Nat), f 2 = PT g1 0 ∧ f 3 = PT g4 0 ∧ St H0 NoB NoB [blkE g4 (.cells #[I (b.Signs), wn, wt] 36), blkE g1 (.cells #[I (a.Signs), vn, vt] 36), rdE vn a.Next, rdE vt a.Takes, rdE wn b.Next, rdE wt b.Takes] H) ?_ ?_
  · refine wpF_region ?_
    refine wpL_o rfl ?_
    refine e_box (v := Value.agg #[I (a.Signs), vn, vt]) rfl a0_0 hS0 (fun g1 H2 hS3 hxx => ?_)
    replace hS3 : St H0 NoB NoB [blkE g1 (.cells #[I (a.Signs), vn, vt] 36), rdE vn a.Next, rdE vt a.Takes, rdE wn b.Next, rdE wt b.Takes] H2 := hS3
    refine wpL_o rfl ?_
    refine e_box (v := Value.agg #[I (b.Signs), wn, wt]) rfl a0_1 hS3 (fun g4 H5 hS6 hxx => ?_)
    replace hS6 : St H0 NoB NoB [blkE g4 (.cells #[I (b.Signs), wn, wt] 36), blkE g1 (.cells #[I (a.Signs), vn, vt] 36), rdE vn a.Next, rdE vt a.Takes, rdE wn b.Next, rdE wt b.Takes] H5 := hS6
    refine wpL_q (U := NoB) rfl (q_assign (v := B (false)) rfl rfl) ?_
    exact ⟨g1, g4, rfl, rfl, hS6⟩
  rintro f7 H7 ⟨g1, g4, a7_2, a7_3, hS7⟩
  clear a0_0 a0_1
  refine wpF_seq ?_
  refine wpF_seq ?_
  refine wpF_cut (fun f H => f 2 = PT g1 0 ∧ f 3 = PT g4 0 ∧ f 23 = B (decide ((60 < (a.Next.length : Int)) ∨ (60 < (b.Next.length : Int)))) ∧ H7 = H) ?_ ?_
  · refine wpF_region ?_
    refine wpL_q (U := NoB) rfl (q_fieldAddr rfl Try.underlying36 rfl Try.sizeOf27 a7_2) ?_
    refine wpL_q (U := NoB) rfl (q_loadBlk rfl rfl Try.isAgg27 (hS7.blk 1 rfl) rfl (fun h => h)) ?_
    refine wpL_q (U := NoB) rfl (q_lenRd rfl Try.underlying27 rfl (hS7.rdl 2 rfl)) ?_
    refine wpL_q (U := NoB) rfl (q_gtr rfl rfl rfl) ?_
    refine wpL_q (U := NoB) rfl (q_move (v := B (decide (60 < (a.Next.length : Int)))) rfl rfl) ?_
    by_cases hg8 : 60 < (a.Next.length : Int)
    · have hb9 := Eq.trans rfl (congrArg B (decide_eq_true hg8))
      refine wpL_gs rfl rfl rfl hb9 rfl ?_
      refine wpL_gs rfl rfl rfl hb9 rfl ?_
      refine wpL_gs rfl rfl rfl hb9 rfl ?_
      refine wpL_gs rfl rfl rfl hb9 rfl ?_
      refine wpL_q (U := NoB) rfl (q_pickT (v := B (true)) rfl hb9 rfl) ?_
      exact ⟨a7_2, a7_3, (Eq.trans rfl (congrArg B ((decide_eq_true (Or.inl hg8)).symm))), rfl⟩
    · have hb10 := Eq.trans rfl (congrArg B (decide_eq_false hg8))
      refine wpL_gq (U := NoB) rfl rfl rfl hb10 (q_fieldAddr rfl Try.underlying36 rfl Try.sizeOf27 a7_3) ?_
      refine wpL_gq (U := NoB) rfl rfl rfl hb10 (q_loadBlk rfl rfl Try.isAgg27 (hS7.blk 0 rfl) rfl (fun h => h)) ?_
      refine wpL_gq (U := NoB) rfl rfl rfl hb10 (q_lenRd rfl Try.underlying27 rfl (hS7.rdl 4 rfl)) ?_
      refine wpL_gq (U := NoB) rfl rfl rfl hb10 (q_gtr rfl rfl rfl) ?_
      refine wpL_q (U := NoB) rfl (q_pickF (v := B (decide (60 < (b.Next.length : Int)))) rfl hb10 rfl) ?_
      exact ⟨a7_2, a7_3, (Eq.trans rfl (congrArg B (decide_congr_of ((Iff.rfl).trans (((or_iff_right hg8).trans Iff.rfl)).symm)))), rfl⟩
  rintro f11 _ ⟨a11_2, a11_3, a11_23, rfl⟩
  clear a7_2 a7_3
  refine wpF_condP a11_23 (fun h23 => ?t166) (fun h23 => ?e166)
  case t166 =>
    refine wpF_seq ?_
    refine wpF_cut (fun f H => f 4 = B (true) ∧ H7 = H) ?_ ?_
    · refine wpF_region ?_
      refine wpL_q (U := NoB) rfl (q_assign (v := B (true)) rfl rfl) ?_
      exact ⟨rfl, rfl⟩
    rintro f13 _ ⟨a13_4, rfl⟩
    clear a11_2 a11_23 a11_3
    refine wpF_ret ?_
    refine ⟨_, resT a13_4 resN, hS7.frame, ?_⟩
    show (B (true)) = B true
    rfl
  refine wpF_skip ?_
  refine wpF_seq ?_
  refine wpF_cut (fun f H => ∃ (g17 : Nat), f 2 = PT g1 0 ∧ f 3 = PT g4 0 ∧ f 5 = PT g17 0 ∧ St H0 NoB NoB [blkE g17 (.cells #[I ((autoFault a).1), I ((autoFault a).2)] 24), blkE g4 (.cells #[I (b.Signs), wn, wt] 36), blkE g1 (.cells #[I (a.Signs), vn, vt] 36), rdE vn a.Next, rdE vt a.Takes, rdE wn b.Next, rdE wt b.Takes] H) ?_ ?_
  · refine wpF_region ?_
    refine wpL_q (U := NoB) rfl (q_loadBlkA rfl a11_2 Try.isAgg36 Try.sizeOf36 rfl (hS7.blk 1 rfl) (fun h => h)) ?_
    refine wpL_o rfl ?_
    refine e_call rfl Try.call20 (arr1 (v0 := Value.agg #[I (a.Signs), vn, vt]) rfl) (Auto_R vn vt a (hS7.rdN 2 rfl) (hS7.rdN 3 rfl) hsg) ?_
    rintro _ H14 ⟨hxx, rfl⟩
    have hS15 : St H0 NoB NoB [blkE g4 (.cells #[I (b.Signs), wn, wt] 36), blkE g1 (.cells #[I (a.Signs), vn, vt] 36), rdE vn a.Next, rdE vt a.Takes, rdE wn b.Next, rdE wt b.Takes] H14 := hS7.ext hxx
    refine wpL_o rfl ?_
    refine e_alloc rfl Try.zeroValue24 hS15 (fun g17 H18 hS19 hxx => ?_)
    replace hS19 : St H0 NoB NoB [blkE g17 (.cells #[I (0), I (0)] 24), blkE g4 (.cells #[I (b.Signs), wn, wt] 36), blkE g1 (.cells #[I (a.Signs), vn, vt] 36), rdE vn a.Next, rdE vt a.Takes, rdE wn b.Next, rdE wt b.Takes] H18 := hS19
    refine wpL_o rfl ?_
    refine e_storeBlkA (cs' := #[I ((autoFault a).1), I ((autoFault a).2)]) rfl rfl rfl Try.sizeOf24 rfl rfl (List.forall_mem_cons.2 ⟨rfl, List.forall_mem_cons.2 ⟨rfl, List.forall_mem_nil _⟩⟩) hS19 (fun H20 hS21 hxx => ?_)
    replace hS21 : St H0 NoB NoB [blkE g17 (.cells #[I ((autoFault a).1), I ((autoFault a).2)] 24), blkE g4 (.cells #[I (b.Signs), wn, wt] 36), blkE g1 (.cells #[I (a.Signs), vn, vt] 36), rdE vn a.Next, rdE vt a.Takes, rdE wn b.Next, rdE wt b.Takes] H20 := hS21
    exact ⟨g17, a11_2, a11_3, rfl, hS21⟩
  rintro f22 H22 ⟨g17, a22_2, a22_3, a22_5, hS22⟩
  clear a11_2 a11_23 a11_3
  refine wpF_seq ?_
  refine wpF_seq ?_
  refine wpF_cut (fun f H => f 2 = PT g1 0 ∧ f 3 = PT g4 0 ∧ f 5 = PT g17 0 ∧ f 28 = B (decide (((autoFault a).1) = 0)) ∧ H22 = H) ?_ ?_
  · refine wpF_region ?_
    refine wpL_q (U := NoB) rfl (q_fieldAddr rfl Try.underlying24 rfl Try.sizeOf3 a22_5) ?_
    refine wpL_q (U := NoB) rfl (q_loadBlk rfl rfl Try.isAgg3 (hS22.blk 0 rfl) rfl (fun h => h)) ?_
    refine wpL_q (U := NoB) rfl (q_eql rfl rfl rfl) ?_
    exact ⟨a22_2, a22_3, a22_5, rfl, rfl⟩
  rintro f23 _ ⟨a23_2, a23_3, a23_5, a23_28, rfl⟩
  clear a22_2 a22_3 a22_5
  refine wpF_cut (fun f H => ∃ (c1 : Int), ∃ (e1 : Int), (W1 a b c1 e1) ∧ f 2 = PT g1 0 ∧ f 3 = PT g4 0 ∧ f 5 = PT g17 0 ∧ St H0 NoB NoB [blkE g17 (.cells #[I (c1), I (e1)] 24), blkE g4 (.cells #[I (b.Signs), wn, wt] 36), blkE g1 (.cells #[I (a.Signs), vn, vt] 36), rdE vn a.Next, rdE vt a.Takes, rdE wn b.Next, rdE wt b.Takes] H) ?_ ?_
  · refine wpF_condP a23_28 (fun h28 => ?t32) (fun h28 => ?e32)
    case e32 =>
      refine wpF_skip ?_
      exact ⟨(autoFault a).1, (autoFault a).2, ⟨(fun h => absurd h h28), (fun _ => rfl)⟩, a23_2, a23_3, a23_5, (show St H0 NoB NoB [blkE g17 (.cells #[I (((autoFault a).1)), I (((autoFault a).2))] 24), blkE g4 (.cells #[I (b.Signs), wn, wt] 36), blkE g1 (.cells #[I (a.Signs), vn, vt] 36), rdE vn a.Next, rdE vt a.Takes, rdE wn b.Next, rdE wt b.Takes] H22 from hS22)⟩
    refine wpF_cut (fun f H => f 2 = PT g1 0 ∧ f 3 = PT g4 0 ∧ f 5 = PT g17 0 ∧ St H0 NoB NoB [blkE g17 (.cells #[I ((autoFault b).1), I ((autoFault b).2)] 24), blkE g4 (.cells #[I (b.Signs), wn, wt] 36), blkE g1 (.cells #[I (a.Signs), vn, vt] 36), rdE vn a.Next, rdE vt a.Takes, rdE wn b.Next, rdE wt b.Takes] H) ?_ ?_
    · refine wpF_region ?_
      refine wpL_q (U := NoB) rfl (q_loadBlkA rfl a23_3 Try.isAgg36 Try.sizeOf36 rfl (hS22.blk 1 rfl) (fun h => h)) ?_
      refine wpL_o rfl ?_
      refine e_call rfl Try.call20 (arr1 (v0 := Value.agg #[I (b.Signs), wn, wt]) rfl) (Auto_R wn wt b (hS22.rdN 5 rfl) (hS22.rdN 6 rfl) hsgb) ?_
      rintro _ H26 ⟨hxx, rfl⟩
      have hS27 : St H0 NoB NoB [blkE g17 (.cells #[I ((autoFault a).1), I ((autoFault a).2)] 24), blkE g4 (.cells #[I (b.Signs), wn, wt] 36), blkE g1 (.cells #[I (a.Signs), vn, vt] 36), rdE vn a.Next, rdE vt a.Takes, rdE wn b.Next, rdE wt b.Takes] H26 := hS22.ext hxx
      refine wpL_o rfl ?_
      refine e_storeBlkA (cs' := #[I ((autoFault b).1), I ((autoFault b).2)]) rfl a23_5 rfl Try.sizeOf24 rfl rfl (List.forall_mem_cons.2 ⟨rfl, List.forall_mem_cons.2 ⟨rfl, List.forall_mem_nil _⟩⟩) hS27 (fun H29 hS30 hxx => ?_)
      replace hS30 : St H0 NoB NoB [blkE g17 (.cells #[I ((autoFault b).1), I ((autoFault b).2)] 24), blkE g4 (.cells #[I (b.Signs), wn, wt] 36), blkE g1 (.cells #[I (a.Signs), vn, vt] 36), rdE vn a.Next, rdE vt a.Takes, rdE wn b.Next, rdE wt b.Takes] H29 := hS30
      exact ⟨a23_2, a23_3, a23_5, hS30⟩
    rintro f31 H31 ⟨a31_2, a31_3, a31_5, hS31⟩
    clear a23_2 a23_28 a23_3 a23_5
    exact ⟨(autoFault b).1, (autoFault b).2, ⟨(fun _ => rfl), (fun h => absurd h28 h)⟩, a31_2, a31_3, a31_5, (show St H0 NoB NoB [blkE g17 (.cells #[I (((autoFault b).1)), I (((autoFault b).2))] 24), blkE g4 (.cells #[I (b.Signs), wn, wt] 36), blkE g1 (.cells #[I (a.Signs), vn, vt] 36), rdE vn a.Next, rdE vt a.Takes, rdE wn b.Next, rdE wt b.Takes] H31 from hS31)⟩
  rintro f24 H24 ⟨c1, e1, hw1, a24_2, a24_3, a24_5, hS24⟩
  clear a23_2 a23_28 a23_3 a23_5
  refine wpF_seq ?_
  refine wpF_seq ?_
  refine wpF_cut (fun f H => f 2 = PT g1 0 ∧ f 3 = PT g4 0 ∧ f 5 = PT g17 0 ∧ f 40 = B (decide ((c1 = 0) ∧ (a.Signs ≠ b.Signs))) ∧ H24 = H) ?_ ?_
  · refine wpF_region ?_
    refine wpL_q (U := NoB) rfl (q_fieldAddr rfl Try.underlying24 rfl Try.sizeOf3 a24_5) ?_
    refine wpL_q (U := NoB) rfl (q_loadBlk rfl rfl Try.isAgg3 (hS24.blk 0 rfl) rfl (fun h => h)) ?_
    refine wpL_q (U := NoB) rfl (q_eql rfl rfl rfl) ?_
    refine wpL_q (U := NoB) rfl (q_move (v := B (decide (c1 = 0))) rfl rfl) ?_
    by_cases hg33 : c1 = 0
    · have hb34 := Eq.trans rfl (congrArg B (decide_eq_true hg33))
      refine wpL_gq (U := NoB) rfl rfl rfl hb34 (q_fieldAddr rfl Try.underlying36 rfl Try.sizeOf3 a24_2) ?_
      refine wpL_gq (U := NoB) rfl rfl rfl hb34 (q_loadBlk rfl rfl Try.isAgg3 (hS24.blk 2 rfl) rfl (fun h => h)) ?_
      refine wpL_gq (U := NoB) rfl rfl rfl hb34 (q_fieldAddr rfl Try.underlying36 rfl Try.sizeOf3 a24_3) ?_
      refine wpL_gq (U := NoB) rfl rfl rfl hb34 (q_loadBlk rfl rfl Try.isAgg3 (hS24.blk 1 rfl) rfl (fun h => h)) ?_
      refine wpL_gq (U := NoB) rfl rfl rfl hb34 (q_neq rfl rfl rfl) ?_
      refine wpL_q (U := NoB) rfl (q_pickT (v := B (decide (a.Signs ≠ b.Signs))) rfl hb34 rfl) ?_
      exact ⟨a24_2, a24_3, a24_5, (Eq.trans rfl (congrArg B (decide_congr_of ((Iff.rfl).trans (((and_iff_right hg33).trans Iff.rfl)).symm)))), rfl⟩
    · have hb35 := Eq.trans rfl (congrArg B (decide_eq_false hg33))
      refine wpL_gs rfl rfl rfl hb35 rfl ?_
      refine wpL_gs rfl rfl rfl hb35 rfl ?_
      refine wpL_gs rfl rfl rfl hb35 rfl ?_
      refine wpL_gs rfl rfl rfl hb35 rfl ?_
      refine wpL_gs rfl rfl rfl hb35 rfl ?_
      refine wpL_q (U := NoB) rfl (q_pickF (v := B (false)) rfl hb35 rfl) ?_
      exact ⟨a24_2, a24_3, a24_5, (Eq.trans rfl (congrArg B ((decide_eq_false (fun h => hg33 h.1)).symm))), rfl⟩
  rintro f36 _ ⟨a36_2, a36_3, a36_5, a36_40, rfl⟩
  clear a24_2 a24_3 a24_5
  refine wpF_cut (fun f H => ∃ (c2 : Int), ∃ (e2 : Int), (c2 = (pairFault a b).1) ∧ (e2 = (pairFault a b).2) ∧ f 2 = PT g1 0 ∧ f 3 = PT g4 0 ∧ f 5 = PT g17 0 ∧ St H0 NoB NoB [blkE g17 (.cells #[I (c2), I (e2)] 24), blkE g4 (.cells #[I (b.Signs), wn, wt] 36), blkE g1 (.cells #[I (a.Signs), vn, vt] 36), rdE vn a.Next, rdE vt a.Takes, rdE wn b.Next, rdE wt b.Takes] H) ?_ ?_
  · refine wpF_condP a36_40 (fun h40 => ?t45) (fun h40 => ?e45)
    case e45 =>
      refine wpF_skip ?_
      exact ⟨c1, e1, (hw1.no h40).1, (hw1.no h40).2, a36_2, a36_3, a36_5, hS24⟩
    refine wpF_cut (fun f H => f 2 = PT g1 0 ∧ f 3 = PT g4 0 ∧ f 5 = PT g17 0 ∧ St H0 NoB NoB [blkE g17 (.cells #[I (11), I (-1)] 24), blkE g4 (.cells #[I (b.Signs), wn, wt] 36), blkE g1 (.cells #[I (a.Signs), vn, vt] 36), rdE vn a.Next, rdE vt a.Takes, rdE wn b.Next, rdE wt b.Takes] H) ?_ ?_
    · refine wpF_region ?_
      refine wpL_o rfl ?_
      refine e_call rfl Try.call15 (arr2 (v0 := I (11)) (v1 := I (-1)) rfl rfl) (fault_L 11 (-1)) ?_
      rintro _ H39 ⟨hxx, rfl⟩
      have hS40 : St H0 NoB NoB [blkE g17 (.cells #[I (c1), I (e1)] 24), blkE g4 (.cells #[I (b.Signs), wn, wt] 36), blkE g1 (.cells #[I (a.Signs), vn, vt] 36), rdE vn a.Next, rdE vt a.Takes, rdE wn b.Next, rdE wt b.Takes] H39 := hS24.ext hxx
      refine wpL_o rfl ?_
      refine e_storeBlkA (cs' := #[I (11), I (-1)]) rfl a36_5 rfl Try.sizeOf24 rfl rfl (List.forall_mem_cons.2 ⟨rfl, List.forall_mem_cons.2 ⟨rfl, List.forall_mem_nil _⟩⟩) hS40 (fun H42 hS43 hxx => ?_)
      replace hS43 : St H0 NoB NoB [blkE g17 (.cells #[I (11), I (-1)] 24), blkE g4 (.cells #[I (b.Signs), wn, wt] 36), blkE g1 (.cells #[I (a.Signs), vn, vt] 36), rdE vn a.Next, rdE vt a.Takes, rdE wn b.Next, rdE wt b.Takes] H42 := hS43
      exact ⟨a36_2, a36_3, a36_5, hS43⟩
    rintro f44 H44 ⟨a44_2, a44_3, a44_5, hS44⟩
    clear a36_2 a36_3 a36_40 a36_5
    exact ⟨11, -1, (hw1.yes h40).1, (hw1.yes h40).2, a44_2, a44_3, a44_5, (show St H0 NoB NoB [blkE g17 (.cells #[I ((11 : Int)), I ((-1 : Int))] 24), blkE g4 (.cells #[I (b.Signs), wn, wt] 36), blkE g1 (.cells #[I (a.Signs), vn, vt] 36), rdE vn a.Next, rdE vt a.Takes, rdE wn b.Next, rdE wt b.Takes] H44 from hS44)⟩
  rintro f37 H37 ⟨c2, e2, hc2, he2, a37_2, a37_3, a37_5, hS37⟩
  clear a36_2 a36_3 a36_40 a36_5
  refine wpF_seq ?_
  refine wpF_cut (fun f H => ∃ (r46 : Value), ∃ (r47 : Value), ∃ (g51 : Nat), ∃ (g54 : Nat), f 2 = PT g1 0 ∧ f 3 = PT g4 0 ∧ f 5 = PT g17 0 ∧ f 6 = PT g51 0 ∧ f 7 = PT g54 0 ∧ St H0 NoB NoB [blkE g54 (.cells #[I ((andR a b).2.1), I ((andR a b).2.2)] 24), blkE g51 (.cells #[I ((andR a b).1.Signs), r46, r47] 36), rdE r46 ((andR a b).1.Next), rdE r47 ((andR a b).1.Takes), blkE g17 (.cells #[I (c2), I (e2)] 24), blkE g4 (.cells #[I (b.Signs), wn, wt] 36), blkE g1 (.cells #[I (a.Signs), vn, vt] 36), rdE vn a.Next, rdE vt a.Takes, rdE wn b.Next, rdE wt b.Takes] H) ?_ ?_
  · refine wpF_region ?_
    refine wpL_q (U := NoB) rfl (q_loadBlkA rfl a37_2 Try.isAgg36 Try.sizeOf36 rfl (hS37.blk 2 rfl) (fun h => h)) ?_
    refine wpL_q (U := NoB) rfl (q_loadBlkA rfl a37_3 Try.isAgg36 Try.sizeOf36 rfl (hS37.blk 1 rfl) (fun h => h)) ?_
    refine wpL_o rfl ?_
    refine e_call rfl Try.call33 (arr2 (v0 := Value.agg #[I (a.Signs), vn, vt]) (v1 := Value.agg #[I (b.Signs), wn, wt]) rfl rfl) (And_L vn vt wn wt a b (hS37.rdS 3 rfl) (hS37.rdS 4 rfl) hsg (hS37.rdS 5 rfl) (hS37.rdS 6 rfl) hsgb) ?_
    rintro _ H48 ⟨hxx, r46, r47, rfl, hrr46, hrr47⟩
    have hS49 : St H0 NoB NoB [rdE r46 ((andR a b).1.Next), rdE r47 ((andR a b).1.Takes), blkE g17 (.cells #[I (c2), I (e2)] 24), blkE g4 (.cells #[I (b.Signs), wn, wt] 36), blkE g1 (.cells #[I (a.Signs), vn, vt] 36), rdE vn a.Next, rdE vt a.Takes, rdE wn b.Next, rdE wt b.Takes] H48 := (hS37.res2 hxx hrr46 hrr47)
    refine wpL_q (U := NoB) rfl (q_move (v := Value.tuple #[Value.agg #[I ((andR a b).1.Signs), r46, r47], Value.agg #[I ((andR a b).2.1), I ((andR a b).2.2)]]) rfl rfl) ?_
    refine wpL_q (U := NoB) rfl (q_extract (vs := #[Value.agg #[I ((andR a b).1.Signs), r46, r47], Value.agg #[I ((andR a b).2.1), I ((andR a b).2.2)]]) (v := Value.agg #[I ((andR a b).1.Signs), r46, r47]) rfl rfl rfl) ?_
    refine wpL_q (U := NoB) rfl (q_extract (vs := #[Value.agg #[I ((andR a b).1.Signs), r46, r47], Value.agg #[I ((andR a b).2.1), I ((andR a b).2.2)]]) (v := Value.agg #[I ((andR a b).2.1), I ((andR a b).2.2)]) rfl rfl rfl) ?_
    refine wpL_o rfl ?_
    refine e_alloc rfl Try.zeroValue36 hS49 (fun g51 H52 hS53 hxx => ?_)
    replace hS53 : St H0 NoB NoB [blkE g51 (.cells #[I (0), (Value.slice none 0 0), (Value.slice none 0 0)] 36), rdE r46 ((andR a b).1.Next), rdE r47 ((andR a b).1.Takes), blkE g17 (.cells #[I (c2), I (e2)] 24), blkE g4 (.cells #[I (b.Signs), wn, wt] 36), blkE g1 (.cells #[I (a.Signs), vn, vt] 36), rdE vn a.Next, rdE vt a.Takes, rdE wn b.Next, rdE wt b.Takes] H52 := hS53
    refine wpL_o rfl ?_
    refine e_alloc rfl Try.zeroValue24 hS53 (fun g54 H55 hS56 hxx => ?_)
    replace hS56 : St H0 NoB NoB [blkE g54 (.cells #[I (0), I (0)] 24), blkE g51 (.cells #[I (0), (Value.slice none 0 0), (Value.slice none 0 0)] 36), rdE r46 ((andR a b).1.Next), rdE r47 ((andR a b).1.Takes), blkE g17 (.cells #[I (c2), I (e2)] 24), blkE g4 (.cells #[I (b.Signs), wn, wt] 36), blkE g1 (.cells #[I (a.Signs), vn, vt] 36), rdE vn a.Next, rdE vt a.Takes, rdE wn b.Next, rdE wt b.Takes] H55 := hS56
    refine wpL_o rfl ?_
    refine e_storeBlkA (cs' := #[I ((andR a b).1.Signs), r46, r47]) rfl rfl rfl Try.sizeOf36 rfl rfl (List.forall_mem_cons.2 ⟨rfl, List.forall_mem_cons.2 ⟨(oneCell_rdL (hS56.rdl 2 rfl)), List.forall_mem_cons.2 ⟨(oneCell_rdL (hS56.rdl 3 rfl)), List.forall_mem_nil _⟩⟩⟩) (hS56.front 1 rfl) (fun H57 hS58 hxx => ?_)
    replace hS58 : St H0 NoB NoB [blkE g51 (.cells #[I ((andR a b).1.Signs), r46, r47] 36), blkE g54 (.cells #[I (0), I (0)] 24), rdE r46 ((andR a b).1.Next), rdE r47 ((andR a b).1.Takes), blkE g17 (.cells #[I (c2), I (e2)] 24), blkE g4 (.cells #[I (b.Signs), wn, wt] 36), blkE g1 (.cells #[I (a.Signs), vn, vt] 36), rdE vn a.Next, rdE vt a.Takes, rdE wn b.Next, rdE wt b.Takes] H57 := hS58
    refine wpL_o rfl ?_
    refine e_storeBlkA (cs' := #[I ((andR a b).2.1), I ((andR a b).2.2)]) rfl rfl rfl Try.sizeOf24 rfl rfl (List.forall_mem_cons.2 ⟨rfl, List.forall_mem_cons.2 ⟨rfl, List.forall_mem_nil _⟩⟩) (hS58.front 1 rfl) (fun H59 hS60 hxx => ?_)
    replace hS60 : St H0 NoB NoB [blkE g54 (.cells #[I ((andR a b).2.1), I ((andR a b).2.2)] 24), blkE g51 (.cells #[I ((andR a b).1.Signs), r46, r47] 36), rdE r46 ((andR a b).1.Next), rdE r47 ((andR a b).1.Takes), blkE g17 (.cells #[I (c2), I (e2)] 24), blkE g4 (.cells #[I (b.Signs), wn, wt] 36), blkE g1 (.cells #[I (a.Signs), vn, vt] 36), rdE vn a.Next, rdE vt a.Takes, rdE wn b.Next, rdE wt b.Takes] H59 := hS60
    exact ⟨r46, r47, g51, g54, a37_2, a37_3, a37_5, rfl, rfl, hS60⟩
  rintro f61 H61 ⟨r46, r47, g51, g54, a61_2, a61_3, a61_5, a61_6, a61_7, hS61⟩
  clear a37_2 a37_3 a37_5
  refine wpF_seq ?_
  refine wpF_cut (fun f H => ∃ (r62 : Value), ∃ (r63 : Value), ∃ (g67 : Nat), ∃ (g70 : Nat), f 2 = PT g1 0 ∧ f 3 = PT g4 0 ∧ f 5 = PT g17 0 ∧ f 6 = PT g51 0 ∧ f 7 = PT g54 0 ∧ f 8 = PT g67 0 ∧ f 9 = PT g70 0 ∧ St H0 NoB NoB [blkE g70 (.cells #[I ((orR a b).2.1), I ((orR a b).2.2)] 24), blkE g67 (.cells #[I ((orR a b).1.Signs), r62, r63] 36), rdE r62 ((orR a b).1.Next), rdE r63 ((orR a b).1.Takes), blkE g54 (.cells #[I ((andR a b).2.1), I ((andR a b).2.2)] 24), blkE g51 (.cells #[I ((andR a b).1.Signs), r46, r47] 36), rdE r46 ((andR a b).1.Next), rdE r47 ((andR a b).1.Takes), blkE g17 (.cells #[I (c2), I (e2)] 24), blkE g4 (.cells #[I (b.Signs), wn, wt] 36), blkE g1 (.cells #[I (a.Signs), vn, vt] 36), rdE vn a.Next, rdE vt a.Takes, rdE wn b.Next, rdE wt b.Takes] H) ?_ ?_
  · refine wpF_region ?_
    refine wpL_q (U := NoB) rfl (q_loadBlkA rfl a61_2 Try.isAgg36 Try.sizeOf36 rfl (hS61.blk 6 rfl) (fun h => h)) ?_
    refine wpL_q (U := NoB) rfl (q_loadBlkA rfl a61_3 Try.isAgg36 Try.sizeOf36 rfl (hS61.blk 5 rfl) (fun h => h)) ?_
    refine wpL_o rfl ?_
    refine e_call rfl Try.call34 (arr2 (v0 := Value.agg #[I (a.Signs), vn, vt]) (v1 := Value.agg #[I (b.Signs), wn, wt]) rfl rfl) (Or_L vn vt wn wt a b (hS61.rdS 7 rfl) (hS61.rdS 8 rfl) hsg (hS61.rdS 9 rfl) (hS61.rdS 10 rfl) hsgb) ?_
    rintro _ H64 ⟨hxx, r62, r63, rfl, hrr62, hrr63⟩
    have hS65 : St H0 NoB NoB [rdE r62 ((orR a b).1.Next), rdE r63 ((orR a b).1.Takes), blkE g54 (.cells #[I ((andR a b).2.1), I ((andR a b).2.2)] 24), blkE g51 (.cells #[I ((andR a b).1.Signs), r46, r47] 36), rdE r46 ((andR a b).1.Next), rdE r47 ((andR a b).1.Takes), blkE g17 (.cells #[I (c2), I (e2)] 24), blkE g4 (.cells #[I (b.Signs), wn, wt] 36), blkE g1 (.cells #[I (a.Signs), vn, vt] 36), rdE vn a.Next, rdE vt a.Takes, rdE wn b.Next, rdE wt b.Takes] H64 := (hS61.res2 hxx hrr62 hrr63)
    refine wpL_q (U := NoB) rfl (q_move (v := Value.tuple #[Value.agg #[I ((orR a b).1.Signs), r62, r63], Value.agg #[I ((orR a b).2.1), I ((orR a b).2.2)]]) rfl rfl) ?_
    refine wpL_q (U := NoB) rfl (q_extract (vs := #[Value.agg #[I ((orR a b).1.Signs), r62, r63], Value.agg #[I ((orR a b).2.1), I ((orR a b).2.2)]]) (v := Value.agg #[I ((orR a b).1.Signs), r62, r63]) rfl rfl rfl) ?_
    refine wpL_q (U := NoB) rfl (q_extract (vs := #[Value.agg #[I ((orR a b).1.Signs), r62, r63], Value.agg #[I ((orR a b).2.1), I ((orR a b).2.2)]]) (v := Value.agg #[I ((orR a b).2.1), I ((orR a b).2.2)]) rfl rfl rfl) ?_
    refine wpL_o rfl ?_
    refine e_alloc rfl Try.zeroValue36 hS65 (fun g67 H68 hS69 hxx => ?_)
    replace hS69 : St H0 NoB NoB [blkE g67 (.cells #[I (0), (Value.slice none 0 0), (Value.slice none 0 0)] 36), rdE r62 ((orR a b).1.Next), rdE r63 ((orR a b).1.Takes), blkE g54 (.cells #[I ((andR a b).2.1), I ((andR a b).2.2)] 24), blkE g51 (.cells #[I ((andR a b).1.Signs), r46, r47] 36), rdE r46 ((andR a b).1.Next), rdE r47 ((andR a b).1.Takes), blkE g17 (.cells #[I (c2), I (e2)] 24), blkE g4 (.cells #[I (b.Signs), wn, wt] 36), blkE g1 (.cells #[I (a.Signs), vn, vt] 36), rdE vn a.Next, rdE vt a.Takes, rdE wn b.Next, rdE wt b.Takes] H68 := hS69
    refine wpL_o rfl ?_
    refine e_alloc rfl Try.zeroValue24 hS69 (fun g70 H71 hS72 hxx => ?_)
    replace hS72 : St H0 NoB NoB [blkE g70 (.cells #[I (0), I (0)] 24), blkE g67 (.cells #[I (0), (Value.slice none 0 0), (Value.slice none 0 0)] 36), rdE r62 ((orR a b).1.Next), rdE r63 ((orR a b).1.Takes), blkE g54 (.cells #[I ((andR a b).2.1), I ((andR a b).2.2)] 24), blkE g51 (.cells #[I ((andR a b).1.Signs), r46, r47] 36), rdE r46 ((andR a b).1.Next), rdE r47 ((andR a b).1.Takes), blkE g17 (.cells #[I (c2), I (e2)] 24), blkE g4 (.cells #[I (b.Signs), wn, wt] 36), blkE g1 (.cells #[I (a.Signs), vn, vt] 36), rdE vn a.Next, rdE vt a.Takes, rdE wn b.Next, rdE wt b.Takes] H71 := hS72
    refine wpL_o rfl ?_
    refine e_storeBlkA (cs' := #[I ((orR a b).1.Signs), r62, r63]) rfl rfl rfl Try.sizeOf36 rfl rfl (List.forall_mem_cons.2 ⟨rfl, List.forall_mem_cons.2 ⟨(oneCell_rdL (hS72.rdl 2 rfl)), List.forall_mem_cons.2 ⟨(oneCell_rdL (hS72.rdl 3 rfl)), List.forall_mem_nil _⟩⟩⟩) (hS72.front 1 rfl) (fun H73 hS74 hxx => ?_)
    replace hS74 : St H0 NoB NoB [blkE g67 (.cells #[I ((orR a b).1.Signs), r62, r63] 36), blkE g70 (.cells #[I (0), I (0)] 24), rdE r62 ((orR a b).1.Next), rdE r63 ((orR a b).1.Takes), blkE g54 (.cells #[I ((andR a b).2.1), I ((andR a b).2.2)] 24), blkE g51 (.cells #[I ((andR a b).1.Signs), r46, r47] 36), rdE r46 ((andR a b).1.Next), rdE r47 ((andR a b).1.Takes), blkE g17 (.cells #[I (c2), I (e2)] 24), blkE g4 (.cells #[I (b.Signs), wn, wt] 36), blkE g1 (.cells #[I (a.Signs), vn, vt] 36), rdE vn a.Next, rdE vt a.Takes, rdE wn b.Next, rdE wt b.Takes] H73 := hS74
    refine wpL_o rfl ?_
    refine e_storeBlkA (cs' := #[I ((orR a b).2.1), I ((orR a b).2.2)]) rfl rfl rfl Try.sizeOf24 rfl rfl (List.forall_mem_cons.2 ⟨rfl, List.forall_mem_cons.2 ⟨rfl, List.forall_mem_nil _⟩⟩) (hS74.front 1 rfl) (fun H75 hS76 hxx => ?_)
    replace hS76 : St H0 NoB NoB [blkE g70 (.cells #[I ((orR a b).2.1), I ((orR a b).2.2)] 24), blkE g67 (.cells #[I ((orR a b).1.Signs), r62, r63] 36), rdE r62 ((orR a b).1.Next), rdE r63 ((orR a b).1.Takes), blkE g54 (.cells #[I ((andR a b).2.1), I ((andR a b).2.2)] 24), blkE g51 (.cells #[I ((andR a b).1.Signs), r46, r47] 36), rdE r46 ((andR a b).1.Next), rdE r47 ((andR a b).1.Takes), blkE g17 (.cells #[I (c2), I (e2)] 24), blkE g4 (.cells #[I (b.Signs), wn, wt] 36), blkE g1 (.cells #[I (a.Signs), vn, vt] 36), rdE vn a.Next, rdE vt a.Takes, rdE wn b.Next, rdE wt b.Takes] H75 := hS76
    exact ⟨r62, r63, g67, g70, a61_2, a61_3, a61_5, a61_6, a61_7, rfl, rfl, hS76⟩
  rintro f77 H77 ⟨r62, r63, g67, g70, a77_2, a77_3, a77_5, a77_6, a77_7, a77_8, a77_9, hS77⟩
  clear a61_2 a61_3 a61_5 a61_6 a61_7
  refine wpF_seq ?_
  refine wpF_cut (fun f H => ∃ (g81 : Nat), f 2 = PT g1 0 ∧ f 3 = PT g4 0 ∧ f 5 = PT g17 0 ∧ f 6 = PT g51 0 ∧ f 7 = PT g54 0 ∧ f 8 = PT g67 0 ∧ f 9 = PT g70 0 ∧ f 10 = B (sameR a b) ∧ f 11 = PT g81 0 ∧ St H0 NoB NoB [blkE g81 (.cells #[I ((pairFault a b).1), I ((pairFault a b).2)] 24), blkE g70 (.cells #[I ((orR a b).2.1), I ((orR a b).2.2)] 24), blkE g67 (.cells #[I ((orR a b).1.Signs), r62, r63] 36), rdE r62 ((orR a b).1.Next), rdE r63 ((orR a b).1.Takes), blkE g54 (.cells #[I ((andR a b).2.1), I ((andR a b).2.2)] 24), blkE g51 (.cells #[I ((andR a b).1.Signs), r46, r47] 36), rdE r46 ((andR a b).1.Next), rdE r47 ((andR a b).1.Takes), blkE g17 (.cells #[I (c2), I (e2)] 24), blkE g4 (.cells #[I (b.Signs), wn, wt] 36), blkE g1 (.cells #[I (a.Signs), vn, vt] 36), rdE vn a.Next, rdE vt a.Takes, rdE wn b.Next, rdE wt b.Takes] H) ?_ ?_
  · refine wpF_region ?_
    refine wpL_q (U := NoB) rfl (q_loadBlkA rfl a77_2 Try.isAgg36 Try.sizeOf36 rfl (hS77.blk 10 rfl) (fun h => h)) ?_
    refine wpL_q (U := NoB) rfl (q_loadBlkA rfl a77_3 Try.isAgg36 Try.sizeOf36 rfl (hS77.blk 9 rfl) (fun h => h)) ?_
    refine wpL_o rfl ?_
    refine e_call rfl Try.call35 (arr2 (v0 := Value.agg #[I (a.Signs), vn, vt]) (v1 := Value.agg #[I (b.Signs), wn, wt]) rfl rfl) (Same_L vn vt wn wt a b (hS77.rdN 11 rfl) (hS77.rdN 12 rfl) hsg (hS77.rdN 13 rfl) (hS77.rdN 14 rfl) hsgb) ?_
    rintro _ H78 ⟨hxx, rfl⟩
    have hS79 : St H0 NoB NoB [blkE g70 (.cells #[I ((orR a b).2.1), I ((orR a b).2.2)] 24), blkE g67 (.cells #[I ((orR a b).1.Signs), r62, r63] 36), rdE r62 ((orR a b).1.Next), rdE r63 ((orR a b).1.Takes), blkE g54 (.cells #[I ((andR a b).2.1), I ((andR a b).2.2)] 24), blkE g51 (.cells #[I ((andR a b).1.Signs), r46, r47] 36), rdE r46 ((andR a b).1.Next), rdE r47 ((andR a b).1.Takes), blkE g17 (.cells #[I (c2), I (e2)] 24), blkE g4 (.cells #[I (b.Signs), wn, wt] 36), blkE g1 (.cells #[I (a.Signs), vn, vt] 36), rdE vn a.Next, rdE vt a.Takes, rdE wn b.Next, rdE wt b.Takes] H78 := hS77.ext hxx
    refine wpL_q (U := NoB) rfl (q_move (v := Value.tuple #[B (sameR a b), Value.agg #[I ((pairFault a b).1), I ((pairFault a b).2)]]) rfl rfl) ?_
    refine wpL_q (U := NoB) rfl (q_extract (vs := #[B (sameR a b), Value.agg #[I ((pairFault a b).1), I ((pairFault a b).2)]]) (v := B (sameR a b)) rfl rfl rfl) ?_
    refine wpL_q (U := NoB) rfl (q_extract (vs := #[B (sameR a b), Value.agg #[I ((pairFault a b).1), I ((pairFault a b).2)]]) (v := Value.agg #[I ((pairFault a b).1), I ((pairFault a b).2)]) rfl rfl rfl) ?_
    refine wpL_o rfl ?_
    refine e_alloc rfl Try.zeroValue24 hS79 (fun g81 H82 hS83 hxx => ?_)
    replace hS83 : St H0 NoB NoB [blkE g81 (.cells #[I (0), I (0)] 24), blkE g70 (.cells #[I ((orR a b).2.1), I ((orR a b).2.2)] 24), blkE g67 (.cells #[I ((orR a b).1.Signs), r62, r63] 36), rdE r62 ((orR a b).1.Next), rdE r63 ((orR a b).1.Takes), blkE g54 (.cells #[I ((andR a b).2.1), I ((andR a b).2.2)] 24), blkE g51 (.cells #[I ((andR a b).1.Signs), r46, r47] 36), rdE r46 ((andR a b).1.Next), rdE r47 ((andR a b).1.Takes), blkE g17 (.cells #[I (c2), I (e2)] 24), blkE g4 (.cells #[I (b.Signs), wn, wt] 36), blkE g1 (.cells #[I (a.Signs), vn, vt] 36), rdE vn a.Next, rdE vt a.Takes, rdE wn b.Next, rdE wt b.Takes] H82 := hS83
    refine wpL_q (U := NoB) rfl (q_assign (v := B (sameR a b)) rfl rfl) ?_
    refine wpL_o rfl ?_
    refine e_storeBlkA (cs' := #[I ((pairFault a b).1), I ((pairFault a b).2)]) rfl rfl rfl Try.sizeOf24 rfl rfl (List.forall_mem_cons.2 ⟨rfl, List.forall_mem_cons.2 ⟨rfl, List.forall_mem_nil _⟩⟩) hS83 (fun H84 hS85 hxx => ?_)
    replace hS85 : St H0 NoB NoB [blkE g81 (.cells #[I ((pairFault a b).1), I ((pairFault a b).2)] 24), blkE g70 (.cells #[I ((orR a b).2.1), I ((orR a b).2.2)] 24), blkE g67 (.cells #[I ((orR a b).1.Signs), r62, r63] 36), rdE r62 ((orR a b).1.Next), rdE r63 ((orR a b).1.Takes), blkE g54 (.cells #[I ((andR a b).2.1), I ((andR a b).2.2)] 24), blkE g51 (.cells #[I ((andR a b).1.Signs), r46, r47] 36), rdE r46 ((andR a b).1.Next), rdE r47 ((andR a b).1.Takes), blkE g17 (.cells #[I (c2), I (e2)] 24), blkE g4 (.cells #[I (b.Signs), wn, wt] 36), blkE g1 (.cells #[I (a.Signs), vn, vt] 36), rdE vn a.Next, rdE vt a.Takes, rdE wn b.Next, rdE wt b.Takes] H84 := hS85
    exact ⟨g81, a77_2, a77_3, a77_5, a77_6, a77_7, a77_8, a77_9, rfl, rfl, hS85⟩
  rintro f86 H86 ⟨g81, a86_2, a86_3, a86_5, a86_6, a86_7, a86_8, a86_9, a86_10, a86_11, hS86⟩
  clear a77_2 a77_3 a77_5 a77_6 a77_7 a77_8 a77_9
  refine wpF_seq ?_
  refine wpF_seq ?_
  refine wpF_cut (fun f H => f 2 = PT g1 0 ∧ f 3 = PT g4 0 ∧ f 5 = PT g17 0 ∧ f 6 = PT g51 0 ∧ f 7 = PT g54 0 ∧ f 8 = PT g67 0 ∧ f 9 = PT g70 0 ∧ f 10 = B (sameR a b) ∧ f 11 = PT g81 0 ∧ f 62 = B (decide (c2 ≠ 0)) ∧ H86 = H) ?_ ?_
  · refine wpF_region ?_
    refine wpL_q (U := NoB) rfl (q_fieldAddr rfl Try.underlying24 rfl Try.sizeOf3 a86_5) ?_
    refine wpL_q (U := NoB) rfl (q_loadBlk rfl rfl Try.isAgg3 (hS86.blk 9 rfl) rfl (fun h => h)) ?_
    refine wpL_q (U := NoB) rfl (q_neq rfl rfl rfl) ?_
    exact ⟨a86_2, a86_3, a86_5, a86_6, a86_7, a86_8, a86_9, a86_10, a86_11, rfl, rfl⟩
  rintro f87 _ ⟨a87_2, a87_3, a87_5, a87_6, a87_7, a87_8, a87_9, a87_10, a87_11, a87_62, rfl⟩
  clear a86_10 a86_11 a86_2 a86_3 a86_5 a86_6 a86_7 a86_8 a86_9
  refine wpF_condP a87_62 (fun h62 => ?t165) (fun h62 => ?e165)
  case t165 =>
    have hbd := pairs_bad (a := a) (b := b) (by rw [← hc2]; exact h62)
    refine wpF_seq ?_
    refine wpF_cut (fun f H => f 4 = B (decide ((((((((andR a b).2.1) = c2 ∧ ((andR a b).2.2) = e2) ∧ (((orR a b).2.1) = c2 ∧ ((orR a b).2.2) = e2)) ∧ (((pairFault a b).1) = c2 ∧ ((pairFault a b).2) = e2)) ∧ ((((andR a b).1.Next).length : Int) = 0)) ∧ ((((orR a b).1.Next).length : Int) = 0)) ∧ ((!(sameR a b)) = true))) ∧ H86 = H) ?_ ?_
    · refine wpF_region ?_
      refine wpL_q (U := NoB) rfl (q_loadBlkA rfl a87_7 Try.isAgg24 Try.sizeOf24 rfl (hS86.blk 5 rfl) (fun h => h)) ?_
      refine wpL_q (U := NoB) rfl (q_loadBlkA rfl a87_5 Try.isAgg24 Try.sizeOf24 rfl (hS86.blk 9 rfl) (fun h => h)) ?_
      refine wpL_q (U := NoB) rfl (q_eqlF2 rfl Try.eqGuardType24 (fl24_AutoPairs1 _ _ _ _) rfl rfl) ?_
      refine wpL_q (U := NoB) rfl (q_move (v := B (decide (((andR a b).2.1) = c2 ∧ ((andR a b).2.2) = e2))) rfl rfl) ?_
      by_cases hg89 : ((andR a b).2.1) = c2 ∧ ((andR a b).2.2) = e2
      · have hb90 := Eq.trans rfl (congrArg B (decide_eq_true hg89))
        refine wpL_gq (U := NoB) rfl rfl rfl hb90 (q_loadBlkA rfl a87_9 Try.isAgg24 Try.sizeOf24 rfl (hS86.blk 1 rfl) (fun h => h)) ?_
        refine wpL_gq (U := NoB) rfl rfl rfl hb90 (q_loadBlkA rfl a87_5 Try.isAgg24 Try.sizeOf24 rfl (hS86.blk 9 rfl) (fun h => h)) ?_
        refine wpL_gq (U := NoB) rfl rfl rfl hb90 (q_eqlF2 rfl Try.eqGuardType24 (fl24_AutoPairs1 _ _ _ _) rfl rfl) ?_
        refine wpL_q (U := NoB) rfl (q_pickT (v := B (decide (((orR a b).2.1) = c2 ∧ ((orR a b).2.2) = e2))) rfl hb90 rfl) ?_
        refine wpL_q (U := NoB) rfl (q_move (v := B (decide (((orR a b).2.1) = c2 ∧ ((orR a b).2.2) = e2))) rfl rfl) ?_
        by_cases hg92 : ((orR a b).2.1) = c2 ∧ ((orR a b).2.2) = e2
        · have hb93 := Eq.trans rfl (congrArg B (decide_eq_true hg92))
          refine wpL_gq (U := NoB) rfl rfl rfl hb93 (q_loadBlkA rfl a87_11 Try.isAgg24 Try.sizeOf24 rfl (hS86.blk 0 rfl) (fun h => h)) ?_
          refine wpL_gq (U := NoB) rfl rfl rfl hb93 (q_loadBlkA rfl a87_5 Try.isAgg24 Try.sizeOf24 rfl (hS86.blk 9 rfl) (fun h => h)) ?_
          refine wpL_gq (U := NoB) rfl rfl rfl hb93 (q_eqlF2 rfl Try.eqGuardType24 (fl24_AutoPairs1 _ _ _ _) rfl rfl) ?_
          refine wpL_q (U := NoB) rfl (q_pickT (v := B (decide (((pairFault a b).1) = c2 ∧ ((pairFault a b).2) = e2))) rfl hb93 rfl) ?_
          refine wpL_q (U := NoB) rfl (q_move (v := B (decide (((pairFault a b).1) = c2 ∧ ((pairFault a b).2) = e2))) rfl rfl) ?_
          by_cases hg95 : ((pairFault a b).1) = c2 ∧ ((pairFault a b).2) = e2
          · have hb96 := Eq.trans rfl (congrArg B (decide_eq_true hg95))
            refine wpL_gq (U := NoB) rfl rfl rfl hb96 (q_fieldAddr rfl Try.underlying36 rfl Try.sizeOf27 a87_6) ?_
            refine wpL_gq (U := NoB) rfl rfl rfl hb96 (q_loadBlk rfl rfl Try.isAgg27 (hS86.blk 6 rfl) rfl (fun h => h)) ?_
            refine wpL_gq (U := NoB) rfl rfl rfl hb96 (q_lenRd rfl Try.underlying27 rfl (hS86.rdl 7 rfl)) ?_
            refine wpL_gq (U := NoB) rfl rfl rfl hb96 (q_eql rfl rfl rfl) ?_
            refine wpL_q (U := NoB) rfl (q_pickT (v := B (decide ((((andR a b).1.Next).length : Int) = 0))) rfl hb96 rfl) ?_
            refine wpL_q (U := NoB) rfl (q_move (v := B (decide ((((andR a b).1.Next).length : Int) = 0))) rfl rfl) ?_
            by_cases hg98 : (((andR a b).1.Next).length : Int) = 0
            · have hb99 := Eq.trans rfl (congrArg B (decide_eq_true hg98))
              refine wpL_gq (U := NoB) rfl rfl rfl hb99 (q_fieldAddr rfl Try.underlying36 rfl Try.sizeOf27 a87_8) ?_
              refine wpL_gq (U := NoB) rfl rfl rfl hb99 (q_loadBlk rfl rfl Try.isAgg27 (hS86.blk 2 rfl) rfl (fun h => h)) ?_
              refine wpL_gq (U := NoB) rfl rfl rfl hb99 (q_lenRd rfl Try.underlying27 rfl (hS86.rdl 3 rfl)) ?_
              refine wpL_gq (U := NoB) rfl rfl rfl hb99 (q_eql rfl rfl rfl) ?_
              refine wpL_q (U := NoB) rfl (q_pickT (v := B (decide ((((orR a b).1.Next).length : Int) = 0))) rfl hb99 rfl) ?_
              refine wpL_q (U := NoB) rfl (q_move (v := B (decide ((((orR a b).1.Next).length : Int) = 0))) rfl rfl) ?_
              by_cases hg101 : (((orR a b).1.Next).length : Int) = 0
              · have hb102 := Eq.trans rfl (congrArg B (decide_eq_true hg101))
                refine wpL_gq (U := NoB) rfl rfl rfl hb102 (q_move (v := B (sameR a b)) rfl a87_10) ?_
                refine wpL_gq (U := NoB) rfl rfl rfl hb102 (q_not rfl rfl) ?_
                refine wpL_q (U := NoB) rfl (q_pickT (v := B (!(sameR a b))) rfl hb102 rfl) ?_
                refine wpL_q (U := NoB) rfl (q_assign (v := B (!(sameR a b))) rfl rfl) ?_
                exact ⟨(Eq.trans rfl (congrArg B (bool_congr_of ((Iff.rfl).trans (((and_iff_right ⟨⟨⟨⟨hg89, hg92⟩, hg95⟩, hg98⟩, hg101⟩).trans Iff.rfl)).symm)))), rfl⟩
              · have hb103 := Eq.trans rfl (congrArg B (decide_eq_false hg101))
                refine wpL_gs rfl rfl rfl hb103 rfl ?_
                refine wpL_gs rfl rfl rfl hb103 rfl ?_
                refine wpL_q (U := NoB) rfl (q_pickF (v := B (false)) rfl hb103 rfl) ?_
                refine wpL_q (U := NoB) rfl (q_assign (v := B (false)) rfl rfl) ?_
                exact ⟨(Eq.trans rfl (congrArg B ((decide_eq_false (fun h => (fun h => hg101 h.2) h.1)).symm))), rfl⟩
            · have hb100 := Eq.trans rfl (congrArg B (decide_eq_false hg98))
              refine wpL_gs rfl rfl rfl hb100 rfl ?_
              refine wpL_gs rfl rfl rfl hb100 rfl ?_
              refine wpL_gs rfl rfl rfl hb100 rfl ?_
              refine wpL_gs rfl rfl rfl hb100 rfl ?_
              refine wpL_q (U := NoB) rfl (q_pickF (v := B (false)) rfl hb100 rfl) ?_
              refine wpL_q (U := NoB) rfl (q_move (v := B (false)) rfl rfl) ?_
              refine wpL_gs rfl rfl rfl rfl rfl ?_
              refine wpL_gs rfl rfl rfl rfl rfl ?_
              refine wpL_q (U := NoB) rfl (q_pickF (v := B (false)) rfl rfl rfl) ?_
              refine wpL_q (U := NoB) rfl (q_assign (v := B (false)) rfl rfl) ?_
              exact ⟨(Eq.trans rfl (congrArg B ((decide_eq_false (fun h => (fun h => (fun h => hg98 h.2) h.1) h.1)).symm))), rfl⟩
          · have hb97 := Eq.trans rfl (congrArg B (decide_eq_false hg95))
            refine wpL_gs rfl rfl rfl hb97 rfl ?_
            refine wpL_gs rfl rfl rfl hb97 rfl ?_
            refine wpL_gs rfl rfl rfl hb97 rfl ?_
            refine wpL_gs rfl rfl rfl hb97 rfl ?_
            refine wpL_q (U := NoB) rfl (q_pickF (v := B (false)) rfl hb97 rfl) ?_
            refine wpL_q (U := NoB) rfl (q_move (v := B (false)) rfl rfl) ?_
            refine wpL_gs rfl rfl rfl rfl rfl ?_
            refine wpL_gs rfl rfl rfl rfl rfl ?_
            refine wpL_gs rfl rfl rfl rfl rfl ?_
            refine wpL_gs rfl rfl rfl rfl rfl ?_
            refine wpL_q (U := NoB) rfl (q_pickF (v := B (false)) rfl rfl rfl) ?_
            refine wpL_q (U := NoB) rfl (q_move (v := B (false)) rfl rfl) ?_
            refine wpL_gs rfl rfl rfl rfl rfl ?_
            refine wpL_gs rfl rfl rfl rfl rfl ?_
            refine wpL_q (U := NoB) rfl (q_pickF (v := B (false)) rfl rfl rfl) ?_
            refine wpL_q (U := NoB) rfl (q_assign (v := B (false)) rfl rfl) ?_
            exact ⟨(Eq.trans rfl (congrArg B ((decide_eq_false (fun h => (fun h => (fun h => (fun h => hg95 h.2) h.1) h.1) h.1)).symm))), rfl⟩
        · have hb94 := Eq.trans rfl (congrArg B (decide_eq_false hg92))
          refine wpL_gs rfl rfl rfl hb94 rfl ?_
          refine wpL_gs rfl rfl rfl hb94 rfl ?_
          refine wpL_gs rfl rfl rfl hb94 rfl ?_
          refine wpL_q (U := NoB) rfl (q_pickF (v := B (false)) rfl hb94 rfl) ?_
          refine wpL_q (U := NoB) rfl (q_move (v := B (false)) rfl rfl) ?_
          refine wpL_gs rfl rfl rfl rfl rfl ?_
          refine wpL_gs rfl rfl rfl rfl rfl ?_
          refine wpL_gs rfl rfl rfl rfl rfl ?_
          refine wpL_gs rfl rfl rfl rfl rfl ?_
          refine wpL_q (U := NoB) rfl (q_pickF (v := B (false)) rfl rfl rfl) ?_
          refine wpL_q (U := NoB) rfl (q_move (v := B (false)) rfl rfl) ?_
          refine wpL_gs rfl rfl rfl rfl rfl ?_
          refine wpL_gs rfl rfl rfl rfl rfl ?_
          refine wpL_gs rfl rfl rfl rfl rfl ?_
          refine wpL_gs rfl rfl rfl rfl rfl ?_
          refine wpL_q (U := NoB) rfl (q_pickF (v := B (false)) rfl rfl rfl) ?_
          refine wpL_q (U := NoB) rfl (q_move (v := B (false)) rfl rfl) ?_
          refine wpL_gs rfl rfl rfl rfl rfl ?_
          refine wpL_gs rfl rfl rfl rfl rfl ?_
          refine wpL_q (U := NoB) rfl (q_pickF (v := B (false)) rfl rfl rfl) ?_
          refine wpL_q (U := NoB) rfl (q_assign (v := B (false)) rfl rfl) ?_
          exact ⟨(Eq.trans rfl (congrArg B ((decide_eq_false (fun h => (fun h => (fun h => (fun h => (fun h => hg92 h.2) h.1) h.1) h.1) h.1)).symm))), rfl⟩
      · have hb91 := Eq.trans rfl (congrArg B (decide_eq_false hg89))
        refine wpL_gs rfl rfl rfl hb91 rfl ?_
        refine wpL_gs rfl rfl rfl hb91 rfl ?_
        refine wpL_gs rfl rfl rfl hb91 rfl ?_
        refine wpL_q (U := NoB) rfl (q_pickF (v := B (false)) rfl hb91 rfl) ?_
        refine wpL_q (U := NoB) rfl (q_move (v := B (false)) rfl rfl) ?_
        refine wpL_gs rfl rfl rfl rfl rfl ?_
        refine wpL_gs rfl rfl rfl rfl rfl ?_
        refine wpL_gs rfl rfl rfl rfl rfl ?_
        refine wpL_q (U := NoB) rfl (q_pickF (v := B (false)) rfl rfl rfl) ?_
        refine wpL_q (U := NoB) rfl (q_move (v := B (false)) rfl rfl) ?_
        refine wpL_gs rfl rfl rfl rfl rfl ?_
        refine wpL_gs rfl rfl rfl rfl rfl ?_
        refine wpL_gs rfl rfl rfl rfl rfl ?_
        refine wpL_gs rfl rfl rfl rfl rfl ?_
        refine wpL_q (U := NoB) rfl (q_pickF (v := B (false)) rfl rfl rfl) ?_
        refine wpL_q (U := NoB) rfl (q_move (v := B (false)) rfl rfl) ?_
        refine wpL_gs rfl rfl rfl rfl rfl ?_
        refine wpL_gs rfl rfl rfl rfl rfl ?_
        refine wpL_gs rfl rfl rfl rfl rfl ?_
        refine wpL_gs rfl rfl rfl rfl rfl ?_
        refine wpL_q (U := NoB) rfl (q_pickF (v := B (false)) rfl rfl rfl) ?_
        refine wpL_q (U := NoB) rfl (q_move (v := B (false)) rfl rfl) ?_
        refine wpL_gs rfl rfl rfl rfl rfl ?_
        refine wpL_gs rfl rfl rfl rfl rfl ?_
        refine wpL_q (U := NoB) rfl (q_pickF (v := B (false)) rfl rfl rfl) ?_
        refine wpL_q (U := NoB) rfl (q_assign (v := B (false)) rfl rfl) ?_
        exact ⟨(Eq.trans rfl (congrArg B ((decide_eq_false (fun h => (fun h => (fun h => (fun h => (fun h => hg89 h.1) h.1) h.1) h.1) h.1)).symm))), rfl⟩
    rintro f104 _ ⟨a104_4, rfl⟩
    clear a87_10 a87_11 a87_2 a87_3 a87_5 a87_6 a87_62 a87_7 a87_8 a87_9
    refine wpF_ret ?_
    refine ⟨_, resT a104_4 resN, hS86.frame, ?_⟩
    show (B (decide ((((((((andR a b).2.1) = c2 ∧ ((andR a b).2.2) = e2) ∧ (((orR a b).2.1) = c2 ∧ ((orR a b).2.2) = e2)) ∧ (((pairFault a b).1) = c2 ∧ ((pairFault a b).2) = e2)) ∧ ((((andR a b).1.Next).length : Int) = 0)) ∧ ((((orR a b).1.Next).length : Int) = 0)) ∧ ((!(sameR a b)) = true)))) = B true
    exact congrArg B (decide_eq_true (by rw [hbd.1, hbd.2.1, hbd.2.2, hc2, he2]; simp))
  have hpz : (pairFault a b).1 = 0 := by rw [← hc2]; exact Decidable.of_not_not h62
  obtain ⟨_, hWa, hWb, hss⟩ := pairFault_zero hpz
  obtain ⟨p1, p2, p3, p4⟩ := pairs_law hWa hWb hss
  refine wpF_skip ?_
  refine wpF_seq ?_
  refine wpF_seq ?_
  refine wpF_cut (fun f H => f 2 = PT g1 0 ∧ f 3 = PT g4 0 ∧ f 6 = PT g51 0 ∧ f 7 = PT g54 0 ∧ f 8 = PT g67 0 ∧ f 9 = PT g70 0 ∧ f 103 = B (decide ((((pairFault a b).1) ≠ 0) ∨ ((sameR a b) ≠ (decide ((leastA a) = (leastA b)))))) ∧ St H0 NoB NoB [blkE g81 (.cells #[I ((pairFault a b).1), I ((pairFault a b).2)] 24), blkE g70 (.cells #[I ((orR a b).2.1), I ((orR a b).2.2)] 24), blkE g67 (.cells #[I ((orR a b).1.Signs), r62, r63] 36), rdE r62 ((orR a b).1.Next), rdE r63 ((orR a b).1.Takes), blkE g54 (.cells #[I ((andR a b).2.1), I ((andR a b).2.2)] 24), blkE g51 (.cells #[I ((andR a b).1.Signs), r46, r47] 36), rdE r46 ((andR a b).1.Next), rdE r47 ((andR a b).1.Takes), blkE g17 (.cells #[I (c2), I (e2)] 24), blkE g4 (.cells #[I (b.Signs), wn, wt] 36), blkE g1 (.cells #[I (a.Signs), vn, vt] 36), rdE vn a.Next, rdE vt a.Takes, rdE wn b.Next, rdE wt b.Takes] H) ?_ ?_
  · refine wpF_drawn [] [] (fun _ _ => False) (by kernel_rfl) (by kernel_rfl) ?_
    refine wpR_q 0 (by kernel_rfl) rfl (quietAt rfl rfl (q_fieldAddr rfl Try.underlying24 rfl Try.sizeOf3 a87_11)) ?_
    refine wpR_q 1 (by kernel_rfl) rfl (quietAt rfl rfl (q_loadBlk rfl rfl Try.isAgg3 (hS86.blk 0 rfl) rfl (labU_not [] rfl (List.forall_mem_nil _)))) ?_
    refine wpR_q 2 (by kernel_rfl) rfl (quietAt rfl rfl (q_neq rfl rfl rfl)) ?_
    refine wpR_q 3 (by kernel_rfl) rfl (quietAt rfl rfl (q_move (v := B (decide (((pairFault a b).1) ≠ 0))) rfl rfl)) ?_
    by_cases hg106 : ((pairFault a b).1) ≠ 0
    · have hb107 := Eq.trans rfl (congrArg B (decide_eq_true hg106))
      refine wpR_q 4 (by kernel_rfl) rfl (quietAt_s rfl rfl rfl rfl hb107 rfl) ?_
      refine wpR_q 5 (by kernel_rfl) rfl (quietAt_s rfl rfl rfl rfl hb107 rfl) ?_
      refine wpR_q 6 (by kernel_rfl) rfl (quietAt_s rfl rfl rfl rfl hb107 rfl) ?_
      refine wpR_q 7 (by kernel_rfl) rfl (quietAt_s rfl rfl rfl rfl hb107 rfl) ?_
      refine wpR_q 8 (by kernel_rfl) rfl (quietAt_s rfl rfl rfl rfl hb107 rfl) ?_
      refine wpR_q 9 (by kernel_rfl) rfl (quietAt_s rfl rfl rfl rfl hb107 rfl) ?_
      refine wpR_q 10 (by kernel_rfl) rfl (quietAt_s rfl rfl rfl rfl hb107 rfl) ?_
      refine wpR_q 11 (by kernel_rfl) rfl (quietAt rfl rfl (q_pickT (v := B (true)) rfl hb107 rfl)) ?_
      refine wpR_end (by kernel_rfl) ?_
      exact ⟨a87_2, a87_3, a87_6, a87_7, a87_8, a87_9, (Eq.trans rfl (congrArg B ((decide_eq_true (Or.inl hg106)).symm))), hS86⟩
    · have hb108 := Eq.trans rfl (congrArg B (decide_eq_false hg106))
      refine wpR_q 4 (by kernel_rfl) rfl (quietAt_g rfl rfl rfl rfl hb108 (q_move (v := B (sameR a b)) rfl a87_10)) ?_
      refine wpR_q 5 (by kernel_rfl) rfl (quietAt_g rfl rfl rfl rfl hb108 (q_loadBlkA rfl a87_2 Try.isAgg36 Try.sizeOf36 rfl (hS86.blk 11 rfl) (labU_not [] rfl (List.forall_mem_nil _)))) ?_
      refine wpR_q 7 (by kernel_rfl) rfl (quietAt_g rfl rfl rfl rfl hb108 (q_loadBlkA rfl a87_3 Try.isAgg36 Try.sizeOf36 rfl (hS86.blk 10 rfl) (labU_not [] rfl (List.forall_mem_nil _)))) ?_
      refine wpR_n [6] (by kernel_rfl) ?_
      refine List.forall_mem_cons.2 ⟨?_, List.forall_mem_nil _⟩
      refine exE_g rfl rfl rfl rfl hb108 ?_
      refine e_call rfl Try.call37 (arr1 (v0 := Value.agg #[I (a.Signs), vn, vt]) rfl) (Least_R vn vt a (hS86.rdS 12 rfl) (hS86.rdS 13 rfl) hsg hWa) ?_
      rintro _ H105o6 ⟨hxx, r105o6, r105o6x2, rfl, hrr105o6, hrr105o6x2⟩
      have hS105o6 : St H0 NoB NoB [rdE r105o6 ((leastA a).Next), rdE r105o6x2 ((leastA a).Takes), blkE g81 (.cells #[I ((pairFault a b).1), I ((pairFault a b).2)] 24), blkE g70 (.cells #[I ((orR a b).2.1), I ((orR a b).2.2)] 24), blkE g67 (.cells #[I ((orR a b).1.Signs), r62, r63] 36), rdE r62 ((orR a b).1.Next), rdE r63 ((orR a b).1.Takes), blkE g54 (.cells #[I ((andR a b).2.1), I ((andR a b).2.2)] 24), blkE g51 (.cells #[I ((andR a b).1.Signs), r46, r47] 36), rdE r46 ((andR a b).1.Next), rdE r47 ((andR a b).1.Takes), blkE g17 (.cells #[I (c2), I (e2)] 24), blkE g4 (.cells #[I (b.Signs), wn, wt] 36), blkE g1 (.cells #[I (a.Signs), vn, vt] 36), rdE vn a.Next, rdE vt a.Takes, rdE wn b.Next, rdE wt b.Takes] H105o6 := (hS86.res2 hxx hrr105o6 hrr105o6x2)
      refine ⟨Ext.mono hxx (fun _ h => h.elim), ?_⟩
      refine wpR_n [8] (by kernel_rfl) ?_
      refine List.forall_mem_cons.2 ⟨?_, List.forall_mem_nil _⟩
      refine exE_g rfl rfl rfl rfl hb108 ?_
      refine e_call rfl Try.call37 (arr1 (v0 := Value.agg #[I (b.Signs), wn, wt]) rfl) (Least_R wn wt b (hS105o6.rdS 16 rfl) (hS105o6.rdS 17 rfl) hsgb hWb) ?_
      rintro _ H105o8 ⟨hxx, r105o8, r105o8x2, rfl, hrr105o8, hrr105o8x2⟩
      have hS105o8 : St H0 NoB NoB [rdE r105o8 ((leastA b).Next), rdE r105o8x2 ((leastA b).Takes), rdE r105o6 ((leastA a).Next), rdE r105o6x2 ((leastA a).Takes), blkE g81 (.cells #[I ((pairFault a b).1), I ((pairFault a b).2)] 24), blkE g70 (.cells #[I ((orR a b).2.1), I ((orR a b).2.2)] 24), blkE g67 (.cells #[I ((orR a b).1.Signs), r62, r63] 36), rdE r62 ((orR a b).1.Next), rdE r63 ((orR a b).1.Takes), blkE g54 (.cells #[I ((andR a b).2.1), I ((andR a b).2.2)] 24), blkE g51 (.cells #[I ((andR a b).1.Signs), r46, r47] 36), rdE r46 ((andR a b).1.Next), rdE r47 ((andR a b).1.Takes), blkE g17 (.cells #[I (c2), I (e2)] 24), blkE g4 (.cells #[I (b.Signs), wn, wt] 36), blkE g1 (.cells #[I (a.Signs), vn, vt] 36), rdE vn a.Next, rdE vt a.Takes, rdE wn b.Next, rdE wt b.Takes] H105o8 := (hS105o6.res2 hxx hrr105o8 hrr105o8x2)
      refine ⟨Ext.mono hxx (fun _ h => h.elim), ?_⟩
      refine wpR_n [9] (by kernel_rfl) ?_
      refine List.forall_mem_cons.2 ⟨?_, List.forall_mem_nil _⟩
      refine exE_g rfl rfl rfl rfl hb108 ?_
      refine e_call rfl Try.call36 (arr2 (v0 := Value.agg #[I ((leastA a).Signs), r105o6, r105o6x2]) (v1 := Value.agg #[I ((leastA b).Signs), r105o8, r105o8x2]) rfl rfl) (SameAuto_R r105o6 r105o6x2 r105o8 r105o8x2 (leastA a) (leastA b) (hS105o8.rdN 2 rfl) (hS105o8.rdN 3 rfl) (by assumption) (hS105o8.rdN 0 rfl) (hS105o8.rdN 1 rfl) (by assumption)) ?_
      rintro _ H105o9 ⟨hxx, rfl⟩
      have hS105o9 : St H0 NoB NoB [rdE r105o8 ((leastA b).Next), rdE r105o8x2 ((leastA b).Takes), rdE r105o6 ((leastA a).Next), rdE r105o6x2 ((leastA a).Takes), blkE g81 (.cells #[I ((pairFault a b).1), I ((pairFault a b).2)] 24), blkE g70 (.cells #[I ((orR a b).2.1), I ((orR a b).2.2)] 24), blkE g67 (.cells #[I ((orR a b).1.Signs), r62, r63] 36), rdE r62 ((orR a b).1.Next), rdE r63 ((orR a b).1.Takes), blkE g54 (.cells #[I ((andR a b).2.1), I ((andR a b).2.2)] 24), blkE g51 (.cells #[I ((andR a b).1.Signs), r46, r47] 36), rdE r46 ((andR a b).1.Next), rdE r47 ((andR a b).1.Takes), blkE g17 (.cells #[I (c2), I (e2)] 24), blkE g4 (.cells #[I (b.Signs), wn, wt] 36), blkE g1 (.cells #[I (a.Signs), vn, vt] 36), rdE vn a.Next, rdE vt a.Takes, rdE wn b.Next, rdE wt b.Takes] H105o9 := hS105o8.ext hxx
      refine ⟨Ext.mono hxx (fun _ h => h.elim), ?_⟩
      refine wpR_q 10 (by kernel_rfl) rfl (quietAt_g rfl rfl rfl rfl hb108 (q_neqB rfl Try.underlying4 rfl rfl)) ?_
      refine wpR_q 11 (by kernel_rfl) rfl (quietAt rfl rfl (q_pickF (v := B (decide ((sameR a b) ≠ (decide ((leastA a) = (leastA b)))))) rfl hb108 rfl)) ?_
      refine wpR_end (by kernel_rfl) ?_
      exact ⟨a87_2, a87_3, a87_6, a87_7, a87_8, a87_9, (Eq.trans rfl (congrArg B (decide_congr_of ((Iff.rfl).trans (((or_iff_right hg106).trans Iff.rfl)).symm)))), (hS105o9.drop (sn (sn (sn (sn (sk (sk (sk (sk (sk (sk (sk (sk (sk (sk (sk (sk (sk (sk (sk (sk (List.Sublist.slnil))))))))))))))))))))))⟩
  rintro f109 H109 ⟨a109_2, a109_3, a109_6, a109_7, a109_8, a109_9, a109_103, hS109⟩
  clear a87_10 a87_11 a87_2 a87_3 a87_5 a87_6 a87_62 a87_7 a87_8 a87_9
  refine wpF_condP a109_103 (fun h103 => ?t164) (fun h103 => ?e164)
  case t164 =>
    refine wpF_seq ?_
    refine wpF_cut (fun f H => f 4 = B (false) ∧ H109 = H) ?_ ?_
    · refine wpF_region ?_
      refine wpL_q (U := NoB) rfl (q_assign (v := B (false)) rfl rfl) ?_
      exact ⟨rfl, rfl⟩
    rintro f111 _ ⟨a111_4, rfl⟩
    clear a109_103 a109_2 a109_3 a109_6 a109_7 a109_8 a109_9
    refine wpF_ret ?_
    refine ⟨_, resT a111_4 resN, hS109.frame, ?_⟩
    show (B (false)) = B true
    exfalso
    rw [p1, p2] at h103
    simp at h103
  refine wpF_skip ?_
  refine wpF_seq ?_
  refine wpF_cut (fun f H => ∃ (r112 : Value), ∃ (r113 : Value), ∃ (g117 : Nat), f 2 = PT g1 0 ∧ f 3 = PT g4 0 ∧ f 6 = PT g51 0 ∧ f 7 = PT g54 0 ∧ f 8 = PT g67 0 ∧ f 9 = PT g70 0 ∧ f 12 = PT g117 0 ∧ St H0 NoB NoB [blkE g117 (.cells #[I ((prodA a b (opB true)).Signs), r112, r113] 36), rdE r112 ((prodA a b (opB true)).Next), rdE r113 ((prodA a b (opB true)).Takes), blkE g81 (.cells #[I ((pairFault a b).1), I ((pairFault a b).2)] 24), blkE g70 (.cells #[I ((orR a b).2.1), I ((orR a b).2.2)] 24), blkE g67 (.cells #[I ((orR a b).1.Signs), r62, r63] 36), rdE r62 ((orR a b).1.Next), rdE r63 ((orR a b).1.Takes), blkE g54 (.cells #[I ((andR a b).2.1), I ((andR a b).2.2)] 24), blkE g51 (.cells #[I ((andR a b).1.Signs), r46, r47] 36), rdE r46 ((andR a b).1.Next), rdE r47 ((andR a b).1.Takes), blkE g17 (.cells #[I (c2), I (e2)] 24), blkE g4 (.cells #[I (b.Signs), wn, wt] 36), blkE g1 (.cells #[I (a.Signs), vn, vt] 36), rdE vn a.Next, rdE vt a.Takes, rdE wn b.Next, rdE wt b.Takes] H) ?_ ?_
  · refine wpF_region ?_
    refine wpL_q (U := NoB) rfl (q_loadBlkA rfl a109_2 Try.isAgg36 Try.sizeOf36 rfl (hS109.blk 11 rfl) (fun h => h)) ?_
    refine wpL_q (U := NoB) rfl (q_loadBlkA rfl a109_3 Try.isAgg36 Try.sizeOf36 rfl (hS109.blk 10 rfl) (fun h => h)) ?_
    refine wpL_o rfl ?_
    refine e_call rfl Try.call38 (arr3 (v0 := Value.agg #[I (a.Signs), vn, vt]) (v1 := Value.agg #[I (b.Signs), wn, wt]) (v2 := B (true)) rfl rfl rfl) (Both_R vn vt wn wt a b true (hS109.rdS 12 rfl) (hS109.rdS 13 rfl) hsg (hS109.rdS 14 rfl) (hS109.rdS 15 rfl) hsgb hWa hWb hss) ?_
    rintro _ H114 ⟨hxx, r112, r113, rfl, hrr112, hrr113⟩
    have hS115 : St H0 NoB NoB [rdE r112 ((prodA a b (opB true)).Next), rdE r113 ((prodA a b (opB true)).Takes), blkE g81 (.cells #[I ((pairFault a b).1), I ((pairFault a b).2)] 24), blkE g70 (.cells #[I ((orR a b).2.1), I ((orR a b).2.2)] 24), blkE g67 (.cells #[I ((orR a b).1.Signs), r62, r63] 36), rdE r62 ((orR a b).1.Next), rdE r63 ((orR a b).1.Takes), blkE g54 (.cells #[I ((andR a b).2.1), I ((andR a b).2.2)] 24), blkE g51 (.cells #[I ((andR a b).1.Signs), r46, r47] 36), rdE r46 ((andR a b).1.Next), rdE r47 ((andR a b).1.Takes), blkE g17 (.cells #[I (c2), I (e2)] 24), blkE g4 (.cells #[I (b.Signs), wn, wt] 36), blkE g1 (.cells #[I (a.Signs), vn, vt] 36), rdE vn a.Next, rdE vt a.Takes, rdE wn b.Next, rdE wt b.Takes] H114 := (hS109.res2 hxx hrr112 hrr113)
    refine wpL_o rfl ?_
    refine e_alloc rfl Try.zeroValue36 hS115 (fun g117 H118 hS119 hxx => ?_)
    replace hS119 : St H0 NoB NoB [blkE g117 (.cells #[I (0), (Value.slice none 0 0), (Value.slice none 0 0)] 36), rdE r112 ((prodA a b (opB true)).Next), rdE r113 ((prodA a b (opB true)).Takes), blkE g81 (.cells #[I ((pairFault a b).1), I ((pairFault a b).2)] 24), blkE g70 (.cells #[I ((orR a b).2.1), I ((orR a b).2.2)] 24), blkE g67 (.cells #[I ((orR a b).1.Signs), r62, r63] 36), rdE r62 ((orR a b).1.Next), rdE r63 ((orR a b).1.Takes), blkE g54 (.cells #[I ((andR a b).2.1), I ((andR a b).2.2)] 24), blkE g51 (.cells #[I ((andR a b).1.Signs), r46, r47] 36), rdE r46 ((andR a b).1.Next), rdE r47 ((andR a b).1.Takes), blkE g17 (.cells #[I (c2), I (e2)] 24), blkE g4 (.cells #[I (b.Signs), wn, wt] 36), blkE g1 (.cells #[I (a.Signs), vn, vt] 36), rdE vn a.Next, rdE vt a.Takes, rdE wn b.Next, rdE wt b.Takes] H118 := hS119
    refine wpL_o rfl ?_
    refine e_storeBlkA (cs' := #[I ((prodA a b (opB true)).Signs), r112, r113]) rfl rfl rfl Try.sizeOf36 rfl rfl (List.forall_mem_cons.2 ⟨rfl, List.forall_mem_cons.2 ⟨(oneCell_rdL (hS119.rdl 1 rfl)), List.forall_mem_cons.2 ⟨(oneCell_rdL (hS119.rdl 2 rfl)), List.forall_mem_nil _⟩⟩⟩) hS119 (fun H120 hS121 hxx => ?_)
    replace hS121 : St H0 NoB NoB [blkE g117 (.cells #[I ((prodA a b (opB true)).Signs), r112, r113] 36), rdE r112 ((prodA a b (opB true)).Next), rdE r113 ((prodA a b (opB true)).Takes), blkE g81 (.cells #[I ((pairFault a b).1), I ((pairFault a b).2)] 24), blkE g70 (.cells #[I ((orR a b).2.1), I ((orR a b).2.2)] 24), blkE g67 (.cells #[I ((orR a b).1.Signs), r62, r63] 36), rdE r62 ((orR a b).1.Next), rdE r63 ((orR a b).1.Takes), blkE g54 (.cells #[I ((andR a b).2.1), I ((andR a b).2.2)] 24), blkE g51 (.cells #[I ((andR a b).1.Signs), r46, r47] 36), rdE r46 ((andR a b).1.Next), rdE r47 ((andR a b).1.Takes), blkE g17 (.cells #[I (c2), I (e2)] 24), blkE g4 (.cells #[I (b.Signs), wn, wt] 36), blkE g1 (.cells #[I (a.Signs), vn, vt] 36), rdE vn a.Next, rdE vt a.Takes, rdE wn b.Next, rdE wt b.Takes] H120 := hS121
    exact ⟨r112, r113, g117, a109_2, a109_3, a109_6, a109_7, a109_8, a109_9, rfl, hS121⟩
  rintro f122 H122 ⟨r112, r113, g117, a122_2, a122_3, a122_6, a122_7, a122_8, a122_9, a122_12, hS122⟩
  clear a109_103 a109_2 a109_3 a109_6 a109_7 a109_8 a109_9
  refine wpF_seq ?_
  refine wpF_cut (fun f H => ∃ (r123 : Value), ∃ (r124 : Value), ∃ (g128 : Nat), f 6 = PT g51 0 ∧ f 7 = PT g54 0 ∧ f 8 = PT g67 0 ∧ f 9 = PT g70 0 ∧ f 12 = PT g117 0 ∧ f 13 = PT g128 0 ∧ St H0 NoB NoB [blkE g128 (.cells #[I ((prodA a b (opB false)).Signs), r123, r124] 36), rdE r123 ((prodA a b (opB false)).Next), rdE r124 ((prodA a b (opB false)).Takes), blkE g117 (.cells #[I ((prodA a b (opB true)).Signs), r112, r113] 36), rdE r112 ((prodA a b (opB true)).Next), rdE r113 ((prodA a b (opB true)).Takes), blkE g81 (.cells #[I ((pairFault a b).1), I ((pairFault a b).2)] 24), blkE g70 (.cells #[I ((orR a b).2.1), I ((orR a b).2.2)] 24), blkE g67 (.cells #[I ((orR a b).1.Signs), r62, r63] 36), rdE r62 ((orR a b).1.Next), rdE r63 ((orR a b).1.Takes), blkE g54 (.cells #[I ((andR a b).2.1), I ((andR a b).2.2)] 24), blkE g51 (.cells #[I ((andR a b).1.Signs), r46, r47] 36), rdE r46 ((andR a b).1.Next), rdE r47 ((andR a b).1.Takes), blkE g17 (.cells #[I (c2), I (e2)] 24), blkE g4 (.cells #[I (b.Signs), wn, wt] 36), blkE g1 (.cells #[I (a.Signs), vn, vt] 36), rdE vn a.Next, rdE vt a.Takes, rdE wn b.Next, rdE wt b.Takes] H) ?_ ?_
  · refine wpF_region ?_
    refine wpL_q (U := NoB) rfl (q_loadBlkA rfl a122_2 Try.isAgg36 Try.sizeOf36 rfl (hS122.blk 14 rfl) (fun h => h)) ?_
    refine wpL_q (U := NoB) rfl (q_loadBlkA rfl a122_3 Try.isAgg36 Try.sizeOf36 rfl (hS122.blk 13 rfl) (fun h => h)) ?_
    refine wpL_o rfl ?_
    refine e_call rfl Try.call38 (arr3 (v0 := Value.agg #[I (a.Signs), vn, vt]) (v1 := Value.agg #[I (b.Signs), wn, wt]) (v2 := B (false)) rfl rfl rfl) (Both_R vn vt wn wt a b false (hS122.rdS 15 rfl) (hS122.rdS 16 rfl) hsg (hS122.rdS 17 rfl) (hS122.rdS 18 rfl) hsgb hWa hWb hss) ?_
    rintro _ H125 ⟨hxx, r123, r124, rfl, hrr123, hrr124⟩
    have hS126 : St H0 NoB NoB [rdE r123 ((prodA a b (opB false)).Next), rdE r124 ((prodA a b (opB false)).Takes), blkE g117 (.cells #[I ((prodA a b (opB true)).Signs), r112, r113] 36), rdE r112 ((prodA a b (opB true)).Next), rdE r113 ((prodA a b (opB true)).Takes), blkE g81 (.cells #[I ((pairFault a b).1), I ((pairFault a b).2)] 24), blkE g70 (.cells #[I ((orR a b).2.1), I ((orR a b).2.2)] 24), blkE g67 (.cells #[I ((orR a b).1.Signs), r62, r63] 36), rdE r62 ((orR a b).1.Next), rdE r63 ((orR a b).1.Takes), blkE g54 (.cells #[I ((andR a b).2.1), I ((andR a b).2.2)] 24), blkE g51 (.cells #[I ((andR a b).1.Signs), r46, r47] 36), rdE r46 ((andR a b).1.Next), rdE r47 ((andR a b).1.Takes), blkE g17 (.cells #[I (c2), I (e2)] 24), blkE g4 (.cells #[I (b.Signs), wn, wt] 36), blkE g1 (.cells #[I (a.Signs), vn, vt] 36), rdE vn a.Next, rdE vt a.Takes, rdE wn b.Next, rdE wt b.Takes] H125 := (hS122.res2 hxx hrr123 hrr124)
    refine wpL_o rfl ?_
    refine e_alloc rfl Try.zeroValue36 hS126 (fun g128 H129 hS130 hxx => ?_)
    replace hS130 : St H0 NoB NoB [blkE g128 (.cells #[I (0), (Value.slice none 0 0), (Value.slice none 0 0)] 36), rdE r123 ((prodA a b (opB false)).Next), rdE r124 ((prodA a b (opB false)).Takes), blkE g117 (.cells #[I ((prodA a b (opB true)).Signs), r112, r113] 36), rdE r112 ((prodA a b (opB true)).Next), rdE r113 ((prodA a b (opB true)).Takes), blkE g81 (.cells #[I ((pairFault a b).1), I ((pairFault a b).2)] 24), blkE g70 (.cells #[I ((orR a b).2.1), I ((orR a b).2.2)] 24), blkE g67 (.cells #[I ((orR a b).1.Signs), r62, r63] 36), rdE r62 ((orR a b).1.Next), rdE r63 ((orR a b).1.Takes), blkE g54 (.cells #[I ((andR a b).2.1), I ((andR a b).2.2)] 24), blkE g51 (.cells #[I ((andR a b).1.Signs), r46, r47] 36), rdE r46 ((andR a b).1.Next), rdE r47 ((andR a b).1.Takes), blkE g17 (.cells #[I (c2), I (e2)] 24), blkE g4 (.cells #[I (b.Signs), wn, wt] 36), blkE g1 (.cells #[I (a.Signs), vn, vt] 36), rdE vn a.Next, rdE vt a.Takes, rdE wn b.Next, rdE wt b.Takes] H129 := hS130
    refine wpL_o rfl ?_
    refine e_storeBlkA (cs' := #[I ((prodA a b (opB false)).Signs), r123, r124]) rfl rfl rfl Try.sizeOf36 rfl rfl (List.forall_mem_cons.2 ⟨rfl, List.forall_mem_cons.2 ⟨(oneCell_rdL (hS130.rdl 1 rfl)), List.forall_mem_cons.2 ⟨(oneCell_rdL (hS130.rdl 2 rfl)), List.forall_mem_nil _⟩⟩⟩) hS130 (fun H131 hS132 hxx => ?_)
    replace hS132 : St H0 NoB NoB [blkE g128 (.cells #[I ((prodA a b (opB false)).Signs), r123, r124] 36), rdE r123 ((prodA a b (opB false)).Next), rdE r124 ((prodA a b (opB false)).Takes), blkE g117 (.cells #[I ((prodA a b (opB true)).Signs), r112, r113] 36), rdE r112 ((prodA a b (opB true)).Next), rdE r113 ((prodA a b (opB true)).Takes), blkE g81 (.cells #[I ((pairFault a b).1), I ((pairFault a b).2)] 24), blkE g70 (.cells #[I ((orR a b).2.1), I ((orR a b).2.2)] 24), blkE g67 (.cells #[I ((orR a b).1.Signs), r62, r63] 36), rdE r62 ((orR a b).1.Next), rdE r63 ((orR a b).1.Takes), blkE g54 (.cells #[I ((andR a b).2.1), I ((andR a b).2.2)] 24), blkE g51 (.cells #[I ((andR a b).1.Signs), r46, r47] 36), rdE r46 ((andR a b).1.Next), rdE r47 ((andR a b).1.Takes), blkE g17 (.cells #[I (c2), I (e2)] 24), blkE g4 (.cells #[I (b.Signs), wn, wt] 36), blkE g1 (.cells #[I (a.Signs), vn, vt] 36), rdE vn a.Next, rdE vt a.Takes, rdE wn b.Next, rdE wt b.Takes] H131 := hS132
    exact ⟨r123, r124, g128, a122_6, a122_7, a122_8, a122_9, a122_12, rfl, hS132⟩
  rintro f133 H133 ⟨r123, r124, g128, a133_6, a133_7, a133_8, a133_9, a133_12, a133_13, hS133⟩
  clear a122_12 a122_2 a122_3 a122_6 a122_7 a122_8 a122_9
  refine wpF_seq ?_
  refine wpF_seq ?_
  refine wpF_cut (fun f H => f 6 = PT g51 0 ∧ f 7 = PT g54 0 ∧ f 8 = PT g67 0 ∧ f 9 = PT g70 0 ∧ f 12 = PT g117 0 ∧ f 13 = PT g128 0 ∧ f 113 = B (decide (40 < (((prodA a b (opB true)).Next).length : Int))) ∧ H133 = H) ?_ ?_
  · refine wpF_region ?_
    refine wpL_q (U := NoB) rfl (q_fieldAddr rfl Try.underlying36 rfl Try.sizeOf27 a133_12) ?_
    refine wpL_q (U := NoB) rfl (q_loadBlk rfl rfl Try.isAgg27 (hS133.blk 3 rfl) rfl (fun h => h)) ?_
    refine wpL_q (U := NoB) rfl (q_lenRd rfl Try.underlying27 rfl (hS133.rdl 4 rfl)) ?_
    refine wpL_q (U := NoB) rfl (q_gtr rfl rfl rfl) ?_
    exact ⟨a133_6, a133_7, a133_8, a133_9, a133_12, a133_13, rfl, rfl⟩
  rintro f134 _ ⟨a134_6, a134_7, a134_8, a134_9, a134_12, a134_13, a134_113, rfl⟩
  clear a133_12 a133_13 a133_6 a133_7 a133_8 a133_9
  refine wpF_condP a134_113 (fun h113 => ?t163) (fun h113 => ?e163)
  case e163 =>
    refine wpF_skip ?_
    refine wpF_seq ?_
    refine wpF_cut (fun f H => f 4 = B (decide ((((((andR a b).2.1) = 0) ∧ (((orR a b).2.1) = 0)) ∧ ((andR a b).1 = (prodA a b (opB true)))) ∧ ((orR a b).1 = (prodA a b (opB false))))) ∧ St H0 NoB NoB [blkE g128 (.cells #[I ((prodA a b (opB false)).Signs), r123, r124] 36), rdE r123 ((prodA a b (opB false)).Next), rdE r124 ((prodA a b (opB false)).Takes), blkE g117 (.cells #[I ((prodA a b (opB true)).Signs), r112, r113] 36), rdE r112 ((prodA a b (opB true)).Next), rdE r113 ((prodA a b (opB true)).Takes), blkE g81 (.cells #[I ((pairFault a b).1), I ((pairFault a b).2)] 24), blkE g70 (.cells #[I ((orR a b).2.1), I ((orR a b).2.2)] 24), blkE g67 (.cells #[I ((orR a b).1.Signs), r62, r63] 36), rdE r62 ((orR a b).1.Next), rdE r63 ((orR a b).1.Takes), blkE g54 (.cells #[I ((andR a b).2.1), I ((andR a b).2.2)] 24), blkE g51 (.cells #[I ((andR a b).1.Signs), r46, r47] 36), rdE r46 ((andR a b).1.Next), rdE r47 ((andR a b).1.Takes), blkE g17 (.cells #[I (c2), I (e2)] 24), blkE g4 (.cells #[I (b.Signs), wn, wt] 36), blkE g1 (.cells #[I (a.Signs), vn, vt] 36), rdE vn a.Next, rdE vt a.Takes, rdE wn b.Next, rdE wt b.Takes] H) ?_ ?_
    · refine wpF_region ?_
      refine wpL_q (U := NoB) rfl (q_fieldAddr rfl Try.underlying24 rfl Try.sizeOf3 a134_7) ?_
      refine wpL_q (U := NoB) rfl (q_loadBlk rfl rfl Try.isAgg3 (hS133.blk 11 rfl) rfl (fun h => h)) ?_
      refine wpL_q (U := NoB) rfl (q_eql rfl rfl rfl) ?_
      refine wpL_q (U := NoB) rfl (q_move (v := B (decide (((andR a b).2.1) = 0))) rfl rfl) ?_
      by_cases hg147 : ((andR a b).2.1) = 0
      · have hb148 := Eq.trans rfl (congrArg B (decide_eq_true hg147))
        refine wpL_gq (U := NoB) rfl rfl rfl hb148 (q_fieldAddr rfl Try.underlying24 rfl Try.sizeOf3 a134_9) ?_
        refine wpL_gq (U := NoB) rfl rfl rfl hb148 (q_loadBlk rfl rfl Try.isAgg3 (hS133.blk 7 rfl) rfl (fun h => h)) ?_
        refine wpL_gq (U := NoB) rfl rfl rfl hb148 (q_eql rfl rfl rfl) ?_
        refine wpL_q (U := NoB) rfl (q_pickT (v := B (decide (((orR a b).2.1) = 0))) rfl hb148 rfl) ?_
        refine wpL_q (U := NoB) rfl (q_move (v := B (decide (((orR a b).2.1) = 0))) rfl rfl) ?_
        by_cases hg150 : ((orR a b).2.1) = 0
        · have hb151 := Eq.trans rfl (congrArg B (decide_eq_true hg150))
          refine wpL_gq (U := NoB) rfl rfl rfl hb151 (q_loadBlkA rfl a134_6 Try.isAgg36 Try.sizeOf36 rfl (hS133.blk 12 rfl) (fun h => h)) ?_
          refine wpL_gq (U := NoB) rfl rfl rfl hb151 (q_loadBlkA rfl a134_12 Try.isAgg36 Try.sizeOf36 rfl (hS133.blk 3 rfl) (fun h => h)) ?_
          refine wpL_go rfl rfl rfl hb151 ?_
          refine e_call rfl Try.call36 (arr2 (v0 := Value.agg #[I ((andR a b).1.Signs), r46, r47]) (v1 := Value.agg #[I ((prodA a b (opB true)).Signs), r112, r113]) rfl rfl) (SameAuto_R r46 r47 r112 r113 (andR a b).1 (prodA a b (opB true)) (hS133.rdN 13 rfl) (hS133.rdN 14 rfl) (by assumption) (hS133.rdN 4 rfl) (hS133.rdN 5 rfl) (by assumption)) ?_
          rintro _ H153 ⟨hxx, rfl⟩
          have hS154 : St H0 NoB NoB [blkE g128 (.cells #[I ((prodA a b (opB false)).Signs), r123, r124] 36), rdE r123 ((prodA a b (opB false)).Next), rdE r124 ((prodA a b (opB false)).Takes), blkE g117 (.cells #[I ((prodA a b (opB true)).Signs), r112, r113] 36), rdE r112 ((prodA a b (opB true)).Next), rdE r113 ((prodA a b (opB true)).Takes), blkE g81 (.cells #[I ((pairFault a b).1), I ((pairFault a b).2)] 24), blkE g70 (.cells #[I ((orR a b).2.1), I ((orR a b).2.2)] 24), blkE g67 (.cells #[I ((orR a b).1.Signs), r62, r63] 36), rdE r62 ((orR a b).1.Next), rdE r63 ((orR a b).1.Takes), blkE g54 (.cells #[I ((andR a b).2.1), I ((andR a b).2.2)] 24), blkE g51 (.cells #[I ((andR a b).1.Signs), r46, r47] 36), rdE r46 ((andR a b).1.Next), rdE r47 ((andR a b).1.Takes), blkE g17 (.cells #[I (c2), I (e2)] 24), blkE g4 (.cells #[I (b.Signs), wn, wt] 36), blkE g1 (.cells #[I (a.Signs), vn, vt] 36), rdE vn a.Next, rdE vt a.Takes, rdE wn b.Next, rdE wt b.Takes] H153 := hS133.ext hxx
          refine wpL_q (U := NoB) rfl (q_pickT (v := B (decide ((andR a b).1 = (prodA a b (opB true))))) rfl hb151 rfl) ?_
          refine wpL_q (U := NoB) rfl (q_move (v := B (decide ((andR a b).1 = (prodA a b (opB true))))) rfl rfl) ?_
          by_cases hg156 : (andR a b).1 = (prodA a b (opB true))
          · have hb157 := Eq.trans rfl (congrArg B (decide_eq_true hg156))
            refine wpL_gq (U := NoB) rfl rfl rfl hb157 (q_loadBlkA rfl a134_8 Try.isAgg36 Try.sizeOf36 rfl (hS154.blk 8 rfl) (fun h => h)) ?_
            refine wpL_gq (U := NoB) rfl rfl rfl hb157 (q_loadBlkA rfl a134_13 Try.isAgg36 Try.sizeOf36 rfl (hS154.blk 0 rfl) (fun h => h)) ?_
            refine wpL_go rfl rfl rfl hb157 ?_
            refine e_call rfl Try.call36 (arr2 (v0 := Value.agg #[I ((orR a b).1.Signs), r62, r63]) (v1 := Value.agg #[I ((prodA a b (opB false)).Signs), r123, r124]) rfl rfl) (SameAuto_R r62 r63 r123 r124 (orR a b).1 (prodA a b (opB false)) (hS154.rdN 9 rfl) (hS154.rdN 10 rfl) (by assumption) (hS154.rdN 1 rfl) (hS154.rdN 2 rfl) (by assumption)) ?_
            rintro _ H159 ⟨hxx, rfl⟩
            have hS160 : St H0 NoB NoB [blkE g128 (.cells #[I ((prodA a b (opB false)).Signs), r123, r124] 36), rdE r123 ((prodA a b (opB false)).Next), rdE r124 ((prodA a b (opB false)).Takes), blkE g117 (.cells #[I ((prodA a b (opB true)).Signs), r112, r113] 36), rdE r112 ((prodA a b (opB true)).Next), rdE r113 ((prodA a b (opB true)).Takes), blkE g81 (.cells #[I ((pairFault a b).1), I ((pairFault a b).2)] 24), blkE g70 (.cells #[I ((orR a b).2.1), I ((orR a b).2.2)] 24), blkE g67 (.cells #[I ((orR a b).1.Signs), r62, r63] 36), rdE r62 ((orR a b).1.Next), rdE r63 ((orR a b).1.Takes), blkE g54 (.cells #[I ((andR a b).2.1), I ((andR a b).2.2)] 24), blkE g51 (.cells #[I ((andR a b).1.Signs), r46, r47] 36), rdE r46 ((andR a b).1.Next), rdE r47 ((andR a b).1.Takes), blkE g17 (.cells #[I (c2), I (e2)] 24), blkE g4 (.cells #[I (b.Signs), wn, wt] 36), blkE g1 (.cells #[I (a.Signs), vn, vt] 36), rdE vn a.Next, rdE vt a.Takes, rdE wn b.Next, rdE wt b.Takes] H159 := hS154.ext hxx
            refine wpL_q (U := NoB) rfl (q_pickT (v := B (decide ((orR a b).1 = (prodA a b (opB false))))) rfl hb157 rfl) ?_
            refine wpL_q (U := NoB) rfl (q_assign (v := B (decide ((orR a b).1 = (prodA a b (opB false))))) rfl rfl) ?_
            exact ⟨(Eq.trans rfl (congrArg B (decide_congr_of ((Iff.rfl).trans (((and_iff_right ⟨⟨hg147, hg150⟩, hg156⟩).trans Iff.rfl)).symm)))), hS160⟩
          · have hb158 := Eq.trans rfl (congrArg B (decide_eq_false hg156))
            refine wpL_gs rfl rfl rfl hb158 rfl ?_
            refine wpL_gs rfl rfl rfl hb158 rfl ?_
            refine wpL_gs rfl rfl rfl hb158 rfl ?_
            refine wpL_q (U := NoB) rfl (q_pickF (v := B (false)) rfl hb158 rfl) ?_
            refine wpL_q (U := NoB) rfl (q_assign (v := B (false)) rfl rfl) ?_
            exact ⟨(Eq.trans rfl (congrArg B ((decide_eq_false (fun h => (fun h => hg156 h.2) h.1)).symm))), hS154⟩
        · have hb152 := Eq.trans rfl (congrArg B (decide_eq_false hg150))
          refine wpL_gs rfl rfl rfl hb152 rfl ?_
          refine wpL_gs rfl rfl rfl hb152 rfl ?_
          refine wpL_gs rfl rfl rfl hb152 rfl ?_
          refine wpL_q (U := NoB) rfl (q_pickF (v := B (false)) rfl hb152 rfl) ?_
          refine wpL_q (U := NoB) rfl (q_move (v := B (false)) rfl rfl) ?_
          refine wpL_gs rfl rfl rfl rfl rfl ?_
          refine wpL_gs rfl rfl rfl rfl rfl ?_
          refine wpL_gs rfl rfl rfl rfl rfl ?_
          refine wpL_q (U := NoB) rfl (q_pickF (v := B (false)) rfl rfl rfl) ?_
          refine wpL_q (U := NoB) rfl (q_assign (v := B (false)) rfl rfl) ?_
          exact ⟨(Eq.trans rfl (congrArg B ((decide_eq_false (fun h => (fun h => (fun h => hg150 h.2) h.1) h.1)).symm))), hS133⟩
      · have hb149 := Eq.trans rfl (congrArg B (decide_eq_false hg147))
        refine wpL_gs rfl rfl rfl hb149 rfl ?_
        refine wpL_gs rfl rfl rfl hb149 rfl ?_
        refine wpL_gs rfl rfl rfl hb149 rfl ?_
        refine wpL_q (U := NoB) rfl (q_pickF (v := B (false)) rfl hb149 rfl) ?_
        refine wpL_q (U := NoB) rfl (q_move (v := B (false)) rfl rfl) ?_
        refine wpL_gs rfl rfl rfl rfl rfl ?_
        refine wpL_gs rfl rfl rfl rfl rfl ?_
        refine wpL_gs rfl rfl rfl rfl rfl ?_
        refine wpL_q (U := NoB) rfl (q_pickF (v := B (false)) rfl rfl rfl) ?_
        refine wpL_q (U := NoB) rfl (q_move (v := B (false)) rfl rfl) ?_
        refine wpL_gs rfl rfl rfl rfl rfl ?_
        refine wpL_gs rfl rfl rfl rfl rfl ?_
        refine wpL_gs rfl rfl rfl rfl rfl ?_
        refine wpL_q (U := NoB) rfl (q_pickF (v := B (false)) rfl rfl rfl) ?_
        refine wpL_q (U := NoB) rfl (q_assign (v := B (false)) rfl rfl) ?_
        exact ⟨(Eq.trans rfl (congrArg B ((decide_eq_false (fun h => (fun h => (fun h => hg147 h.1) h.1) h.1)).symm))), hS133⟩
    rintro f162 H162 ⟨a162_4, hS162⟩
    clear a134_113 a134_12 a134_13 a134_6 a134_7 a134_8 a134_9
    refine wpF_ret ?_
    refine ⟨_, resT a162_4 resN, hS162.frame, ?_⟩
    show (B (decide ((((((andR a b).2.1) = 0) ∧ (((orR a b).2.1) = 0)) ∧ ((andR a b).1 = (prodA a b (opB true)))) ∧ ((orR a b).1 = (prodA a b (opB false)))))) = B true
    exact congrArg B (decide_eq_true (by rw [(p4 h113).1, (p4 h113).2]; simp))
  refine wpF_seq ?_
  refine wpF_cut (fun f H => f 4 = B (decide ((((((andR a b).2.1) = 10 ∧ ((andR a b).2.2) = 0) ∧ (((orR a b).2.1) = ((andR a b).2.1) ∧ ((orR a b).2.2) = ((andR a b).2.2))) ∧ ((((andR a b).1.Next).length : Int) = 0)) ∧ ((((orR a b).1.Next).length : Int) = 0))) ∧ St H0 NoB NoB [blkE g128 (.cells #[I ((prodA a b (opB false)).Signs), r123, r124] 36), rdE r123 ((prodA a b (opB false)).Next), rdE r124 ((prodA a b (opB false)).Takes), blkE g117 (.cells #[I ((prodA a b (opB true)).Signs), r112, r113] 36), rdE r112 ((prodA a b (opB true)).Next), rdE r113 ((prodA a b (opB true)).Takes), blkE g81 (.cells #[I ((pairFault a b).1), I ((pairFault a b).2)] 24), blkE g70 (.cells #[I ((orR a b).2.1), I ((orR a b).2.2)] 24), blkE g67 (.cells #[I ((orR a b).1.Signs), r62, r63] 36), rdE r62 ((orR a b).1.Next), rdE r63 ((orR a b).1.Takes), blkE g54 (.cells #[I ((andR a b).2.1), I ((andR a b).2.2)] 24), blkE g51 (.cells #[I ((andR a b).1.Signs), r46, r47] 36), rdE r46 ((andR a b).1.Next), rdE r47 ((andR a b).1.Takes), blkE g17 (.cells #[I (c2), I (e2)] 24), blkE g4 (.cells #[I (b.Signs), wn, wt] 36), blkE g1 (.cells #[I (a.Signs), vn, vt] 36), rdE vn a.Next, rdE vt a.Takes, rdE wn b.Next, rdE wt b.Takes] H) ?_ ?_
  · refine wpF_drawn [] [] (fun _ _ => False) (by kernel_rfl) (by kernel_rfl) ?_
    refine wpR_q 0 (by kernel_rfl) rfl (quietAt rfl rfl (q_loadBlkA rfl a134_7 Try.isAgg24 Try.sizeOf24 rfl (hS133.blk 11 rfl) (labU_not [] rfl (List.forall_mem_nil _)))) ?_
    refine wpR_n [1] (by kernel_rfl) ?_
    refine List.forall_mem_cons.2 ⟨?_, List.forall_mem_nil _⟩
    refine exE rfl rfl ?_
    refine e_call rfl Try.call15 (arr2 (v0 := I (10)) (v1 := I (0)) rfl rfl) (fault_L 10 0) ?_
    rintro _ H136o1 ⟨hxx, rfl⟩
    have hS136o1 : St H0 NoB NoB [blkE g128 (.cells #[I ((prodA a b (opB false)).Signs), r123, r124] 36), rdE r123 ((prodA a b (opB false)).Next), rdE r124 ((prodA a b (opB false)).Takes), blkE g117 (.cells #[I ((prodA a b (opB true)).Signs), r112, r113] 36), rdE r112 ((prodA a b (opB true)).Next), rdE r113 ((prodA a b (opB true)).Takes), blkE g81 (.cells #[I ((pairFault a b).1), I ((pairFault a b).2)] 24), blkE g70 (.cells #[I ((orR a b).2.1), I ((orR a b).2.2)] 24), blkE g67 (.cells #[I ((orR a b).1.Signs), r62, r63] 36), rdE r62 ((orR a b).1.Next), rdE r63 ((orR a b).1.Takes), blkE g54 (.cells #[I ((andR a b).2.1), I ((andR a b).2.2)] 24), blkE g51 (.cells #[I ((andR a b).1.Signs), r46, r47] 36), rdE r46 ((andR a b).1.Next), rdE r47 ((andR a b).1.Takes), blkE g17 (.cells #[I (c2), I (e2)] 24), blkE g4 (.cells #[I (b.Signs), wn, wt] 36), blkE g1 (.cells #[I (a.Signs), vn, vt] 36), rdE vn a.Next, rdE vt a.Takes, rdE wn b.Next, rdE wt b.Takes] H136o1 := hS133.ext hxx
    refine ⟨Ext.mono hxx (fun _ h => h.elim), ?_⟩
    refine wpR_q 2 (by kernel_rfl) rfl (quietAt rfl rfl (q_eqlF2 rfl Try.eqGuardType24 (fl24_AutoPairs1 _ _ _ _) rfl rfl)) ?_
    refine wpR_q 3 (by kernel_rfl) rfl (quietAt rfl rfl (q_move (v := B (decide (((andR a b).2.1) = 10 ∧ ((andR a b).2.2) = 0))) rfl rfl)) ?_
    by_cases hg137 : ((andR a b).2.1) = 10 ∧ ((andR a b).2.2) = 0
    · have hb138 := Eq.trans rfl (congrArg B (decide_eq_true hg137))
      refine wpR_q 4 (by kernel_rfl) rfl (quietAt_g rfl rfl rfl rfl hb138 (q_loadBlkA rfl a134_9 Try.isAgg24 Try.sizeOf24 rfl (hS136o1.blk 7 rfl) (labU_not [] rfl (List.forall_mem_nil _)))) ?_
      refine wpR_q 5 (by kernel_rfl) rfl (quietAt_g rfl rfl rfl rfl hb138 (q_loadBlkA rfl a134_7 Try.isAgg24 Try.sizeOf24 rfl (hS136o1.blk 11 rfl) (labU_not [] rfl (List.forall_mem_nil _)))) ?_
      refine wpR_q 6 (by kernel_rfl) rfl (quietAt_g rfl rfl rfl rfl hb138 (q_eqlF2 rfl Try.eqGuardType24 (fl24_AutoPairs1 _ _ _ _) rfl rfl)) ?_
      refine wpR_q 7 (by kernel_rfl) rfl (quietAt rfl rfl (q_pickT (v := B (decide (((orR a b).2.1) = ((andR a b).2.1) ∧ ((orR a b).2.2) = ((andR a b).2.2)))) rfl hb138 rfl)) ?_
      refine wpR_q 8 (by kernel_rfl) rfl (quietAt rfl rfl (q_move (v := B (decide (((orR a b).2.1) = ((andR a b).2.1) ∧ ((orR a b).2.2) = ((andR a b).2.2)))) rfl rfl)) ?_
      by_cases hg140 : ((orR a b).2.1) = ((andR a b).2.1) ∧ ((orR a b).2.2) = ((andR a b).2.2)
      · have hb141 := Eq.trans rfl (congrArg B (decide_eq_true hg140))
        refine wpR_q 9 (by kernel_rfl) rfl (quietAt_g rfl rfl rfl rfl hb141 (q_fieldAddr rfl Try.underlying36 rfl Try.sizeOf27 a134_6)) ?_
        refine wpR_q 10 (by kernel_rfl) rfl (quietAt_g rfl rfl rfl rfl hb141 (q_loadBlk rfl rfl Try.isAgg27 (hS136o1.blk 12 rfl) rfl (labU_not [] rfl (List.forall_mem_nil _)))) ?_
        refine wpR_q 11 (by kernel_rfl) rfl (quietAt_g rfl rfl rfl rfl hb141 (q_lenRd rfl Try.underlying27 rfl (hS136o1.rdl 13 rfl))) ?_
        refine wpR_q 12 (by kernel_rfl) rfl (quietAt_g rfl rfl rfl rfl hb141 (q_eql rfl rfl rfl)) ?_
        refine wpR_q 13 (by kernel_rfl) rfl (quietAt rfl rfl (q_pickT (v := B (decide ((((andR a b).1.Next).length : Int) = 0))) rfl hb141 rfl)) ?_
        refine wpR_q 14 (by kernel_rfl) rfl (quietAt rfl rfl (q_move (v := B (decide ((((andR a b).1.Next).length : Int) = 0))) rfl rfl)) ?_
        by_cases hg143 : (((andR a b).1.Next).length : Int) = 0
        · have hb144 := Eq.trans rfl (congrArg B (decide_eq_true hg143))
          refine wpR_q 15 (by kernel_rfl) rfl (quietAt_g rfl rfl rfl rfl hb144 (q_fieldAddr rfl Try.underlying36 rfl Try.sizeOf27 a134_8)) ?_
          refine wpR_q 16 (by kernel_rfl) rfl (quietAt_g rfl rfl rfl rfl hb144 (q_loadBlk rfl rfl Try.isAgg27 (hS136o1.blk 8 rfl) rfl (labU_not [] rfl (List.forall_mem_nil _)))) ?_
          refine wpR_q 17 (by kernel_rfl) rfl (quietAt_g rfl rfl rfl rfl hb144 (q_lenRd rfl Try.underlying27 rfl (hS136o1.rdl 9 rfl))) ?_
          refine wpR_q 18 (by kernel_rfl) rfl (quietAt_g rfl rfl rfl rfl hb144 (q_eql rfl rfl rfl)) ?_
          refine wpR_q 19 (by kernel_rfl) rfl (quietAt rfl rfl (q_pickT (v := B (decide ((((orR a b).1.Next).length : Int) = 0))) rfl hb144 rfl)) ?_
          refine wpR_q 20 (by kernel_rfl) rfl (quietAt rfl rfl (q_assign (v := B (decide ((((orR a b).1.Next).length : Int) = 0))) rfl rfl)) ?_
          refine wpR_end (by kernel_rfl) ?_
          exact ⟨(Eq.trans rfl (congrArg B (decide_congr_of ((Iff.rfl).trans (((and_iff_right ⟨⟨hg137, hg140⟩, hg143⟩).trans Iff.rfl)).symm)))), hS136o1⟩
        · have hb145 := Eq.trans rfl (congrArg B (decide_eq_false hg143))
          refine wpR_q 15 (by kernel_rfl) rfl (quietAt_s rfl rfl rfl rfl hb145 rfl) ?_
          refine wpR_q 16 (by kernel_rfl) rfl (quietAt_s rfl rfl rfl rfl hb145 rfl) ?_
          refine wpR_q 17 (by kernel_rfl) rfl (quietAt_s rfl rfl rfl rfl hb145 rfl) ?_
          refine wpR_q 18 (by kernel_rfl) rfl (quietAt_s rfl rfl rfl rfl hb145 rfl) ?_
          refine wpR_q 19 (by kernel_rfl) rfl (quietAt rfl rfl (q_pickF (v := B (false)) rfl hb145 rfl)) ?_
          refine wpR_q 20 (by kernel_rfl) rfl (quietAt rfl rfl (q_assign (v := B (false)) rfl rfl)) ?_
          refine wpR_end (by kernel_rfl) ?_
          exact ⟨(Eq.trans rfl (congrArg B ((decide_eq_false (fun h => (fun h => hg143 h.2) h.1)).symm))), hS136o1⟩
      · have hb142 := Eq.trans rfl (congrArg B (decide_eq_false hg140))
        refine wpR_q 9 (by kernel_rfl) rfl (quietAt_s rfl rfl rfl rfl hb142 rfl) ?_
        refine wpR_q 10 (by kernel_rfl) rfl (quietAt_s rfl rfl rfl rfl hb142 rfl) ?_
        refine wpR_q 11 (by kernel_rfl) rfl (quietAt_s rfl rfl rfl rfl hb142 rfl) ?_
        refine wpR_q 12 (by kernel_rfl) rfl (quietAt_s rfl rfl rfl rfl hb142 rfl) ?_
        refine wpR_q 13 (by kernel_rfl) rfl (quietAt rfl rfl (q_pickF (v := B (false)) rfl hb142 rfl)) ?_
        refine wpR_q 14 (by kernel_rfl) rfl (quietAt rfl rfl (q_move (v := B (false)) rfl rfl)) ?_
        refine wpR_q 15 (by kernel_rfl) rfl (quietAt_s rfl rfl rfl rfl rfl rfl) ?_
        refine wpR_q 16 (by kernel_rfl) rfl (quietAt_s rfl rfl rfl rfl rfl rfl) ?_
        refine wpR_q 17 (by kernel_rfl) rfl (quietAt_s rfl rfl rfl rfl rfl rfl) ?_
        refine wpR_q 18 (by kernel_rfl) rfl (quietAt_s rfl rfl rfl rfl rfl rfl) ?_
        refine wpR_q 19 (by kernel_rfl) rfl (quietAt rfl rfl (q_pickF (v := B (false)) rfl rfl rfl)) ?_
        refine wpR_q 20 (by kernel_rfl) rfl (quietAt rfl rfl (q_assign (v := B (false)) rfl rfl)) ?_
        refine wpR_end (by kernel_rfl) ?_
        exact ⟨(Eq.trans rfl (congrArg B ((decide_eq_false (fun h => (fun h => (fun h => hg140 h.2) h.1) h.1)).symm))), hS136o1⟩
    · have hb139 := Eq.trans rfl (congrArg B (decide_eq_false hg137))
      refine wpR_q 4 (by kernel_rfl) rfl (quietAt_s rfl rfl rfl rfl hb139 rfl) ?_
      refine wpR_q 5 (by kernel_rfl) rfl (quietAt_s rfl rfl rfl rfl hb139 rfl) ?_
      refine wpR_q 6 (by kernel_rfl) rfl (quietAt_s rfl rfl rfl rfl hb139 rfl) ?_
      refine wpR_q 7 (by kernel_rfl) rfl (quietAt rfl rfl (q_pickF (v := B (false)) rfl hb139 rfl)) ?_
      refine wpR_q 8 (by kernel_rfl) rfl (quietAt rfl rfl (q_move (v := B (false)) rfl rfl)) ?_
      refine wpR_q 9 (by kernel_rfl) rfl (quietAt_s rfl rfl rfl rfl rfl rfl) ?_
      refine wpR_q 10 (by kernel_rfl) rfl (quietAt_s rfl rfl rfl rfl rfl rfl) ?_
      refine wpR_q 11 (by kernel_rfl) rfl (quietAt_s rfl rfl rfl rfl rfl rfl) ?_
      refine wpR_q 12 (by kernel_rfl) rfl (quietAt_s rfl rfl rfl rfl rfl rfl) ?_
      refine wpR_q 13 (by kernel_rfl) rfl (quietAt rfl rfl (q_pickF (v := B (false)) rfl rfl rfl)) ?_
      refine wpR_q 14 (by kernel_rfl) rfl (quietAt rfl rfl (q_move (v := B (false)) rfl rfl)) ?_
      refine wpR_q 15 (by kernel_rfl) rfl (quietAt_s rfl rfl rfl rfl rfl rfl) ?_
      refine wpR_q 16 (by kernel_rfl) rfl (quietAt_s rfl rfl rfl rfl rfl rfl) ?_
      refine wpR_q 17 (by kernel_rfl) rfl (quietAt_s rfl rfl rfl rfl rfl rfl) ?_
      refine wpR_q 18 (by kernel_rfl) rfl (quietAt_s rfl rfl rfl rfl rfl rfl) ?_
      refine wpR_q 19 (by kernel_rfl) rfl (quietAt rfl rfl (q_pickF (v := B (false)) rfl rfl rfl)) ?_
      refine wpR_q 20 (by kernel_rfl) rfl (quietAt rfl rfl (q_assign (v := B (false)) rfl rfl)) ?_
      refine wpR_end (by kernel_rfl) ?_
      exact ⟨(Eq.trans rfl (congrArg B ((decide_eq_false (fun h => (fun h => (fun h => hg137 h.1) h.1) h.1)).symm))), hS136o1⟩
  rintro f146 H146 ⟨a146_4, hS146⟩
  clear a134_113 a134_12 a134_13 a134_6 a134_7 a134_8 a134_9
  refine wpF_ret ?_
  refine ⟨_, resT a146_4 resN, hS146.frame, ?_⟩
  show (B (decide ((((((andR a b).2.1) = 10 ∧ ((andR a b).2.2) = 0) ∧ (((orR a b).2.1) = ((andR a b).2.1) ∧ ((orR a b).2.2) = ((andR a b).2.2))) ∧ ((((andR a b).1.Next).length : Int) = 0)) ∧ ((((orR a b).1.Next).length : Int) = 0)))) = B true
  exact congrArg B (decide_eq_true (by rw [(p3 h113).1, (p3 h113).2]; simp))

end Go.Um
