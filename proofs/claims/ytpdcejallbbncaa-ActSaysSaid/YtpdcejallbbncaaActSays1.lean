import Derived.Test.YtpdcejallbbncaaProg
import Derived.Test.YtpdcejallbbncaaActW1
namespace Go.Um
open Go.Proofs
open GoT (sz ag rdc)
open KeyT (kv)

theorem fl27 (a b c d : Int) (w : World) : (Op.equalIn 10000 27 (.agg #[I a, I b]) (.agg #[I c, I d])).run Try.prog w = .ok (decide (a = c ∧ b = d)) w := eq2_run Try.underlying27 Try.underlying3 Try.underlying3 (by decide) (by decide) rfl rfl Try.isAgg3 Try.isAgg3 Try.stoodInHeld27 a b c d w

set_option maxHeartbeats 1000000 in
set_option maxRecDepth 100000 in
theorem ActSays_L {H0 : Heap} (vf vg va vl : Value) (q : Quest) (plan : List Int) (h6qFacts : In64 q.Facts) (rvf : Rd NoB H0 vf q.First) (rvg : Rd NoB H0 vg q.Goal) (rva : Rd NoB H0 va q.Acts) (rl : Rd NoB H0 vl plan) : CallsH Try.prog 3 #[Value.agg #[I (q.Facts), vf, vg, va], vl] H0 (fun rv_ H' => Ext NoB H0 H' ∧ rv_ = B true) := by
  have hsl := (Rd.list.1 rl).small
  have hsa := (Rd.list.1 rva).small
  have hS0 : St H0 NoB NoB [rdE vf (q.First : List Int), rdE vg (q.Goal : List Int), rdE va (q.Acts : List Act), rdE vl (plan : List Int)] H0 := St.arg (St.arg (St.arg (St.arg (St.start (fun _ h => h.elim)) (Bl0.nil) rl (fun _ h => h)) (Bl0.cons (Bl0.nil)) rva (fun _ h => h)) (Bl0.cons (Bl0.cons (Bl0.nil))) rvg (fun _ h => h)) (Bl0.cons (Bl0.cons (Bl0.cons (Bl0.nil)))) rvf (fun _ h => h)
  refine callsH_of_wpF (args := [Value.agg #[I (q.Facts), vf, vg, va], vl]) (rs := [.tmp 4]) Try.func3 rfl Try.ntmps3 Try.results3 (by kernel_rfl) (Nat.le_of_ble_eq_true rfl) ?_
  have a0_0 : argF [Value.agg #[I (q.Facts), vf, vg, va], vl] 0 = Value.agg #[I (q.Facts), vf, vg, va] := rfl
  have a0_1 : argF [Value.agg #[I (q.Facts), vf, vg, va], vl] 1 = vl := rfl
  generalize argF [Value.agg #[I (q.Facts), vf, vg, va], vl] = f0 at *
  refine wpF_seq ?_
  refine wpF_cut (fun f H => ∃ (g1 : Nat), f 1 = vl ∧ f 2 = PT g1 0 ∧ St H0 NoB NoB [blkE g1 (.cells #[I (q.Facts), vf, vg, va] 25), rdE vf (q.First : List Int), rdE vg (q.Goal : List Int), rdE va (q.Acts : List Act), rdE vl (plan : List Int)] H) ?_ ?_
  · refine wpF_region ?_
    refine wpL_o rfl ?_
    refine e_box (v := Value.agg #[I (q.Facts), vf, vg, va]) rfl a0_0 hS0 (fun g1 H2 hS3 hxx => ?_)
    replace hS3 : St H0 NoB NoB [blkE g1 (.cells #[I (q.Facts), vf, vg, va] 25), rdE vf (q.First : List Int), rdE vg (q.Goal : List Int), rdE va (q.Acts : List Act), rdE vl (plan : List Int)] H2 := hS3
    refine wpL_q (U := NoB) rfl (q_assign (v := B (false)) rfl rfl) ?_
    exact ⟨g1, a0_1, rfl, hS3⟩
  rintro f4 H4 ⟨g1, a4_1, a4_2, hS4⟩
  clear a0_0 a0_1
  refine wpF_seq ?_
  refine wpF_seq ?_
  refine wpF_cut (fun f H => f 1 = vl ∧ f 2 = PT g1 0 ∧ f 19 = B (decide ((20 < (q.Acts.length : Int)) ∨ (40 < (plan.length : Int)))) ∧ H4 = H) ?_ ?_
  · refine wpF_region ?_
    refine wpL_q (U := NoB) rfl (q_fieldAddr rfl Try.underlying25 rfl Try.sizeOf23 a4_2) ?_
    refine wpL_q (U := NoB) rfl (q_loadBlk rfl rfl Try.isAgg23 (hS4.blk 0 rfl) rfl (fun h => h)) ?_
    refine wpL_q (U := NoB) rfl (q_lenRd rfl Try.underlying23 rfl (hS4.rdl 3 rfl)) ?_
    refine wpL_q (U := NoB) rfl (q_gtr rfl rfl rfl) ?_
    refine wpL_q (U := NoB) rfl (q_move (v := B (decide (20 < (q.Acts.length : Int)))) rfl rfl) ?_
    by_cases hg5 : 20 < (q.Acts.length : Int)
    · have hb6 := Eq.trans rfl (congrArg B (decide_eq_true hg5))
      refine wpL_gs rfl rfl rfl hb6 rfl ?_
      refine wpL_gs rfl rfl rfl hb6 rfl ?_
      refine wpL_gs rfl rfl rfl hb6 rfl ?_
      refine wpL_q (U := NoB) rfl (q_pickT (v := B (true)) rfl hb6 rfl) ?_
      exact ⟨a4_1, a4_2, (Eq.trans rfl (congrArg B ((decide_eq_true (Or.inl hg5)).symm))), rfl⟩
    · have hb7 := Eq.trans rfl (congrArg B (decide_eq_false hg5))
      refine wpL_gq (U := NoB) rfl rfl rfl hb7 (q_move (v := vl) rfl a4_1) ?_
      refine wpL_gq (U := NoB) rfl rfl rfl hb7 (q_lenRd rfl Try.underlying22 rfl (hS4.rdl 4 rfl)) ?_
      refine wpL_gq (U := NoB) rfl rfl rfl hb7 (q_gtr rfl rfl rfl) ?_
      refine wpL_q (U := NoB) rfl (q_pickF (v := B (decide (40 < (plan.length : Int)))) rfl hb7 rfl) ?_
      exact ⟨a4_1, a4_2, (Eq.trans rfl (congrArg B (decide_congr_of ((Iff.rfl).trans (((or_iff_right hg5).trans Iff.rfl)).symm)))), rfl⟩
  rintro f8 _ ⟨a8_1, a8_2, a8_19, rfl⟩
  clear a4_1 a4_2
  refine wpF_condP a8_19 (fun hbig => ?t114) (fun hbig => ?e114)
  case t114 =>
    refine wpF_seq ?_
    refine wpF_cut (fun f H => f 4 = B (true) ∧ H4 = H) ?_ ?_
    · refine wpF_region ?_
      refine wpL_q (U := NoB) rfl (q_assign (v := B (true)) rfl rfl) ?_
      exact ⟨rfl, rfl⟩
    rintro f10 _ ⟨a10_4, rfl⟩
    clear a8_1 a8_19 a8_2
    refine wpF_ret ?_
    refine ⟨_, resT a10_4 resN, hS4.frame, ?_⟩
    show (B (true)) = B true
    rfl
  refine wpF_skip ?_
  refine wpF_seq ?_
  refine wpF_cut (fun f H => ∃ (g14 : Nat), f 1 = vl ∧ f 2 = PT g1 0 ∧ f 5 = PT g14 0 ∧ St H0 NoB NoB [blkE g14 (.cells #[I ((questFault q).1), I ((questFault q).2)] 27), blkE g1 (.cells #[I (q.Facts), vf, vg, va] 25), rdE vf (q.First : List Int), rdE vg (q.Goal : List Int), rdE va (q.Acts : List Act), rdE vl (plan : List Int)] H) ?_ ?_
  · refine wpF_region ?_
    refine wpL_q (U := NoB) rfl (q_loadBlkA rfl a8_2 Try.isAgg25 Try.sizeOf25 rfl (hS4.blk 0 rfl) (fun h => h)) ?_
    refine wpL_o rfl ?_
    refine e_call rfl Try.call12 (arr1 (v0 := Value.agg #[I (q.Facts), vf, vg, va]) rfl) (Quest_R vf vg va q (by first | assumption | (constructor <;> omega)) (hS4.rdN 1 rfl) (hS4.rdN 2 rfl) (hS4.rdN 3 rfl) ) ?_
    rintro _ H11 ⟨hxx, rfl⟩
    have hS12 : St H0 NoB NoB [blkE g1 (.cells #[I (q.Facts), vf, vg, va] 25), rdE vf (q.First : List Int), rdE vg (q.Goal : List Int), rdE va (q.Acts : List Act), rdE vl (plan : List Int)] H11 := hS4.ext hxx
    refine wpL_o rfl ?_
    refine e_alloc rfl Try.zeroValue27 hS12 (fun g14 H15 hS16 hxx => ?_)
    replace hS16 : St H0 NoB NoB [blkE g14 (.cells #[I (0), I (0)] 27), blkE g1 (.cells #[I (q.Facts), vf, vg, va] 25), rdE vf (q.First : List Int), rdE vg (q.Goal : List Int), rdE va (q.Acts : List Act), rdE vl (plan : List Int)] H15 := hS16
    refine wpL_o rfl ?_
    refine e_storeBlkA (cs' := #[I ((questFault q).1), I ((questFault q).2)]) rfl rfl rfl Try.sizeOf27 rfl rfl (List.forall_mem_cons.2 ⟨rfl, List.forall_mem_cons.2 ⟨rfl, List.forall_mem_nil _⟩⟩) hS16 (fun H17 hS18 hxx => ?_)
    replace hS18 : St H0 NoB NoB [blkE g14 (.cells #[I ((questFault q).1), I ((questFault q).2)] 27), blkE g1 (.cells #[I (q.Facts), vf, vg, va] 25), rdE vf (q.First : List Int), rdE vg (q.Goal : List Int), rdE va (q.Acts : List Act), rdE vl (plan : List Int)] H17 := hS18
    exact ⟨g14, a8_1, a8_2, rfl, hS18⟩
  rintro f19 H19 ⟨g14, a19_1, a19_2, a19_5, hS19⟩
  clear a8_1 a8_19 a8_2
  refine wpF_seq ?_
  refine wpF_seq ?_
  refine wpF_cut (fun f H => f 1 = vl ∧ f 2 = PT g1 0 ∧ f 5 = PT g14 0 ∧ f 25 = B (decide (¬ (((questFault q).1) = ((questFault q).1) ∧ ((questFault q).2) = ((questFault q).2)))) ∧ St H0 NoB NoB [blkE g14 (.cells #[I ((questFault q).1), I ((questFault q).2)] 27), blkE g1 (.cells #[I (q.Facts), vf, vg, va] 25), rdE vf (q.First : List Int), rdE vg (q.Goal : List Int), rdE va (q.Acts : List Act), rdE vl (plan : List Int)] H) ?_ ?_
  · refine wpF_drawn [] [] (fun _ _ => False) (by kernel_rfl) (by kernel_rfl) ?_
    refine wpR_q 0 (by kernel_rfl) rfl (quietAt rfl rfl (q_loadBlkA rfl a19_2 Try.isAgg25 Try.sizeOf25 rfl (hS19.blk 1 rfl) (labU_not [] rfl (List.forall_mem_nil _)))) ?_
    refine wpR_q 2 (by kernel_rfl) rfl (quietAt rfl rfl (q_loadBlkA rfl a19_5 Try.isAgg27 Try.sizeOf27 rfl (hS19.blk 0 rfl) (labU_not [] rfl (List.forall_mem_nil _)))) ?_
    refine wpR_n [1] (by kernel_rfl) ?_
    refine List.forall_mem_cons.2 ⟨?_, List.forall_mem_nil _⟩
    refine exE rfl rfl ?_
    refine e_call rfl Try.call13 (arr1 (v0 := Value.agg #[I (q.Facts), vf, vg, va]) rfl) (Check_L vf vg va q (by first | assumption | (constructor <;> omega)) (hS19.rdN 2 rfl) (hS19.rdN 3 rfl) (hS19.rdN 4 rfl) ) ?_
    rintro _ H20o1 ⟨hxx, rfl⟩
    have hS20o1 : St H0 NoB NoB [blkE g14 (.cells #[I ((questFault q).1), I ((questFault q).2)] 27), blkE g1 (.cells #[I (q.Facts), vf, vg, va] 25), rdE vf (q.First : List Int), rdE vg (q.Goal : List Int), rdE va (q.Acts : List Act), rdE vl (plan : List Int)] H20o1 := hS19.ext hxx
    refine ⟨Ext.mono hxx (fun _ h => h.elim), ?_⟩
    refine wpR_q 3 (by kernel_rfl) rfl (quietAt rfl rfl (q_neqF2 rfl Try.eqGuardType27 (fl27 _ _ _ _) rfl rfl)) ?_
    refine wpR_end (by kernel_rfl) ?_
    exact ⟨a19_1, a19_2, a19_5, rfl, hS20o1⟩
  rintro f21 H21 ⟨a21_1, a21_2, a21_5, a21_25, hS21⟩
  clear a19_1 a19_2 a19_5
  refine wpF_condP a21_25 (fun hne => ?t113) (fun hne => ?e113)
  case t113 =>
    refine wpF_seq ?_
    refine wpF_cut (fun f H => f 4 = B (false) ∧ H21 = H) ?_ ?_
    · refine wpF_region ?_
      refine wpL_q (U := NoB) rfl (q_assign (v := B (false)) rfl rfl) ?_
      exact ⟨rfl, rfl⟩
    rintro f23 _ ⟨a23_4, rfl⟩
    clear a21_1 a21_2 a21_25 a21_5
    refine wpF_ret ?_
    refine ⟨_, resT a23_4 resN, hS21.frame, ?_⟩
    show (B (false)) = B true
    exfalso
    exact hne ⟨rfl, rfl⟩
  refine wpF_skip ?_
  refine wpF_seq ?_
  refine wpF_cut (fun f H => ∃ (r24 : Value), ∃ (g28 : Nat), f 1 = vl ∧ f 2 = PT g1 0 ∧ f 5 = PT g14 0 ∧ f 6 = r24 ∧ f 7 = B (walkOk q plan) ∧ f 8 = PT g28 0 ∧ St H0 NoB NoB [blkE g28 (.cells #[I (((walkFault q plan)).1), I (((walkFault q plan)).2)] 27), rdE r24 (walkNow q plan : List Bool), blkE g14 (.cells #[I ((questFault q).1), I ((questFault q).2)] 27), blkE g1 (.cells #[I (q.Facts), vf, vg, va] 25), rdE vf (q.First : List Int), rdE vg (q.Goal : List Int), rdE va (q.Acts : List Act), rdE vl (plan : List Int)] H) ?_ ?_
  · refine wpF_region ?_
    refine wpL_q (U := NoB) rfl (q_loadBlkA rfl a21_2 Try.isAgg25 Try.sizeOf25 rfl (hS21.blk 1 rfl) (fun h => h)) ?_
    refine wpL_q (U := NoB) rfl (q_move (v := vl) rfl a21_1) ?_
    refine wpL_o rfl ?_
    refine e_call rfl Try.call14 (arr2 (v0 := Value.agg #[I (q.Facts), vf, vg, va]) (v1 := vl) rfl rfl) (Walk_L vf vg va vl q plan (by first | assumption | (constructor <;> omega)) (hS21.rdS 2 rfl) (hS21.rdS 3 rfl) (hS21.rdS 4 rfl) (hS21.rdS 5 rfl) ) ?_
    rintro _ H25 ⟨hxx, r24, rfl, hrr24⟩
    have hS26 : St H0 NoB NoB [rdE r24 (walkNow q plan : List Bool), blkE g14 (.cells #[I ((questFault q).1), I ((questFault q).2)] 27), blkE g1 (.cells #[I (q.Facts), vf, vg, va] 25), rdE vf (q.First : List Int), rdE vg (q.Goal : List Int), rdE va (q.Acts : List Act), rdE vl (plan : List Int)] H25 := hS21.res hxx hrr24
    refine wpL_q (U := NoB) rfl (q_move (v := Value.tuple #[r24, B (walkOk q plan), Value.agg #[I (((walkFault q plan)).1), I (((walkFault q plan)).2)]]) rfl rfl) ?_
    refine wpL_q (U := NoB) rfl (q_extract (vs := #[r24, B (walkOk q plan), Value.agg #[I (((walkFault q plan)).1), I (((walkFault q plan)).2)]]) (v := r24) rfl rfl rfl) ?_
    refine wpL_q (U := NoB) rfl (q_extract (vs := #[r24, B (walkOk q plan), Value.agg #[I (((walkFault q plan)).1), I (((walkFault q plan)).2)]]) (v := B (walkOk q plan)) rfl rfl rfl) ?_
    refine wpL_q (U := NoB) rfl (q_extract (vs := #[r24, B (walkOk q plan), Value.agg #[I (((walkFault q plan)).1), I (((walkFault q plan)).2)]]) (v := Value.agg #[I (((walkFault q plan)).1), I (((walkFault q plan)).2)]) rfl rfl rfl) ?_
    refine wpL_o rfl ?_
    refine e_alloc rfl Try.zeroValue27 hS26 (fun g28 H29 hS30 hxx => ?_)
    replace hS30 : St H0 NoB NoB [blkE g28 (.cells #[I (0), I (0)] 27), rdE r24 (walkNow q plan : List Bool), blkE g14 (.cells #[I ((questFault q).1), I ((questFault q).2)] 27), blkE g1 (.cells #[I (q.Facts), vf, vg, va] 25), rdE vf (q.First : List Int), rdE vg (q.Goal : List Int), rdE va (q.Acts : List Act), rdE vl (plan : List Int)] H29 := hS30
    refine wpL_q (U := NoB) rfl (q_assign (v := r24) rfl rfl) ?_
    refine wpL_q (U := NoB) rfl (q_assign (v := B (walkOk q plan)) rfl rfl) ?_
    refine wpL_o rfl ?_
    refine e_storeBlkA (cs' := #[I (((walkFault q plan)).1), I (((walkFault q plan)).2)]) rfl rfl rfl Try.sizeOf27 rfl rfl (List.forall_mem_cons.2 ⟨rfl, List.forall_mem_cons.2 ⟨rfl, List.forall_mem_nil _⟩⟩) hS30 (fun H31 hS32 hxx => ?_)
    replace hS32 : St H0 NoB NoB [blkE g28 (.cells #[I (((walkFault q plan)).1), I (((walkFault q plan)).2)] 27), rdE r24 (walkNow q plan : List Bool), blkE g14 (.cells #[I ((questFault q).1), I ((questFault q).2)] 27), blkE g1 (.cells #[I (q.Facts), vf, vg, va] 25), rdE vf (q.First : List Int), rdE vg (q.Goal : List Int), rdE va (q.Acts : List Act), rdE vl (plan : List Int)] H31 := hS32
    exact ⟨r24, g28, a21_1, a21_2, a21_5, rfl, rfl, rfl, hS32⟩
  rintro f33 H33 ⟨r24, g28, a33_1, a33_2, a33_5, a33_6, a33_7, a33_8, hS33⟩
  clear a21_1 a21_2 a21_25 a21_5
  refine wpF_seq ?_
  refine wpF_seq ?_
  refine wpF_cut (fun f H => f 1 = vl ∧ f 2 = PT g1 0 ∧ f 5 = PT g14 0 ∧ f 6 = r24 ∧ f 7 = B (walkOk q plan) ∧ f 8 = PT g28 0 ∧ f 40 = B (decide ((((questFault q).1) = 0) ∧ (20 < (plan.length : Int)))) ∧ H33 = H) ?_ ?_
  · refine wpF_region ?_
    refine wpL_q (U := NoB) rfl (q_fieldAddr rfl Try.underlying27 rfl Try.sizeOf3 a33_5) ?_
    refine wpL_q (U := NoB) rfl (q_loadBlk rfl rfl Try.isAgg3 (hS33.blk 2 rfl) rfl (fun h => h)) ?_
    refine wpL_q (U := NoB) rfl (q_eql rfl rfl rfl) ?_
    refine wpL_q (U := NoB) rfl (q_move (v := B (decide (((questFault q).1) = 0))) rfl rfl) ?_
    by_cases hg34 : ((questFault q).1) = 0
    · have hb35 := Eq.trans rfl (congrArg B (decide_eq_true hg34))
      refine wpL_gq (U := NoB) rfl rfl rfl hb35 (q_move (v := vl) rfl a33_1) ?_
      refine wpL_gq (U := NoB) rfl rfl rfl hb35 (q_lenRd rfl Try.underlying22 rfl (hS33.rdl 7 rfl)) ?_
      refine wpL_gq (U := NoB) rfl rfl rfl hb35 (q_gtr rfl rfl rfl) ?_
      refine wpL_q (U := NoB) rfl (q_pickT (v := B (decide (20 < (plan.length : Int)))) rfl hb35 rfl) ?_
      exact ⟨a33_1, a33_2, a33_5, a33_6, a33_7, a33_8, (Eq.trans rfl (congrArg B (decide_congr_of ((Iff.rfl).trans (((and_iff_right hg34).trans Iff.rfl)).symm)))), rfl⟩
    · have hb36 := Eq.trans rfl (congrArg B (decide_eq_false hg34))
      refine wpL_gs rfl rfl rfl hb36 rfl ?_
      refine wpL_gs rfl rfl rfl hb36 rfl ?_
      refine wpL_gs rfl rfl rfl hb36 rfl ?_
      refine wpL_q (U := NoB) rfl (q_pickF (v := B (false)) rfl hb36 rfl) ?_
      exact ⟨a33_1, a33_2, a33_5, a33_6, a33_7, a33_8, (Eq.trans rfl (congrArg B ((decide_eq_false (fun h => hg34 h.1)).symm))), rfl⟩
  rintro f37 _ ⟨a37_1, a37_2, a37_5, a37_6, a37_7, a37_8, a37_40, rfl⟩
  clear a33_1 a33_2 a33_5 a33_6 a33_7 a33_8
  refine wpF_cut (fun f H => ∃ (c0 : Int), ∃ (a0 : Int), (WA0 q plan c0 a0) ∧ f 1 = vl ∧ f 2 = PT g1 0 ∧ f 5 = PT g14 0 ∧ f 6 = r24 ∧ f 7 = B (walkOk q plan) ∧ f 8 = PT g28 0 ∧ St H0 NoB NoB [blkE g28 (.cells #[I (((walkFault q plan)).1), I (((walkFault q plan)).2)] 27), rdE r24 (walkNow q plan : List Bool), blkE g14 (.cells #[I (c0), I (a0)] 27), blkE g1 (.cells #[I (q.Facts), vf, vg, va] 25), rdE vf (q.First : List Int), rdE vg (q.Goal : List Int), rdE va (q.Acts : List Act), rdE vl (plan : List Int)] H) ?_ ?_
  · refine wpF_condP a37_40 (fun h40 => ?t46) (fun h40 => ?e46)
    case e46 =>
      refine wpF_skip ?_
      exact ⟨(questFault q).1, (questFault q).2, (wA_head h40), a37_1, a37_2, a37_5, a37_6, a37_7, a37_8, hS33⟩
    refine wpF_cut (fun f H => f 1 = vl ∧ f 2 = PT g1 0 ∧ f 5 = PT g14 0 ∧ f 6 = r24 ∧ f 7 = B (walkOk q plan) ∧ f 8 = PT g28 0 ∧ St H0 NoB NoB [blkE g14 (.cells #[I (2), I (-2)] 27), blkE g28 (.cells #[I (((walkFault q plan)).1), I (((walkFault q plan)).2)] 27), rdE r24 (walkNow q plan : List Bool), blkE g1 (.cells #[I (q.Facts), vf, vg, va] 25), rdE vf (q.First : List Int), rdE vg (q.Goal : List Int), rdE va (q.Acts : List Act), rdE vl (plan : List Int)] H) ?_ ?_
    · refine wpF_region ?_
      refine wpL_o rfl ?_
      refine e_call rfl Try.call15 (arr2 (v0 := I (2)) (v1 := I (-2)) rfl rfl) (fault_L 2 (-2)) ?_
      rintro _ H40 ⟨hxx, rfl⟩
      have hS41 : St H0 NoB NoB [blkE g28 (.cells #[I (((walkFault q plan)).1), I (((walkFault q plan)).2)] 27), rdE r24 (walkNow q plan : List Bool), blkE g14 (.cells #[I ((questFault q).1), I ((questFault q).2)] 27), blkE g1 (.cells #[I (q.Facts), vf, vg, va] 25), rdE vf (q.First : List Int), rdE vg (q.Goal : List Int), rdE va (q.Acts : List Act), rdE vl (plan : List Int)] H40 := hS33.ext hxx
      refine wpL_o rfl ?_
      refine e_storeBlkA (cs' := #[I (2), I (-2)]) rfl a37_5 rfl Try.sizeOf27 rfl rfl (List.forall_mem_cons.2 ⟨rfl, List.forall_mem_cons.2 ⟨rfl, List.forall_mem_nil _⟩⟩) (hS41.front 2 rfl) (fun H43 hS44 hxx => ?_)
      replace hS44 : St H0 NoB NoB [blkE g14 (.cells #[I (2), I (-2)] 27), blkE g28 (.cells #[I (((walkFault q plan)).1), I (((walkFault q plan)).2)] 27), rdE r24 (walkNow q plan : List Bool), blkE g1 (.cells #[I (q.Facts), vf, vg, va] 25), rdE vf (q.First : List Int), rdE vg (q.Goal : List Int), rdE va (q.Acts : List Act), rdE vl (plan : List Int)] H43 := hS44
      exact ⟨a37_1, a37_2, a37_5, a37_6, a37_7, a37_8, hS44⟩
    rintro f45 H45 ⟨a45_1, a45_2, a45_5, a45_6, a45_7, a45_8, hS45⟩
    clear a37_1 a37_2 a37_40 a37_5 a37_6 a37_7 a37_8
    exact ⟨2, -2, (.inl ⟨(by decide), walk_many (by omega) (by omega)⟩), a45_1, a45_2, a45_5, a45_6, a45_7, a45_8, (St.drop (show St H0 NoB NoB [blkE g28 (.cells #[I (((walkFault q plan)).1), I (((walkFault q plan)).2)] 27), rdE r24 (walkNow q plan : List Bool), blkE g14 (.cells #[I (2), I (-2)] 27), blkE g1 (.cells #[I (q.Facts), vf, vg, va] 25), rdE vf (q.First : List Int), rdE vg (q.Goal : List Int), rdE va (q.Acts : List Act), rdE vl (plan : List Int)] H45 from ((((((((hS45.front 7 rfl).front 7 rfl).front 7 rfl).front 7 rfl).front 7 rfl).front 5 rfl).front 7 rfl).front 7 rfl)) (List.Sublist.cons_cons _ (List.Sublist.cons_cons _ (List.Sublist.cons_cons _ (List.Sublist.cons_cons _ (List.Sublist.cons_cons _ (List.Sublist.cons_cons _ (List.Sublist.cons_cons _ (List.Sublist.cons_cons _ (List.Sublist.slnil))))))))))⟩
  rintro f38 H38 ⟨c0, a0, hw0, a38_1, a38_2, a38_5, a38_6, a38_7, a38_8, hS38⟩
  clear a37_1 a37_2 a37_40 a37_5 a37_6 a37_7 a37_8
  refine wpF_seq ?_
  refine wpF_cut (fun f H => f 1 = vl ∧ f 2 = PT g1 0 ∧ f 5 = PT g14 0 ∧ f 6 = r24 ∧ f 7 = B (walkOk q plan) ∧ f 8 = PT g28 0 ∧ f 9 = (Value.slice none 0 0) ∧ H38 = H) ?_ ?_
  · refine wpF_region ?_
    refine wpL_q (U := NoB) rfl (q_assign (v := (Value.slice none 0 0)) rfl rfl) ?_
    exact ⟨a38_1, a38_2, a38_5, a38_6, a38_7, a38_8, rfl, rfl⟩
  rintro f47 _ ⟨a47_1, a47_2, a47_5, a47_6, a47_7, a47_8, a47_9, rfl⟩
  clear a38_1 a38_2 a38_5 a38_6 a38_7 a38_8
  have hS48 : St H0 NoB NoB [rdE (Value.slice none 0 0) ([] : List Bool), blkE g28 (.cells #[I (((walkFault q plan)).1), I (((walkFault q plan)).2)] 27), rdE r24 (walkNow q plan : List Bool), blkE g14 (.cells #[I (c0), I (a0)] 27), blkE g1 (.cells #[I (q.Facts), vf, vg, va] 25), rdE vf (q.First : List Int), rdE vg (q.Goal : List Int), rdE va (q.Acts : List Act), rdE vl (plan : List Int)] H38 := hS38.rd rdNil
  refine wpF_seq ?_
  refine wpF_seq ?_
  refine wpF_cut (fun f H => f 1 = vl ∧ f 2 = PT g1 0 ∧ f 5 = PT g14 0 ∧ f 6 = r24 ∧ f 7 = B (walkOk q plan) ∧ f 8 = PT g28 0 ∧ f 9 = (Value.slice none 0 0) ∧ f 44 = B (decide (c0 = 0)) ∧ H38 = H) ?_ ?_
  · refine wpF_region ?_
    refine wpL_q (U := NoB) rfl (q_fieldAddr rfl Try.underlying27 rfl Try.sizeOf3 a47_5) ?_
    refine wpL_q (U := NoB) rfl (q_loadBlk rfl rfl Try.isAgg3 (hS48.blk 3 rfl) rfl (fun h => h)) ?_
    refine wpL_q (U := NoB) rfl (q_eql rfl rfl rfl) ?_
    exact ⟨a47_1, a47_2, a47_5, a47_6, a47_7, a47_8, a47_9, rfl, rfl⟩
  rintro f49 _ ⟨a49_1, a49_2, a49_5, a49_6, a49_7, a49_8, a49_9, a49_44, rfl⟩
  clear a47_1 a47_2 a47_5 a47_6 a47_7 a47_8 a47_9
  refine wpF_cut (fun f H => ∃ (vN : Value), ∃ (nw : List Bool), (c0 = 0 → nw = firstL q) ∧ f 1 = vl ∧ f 2 = PT g1 0 ∧ f 5 = PT g14 0 ∧ f 6 = r24 ∧ f 7 = B (walkOk q plan) ∧ f 8 = PT g28 0 ∧ f 9 = vN ∧ St H0 NoB NoB [rdE vN (nw : List Bool), blkE g28 (.cells #[I (((walkFault q plan)).1), I (((walkFault q plan)).2)] 27), rdE r24 (walkNow q plan : List Bool), blkE g14 (.cells #[I (c0), I (a0)] 27), blkE g1 (.cells #[I (q.Facts), vf, vg, va] 25), rdE vf (q.First : List Int), rdE vg (q.Goal : List Int), rdE va (q.Acts : List Act), rdE vl (plan : List Int)] H) ?_ ?_
  · refine wpF_condP a49_44 (fun h44 => ?t57) (fun h44 => ?e57)
    case e57 =>
      refine wpF_skip ?_
      exact ⟨(Value.slice none 0 0), [], (fun h => absurd h h44), a49_1, a49_2, a49_5, a49_6, a49_7, a49_8, a49_9, hS48⟩
    have hF16 : 0 ≤ q.Facts ∧ q.Facts ≤ 16 := hw0.facts h44
    refine wpF_cut (fun f H => ∃ (r52 : Value), f 1 = vl ∧ f 2 = PT g1 0 ∧ f 5 = PT g14 0 ∧ f 6 = r24 ∧ f 7 = B (walkOk q plan) ∧ f 8 = PT g28 0 ∧ f 9 = r52 ∧ St H0 NoB NoB [rdE r52 (firstL q : List Bool), blkE g28 (.cells #[I (((walkFault q plan)).1), I (((walkFault q plan)).2)] 27), rdE r24 (walkNow q plan : List Bool), blkE g14 (.cells #[I (c0), I (a0)] 27), blkE g1 (.cells #[I (q.Facts), vf, vg, va] 25), rdE vf (q.First : List Int), rdE vg (q.Goal : List Int), rdE va (q.Acts : List Act), rdE vl (plan : List Int)] H) ?_ ?_
    · refine wpF_region ?_
      refine wpL_q (U := NoB) rfl (q_loadBlkA rfl a49_2 Try.isAgg25 Try.sizeOf25 rfl (hS48.blk 4 rfl) (fun h => h)) ?_
      refine wpL_o rfl ?_
      refine e_call rfl Try.call16 (arr1 (v0 := Value.agg #[I (q.Facts), vf, vg, va]) rfl) (First_R vf vg va q (by first | assumption | (constructor <;> omega)) (hS48.rdS 5 rfl) (hS48.rdS 6 rfl) (hS48.rdS 7 rfl) (by omega)) ?_
      rintro r52 H53 ⟨hxx, hrr52⟩
      have hS54 : St H0 NoB NoB [rdE r52 (firstL q : List Bool), rdE (Value.slice none 0 0) ([] : List Bool), blkE g28 (.cells #[I (((walkFault q plan)).1), I (((walkFault q plan)).2)] 27), rdE r24 (walkNow q plan : List Bool), blkE g14 (.cells #[I (c0), I (a0)] 27), blkE g1 (.cells #[I (q.Facts), vf, vg, va] 25), rdE vf (q.First : List Int), rdE vg (q.Goal : List Int), rdE va (q.Acts : List Act), rdE vl (plan : List Int)] H53 := hS48.res hxx hrr52
      refine wpL_q (U := NoB) rfl (q_assign (v := r52) rfl rfl) ?_
      exact ⟨r52, a49_1, a49_2, a49_5, a49_6, a49_7, a49_8, rfl, (hS54.drop (List.Sublist.cons_cons _ (List.Sublist.cons _ (List.Sublist.cons_cons _ (List.Sublist.cons_cons _ (List.Sublist.cons_cons _ (List.Sublist.cons_cons _ (List.Sublist.cons_cons _ (List.Sublist.cons_cons _ (List.Sublist.cons_cons _ (List.Sublist.cons_cons _ (List.Sublist.slnil))))))))))))⟩
    rintro f56 H56 ⟨r52, a56_1, a56_2, a56_5, a56_6, a56_7, a56_8, a56_9, hS56⟩
    clear a49_1 a49_2 a49_44 a49_5 a49_6 a49_7 a49_8 a49_9
    exact ⟨r52, firstL q, (fun _ => rfl), a56_1, a56_2, a56_5, a56_6, a56_7, a56_8, a56_9, hS56⟩
  rintro f50 H50 ⟨vN, nw, hnw, a50_1, a50_2, a50_5, a50_6, a50_7, a50_8, a50_9, hS50⟩
  clear a49_1 a49_2 a49_44 a49_5 a49_6 a49_7 a49_8 a49_9
  refine wpF_seq ?_
  refine wpF_seq ?_
  refine wpF_cut (fun f H => f 1 = vl ∧ f 2 = PT g1 0 ∧ f 5 = PT g14 0 ∧ f 6 = r24 ∧ f 7 = B (walkOk q plan) ∧ f 8 = PT g28 0 ∧ f 9 = vN ∧ f 10 = I (0) ∧ H50 = H) ?_ ?_
  · refine wpF_region ?_
    refine wpL_q (U := NoB) rfl (q_assign (v := I (0)) rfl rfl) ?_
    exact ⟨a50_1, a50_2, a50_5, a50_6, a50_7, a50_8, a50_9, rfl, rfl⟩
  rintro f58 _ ⟨a58_1, a58_2, a58_5, a58_6, a58_7, a58_8, a58_9, a58_10, rfl⟩
  clear a50_1 a50_2 a50_5 a50_6 a50_7 a50_8 a50_9
  refine wpF_block ?_
  refine wpF_loop (fun mz f H => ∃ (k : Nat), ∃ (c1 : Int), ∃ (a1 : Int), ∃ (vW : Value), ∃ (nn : List Bool), mz = plan.length - k ∧ (k ≤ plan.length) ∧ (WalkA q plan k c1 a1 nn) ∧ f 1 = vl ∧ f 2 = PT g1 0 ∧ f 5 = PT g14 0 ∧ f 6 = r24 ∧ f 7 = B (walkOk q plan) ∧ f 8 = PT g28 0 ∧ f 9 = vW ∧ f 10 = I ((k : Int)) ∧ St H0 NoB NoB [rdE vW (nn : List Bool), blkE g28 (.cells #[I (((walkFault q plan)).1), I (((walkFault q plan)).2)] 27), rdE r24 (walkNow q plan : List Bool), blkE g14 (.cells #[I (c1), I (a1)] 27), blkE g1 (.cells #[I (q.Facts), vf, vg, va] 25), rdE vf (q.First : List Int), rdE vg (q.Goal : List Int), rdE va (q.Acts : List Act), rdE vl (plan : List Int)] H) (plan.length - 0) ?_ ?_
  · exact ⟨0, c0, a0, vN, nw, rfl, Nat.zero_le _, (hw0.start hnw), a58_1, a58_2, a58_5, a58_6, a58_7, a58_8, a58_9, (Eq.trans a58_10 (congrArg I (by omega))), hS50⟩
  intro m59 f59 H59 hI59
  obtain ⟨k, c1, a1, vW, nn, hm59, hk, hw, a59_1, a59_2, a59_5, a59_6, a59_7, a59_8, a59_9, a59_10, hS59⟩ := hI59
  clear a58_1 a58_10 a58_2 a58_5 a58_6 a58_7 a58_8 a58_9
  refine wpF_seq ?_
  refine wpF_seq ?_
  refine wpF_cut (fun f H => f 1 = vl ∧ f 2 = PT g1 0 ∧ f 5 = PT g14 0 ∧ f 6 = r24 ∧ f 7 = B (walkOk q plan) ∧ f 8 = PT g28 0 ∧ f 9 = vW ∧ f 10 = I ((k : Int)) ∧ f 55 = B (decide (((k : Int) < (plan.length : Int)) ∧ (c1 = 0))) ∧ H59 = H) ?_ ?_
  · refine wpF_region ?_
    refine wpL_q (U := NoB) rfl (q_move (v := I ((k : Int))) rfl a59_10) ?_
    refine wpL_q (U := NoB) rfl (q_move (v := vl) rfl a59_1) ?_
    refine wpL_q (U := NoB) rfl (q_lenRd rfl Try.underlying22 rfl (hS59.rdl 8 rfl)) ?_
    refine wpL_q (U := NoB) rfl (q_lss rfl rfl rfl) ?_
    refine wpL_q (U := NoB) rfl (q_move (v := B (decide ((k : Int) < (plan.length : Int)))) rfl rfl) ?_
    by_cases hg60 : (k : Int) < (plan.length : Int)
    · have hb61 := Eq.trans rfl (congrArg B (decide_eq_true hg60))
      refine wpL_gq (U := NoB) rfl rfl rfl hb61 (q_fieldAddr rfl Try.underlying27 rfl Try.sizeOf3 a59_5) ?_
      refine wpL_gq (U := NoB) rfl rfl rfl hb61 (q_loadBlk rfl rfl Try.isAgg3 (hS59.blk 3 rfl) rfl (fun h => h)) ?_
      refine wpL_gq (U := NoB) rfl rfl rfl hb61 (q_eql rfl rfl rfl) ?_
      refine wpL_q (U := NoB) rfl (q_pickT (v := B (decide (c1 = 0))) rfl hb61 rfl) ?_
      exact ⟨a59_1, a59_2, a59_5, a59_6, a59_7, a59_8, a59_9, a59_10, (Eq.trans rfl (congrArg B (decide_congr_of ((Iff.rfl).trans (((and_iff_right hg60).trans Iff.rfl)).symm)))), rfl⟩
    · have hb62 := Eq.trans rfl (congrArg B (decide_eq_false hg60))
      refine wpL_gs rfl rfl rfl hb62 rfl ?_
      refine wpL_gs rfl rfl rfl hb62 rfl ?_
      refine wpL_gs rfl rfl rfl hb62 rfl ?_
      refine wpL_q (U := NoB) rfl (q_pickF (v := B (false)) rfl hb62 rfl) ?_
      exact ⟨a59_1, a59_2, a59_5, a59_6, a59_7, a59_8, a59_9, a59_10, (Eq.trans rfl (congrArg B ((decide_eq_false (fun h => hg60 h.1)).symm))), rfl⟩
  rintro f63 _ ⟨a63_1, a63_2, a63_5, a63_6, a63_7, a63_8, a63_9, a63_10, a63_55, rfl⟩
  clear a59_1 a59_10 a59_2 a59_5 a59_6 a59_7 a59_8 a59_9
  refine wpF_condP a63_55 (fun hlt => ?t112) (fun hlt => ?e112)
  case e112 =>
    have hF := hw.done hk (by simpa using hlt)
    refine wpF_exit ?_
    refine atX_here ?_
    refine wpF_seq ?_
    refine wpF_seq ?_
    refine wpF_cut (fun f H => f 2 = PT g1 0 ∧ f 5 = PT g14 0 ∧ f 6 = r24 ∧ f 7 = B (walkOk q plan) ∧ f 8 = PT g28 0 ∧ f 9 = vW ∧ f 95 = B (decide (c1 ≠ 0)) ∧ H59 = H) ?_ ?_
    · refine wpF_region ?_
      refine wpL_q (U := NoB) rfl (q_fieldAddr rfl Try.underlying27 rfl Try.sizeOf3 a63_5) ?_
      refine wpL_q (U := NoB) rfl (q_loadBlk rfl rfl Try.isAgg3 (hS59.blk 3 rfl) rfl (fun h => h)) ?_
      refine wpL_q (U := NoB) rfl (q_neq rfl rfl rfl) ?_
      exact ⟨a63_2, a63_5, a63_6, a63_7, a63_8, a63_9, rfl, rfl⟩
    rintro f89 _ ⟨a89_2, a89_5, a89_6, a89_7, a89_8, a89_9, a89_95, rfl⟩
    clear a63_1 a63_10 a63_2 a63_5 a63_55 a63_6 a63_7 a63_8 a63_9
    refine wpF_condP a89_95 (fun hbad => ?t111) (fun hbad => ?e111)
    case t111 =>
      refine wpF_seq ?_
      refine wpF_cut (fun f H => f 4 = B (decide ((((((walkFault q plan)).1) = c1 ∧ (((walkFault q plan)).2) = a1) ∧ (((walkNow q plan).length : Int) = 0)) ∧ ((!(walkOk q plan)) = true))) ∧ H59 = H) ?_ ?_
      · refine wpF_region ?_
        refine wpL_q (U := NoB) rfl (q_loadBlkA rfl a89_8 Try.isAgg27 Try.sizeOf27 rfl (hS59.blk 1 rfl) (fun h => h)) ?_
        refine wpL_q (U := NoB) rfl (q_loadBlkA rfl a89_5 Try.isAgg27 Try.sizeOf27 rfl (hS59.blk 3 rfl) (fun h => h)) ?_
        refine wpL_q (U := NoB) rfl (q_eqlF2 rfl Try.eqGuardType27 (fl27 _ _ _ _) rfl rfl) ?_
        refine wpL_q (U := NoB) rfl (q_move (v := B (decide ((((walkFault q plan)).1) = c1 ∧ (((walkFault q plan)).2) = a1))) rfl rfl) ?_
        by_cases hg91 : (((walkFault q plan)).1) = c1 ∧ (((walkFault q plan)).2) = a1
        · have hb92 := Eq.trans rfl (congrArg B (decide_eq_true hg91))
          refine wpL_gq (U := NoB) rfl rfl rfl hb92 (q_move (v := r24) rfl a89_6) ?_
          refine wpL_gq (U := NoB) rfl rfl rfl hb92 (q_lenRd rfl Try.underlying29 rfl (hS59.rdl 2 rfl)) ?_
          refine wpL_gq (U := NoB) rfl rfl rfl hb92 (q_eql rfl rfl rfl) ?_
          refine wpL_q (U := NoB) rfl (q_pickT (v := B (decide (((walkNow q plan).length : Int) = 0))) rfl hb92 rfl) ?_
          refine wpL_q (U := NoB) rfl (q_move (v := B (decide (((walkNow q plan).length : Int) = 0))) rfl rfl) ?_
          by_cases hg94 : ((walkNow q plan).length : Int) = 0
          · have hb95 := Eq.trans rfl (congrArg B (decide_eq_true hg94))
            refine wpL_gq (U := NoB) rfl rfl rfl hb95 (q_move (v := B (walkOk q plan)) rfl a89_7) ?_
            refine wpL_gq (U := NoB) rfl rfl rfl hb95 (q_not rfl rfl) ?_
            refine wpL_q (U := NoB) rfl (q_pickT (v := B (!(walkOk q plan))) rfl hb95 rfl) ?_
            refine wpL_q (U := NoB) rfl (q_assign (v := B (!(walkOk q plan))) rfl rfl) ?_
            exact ⟨(Eq.trans rfl (congrArg B (bool_congr_of ((Iff.rfl).trans (((and_iff_right ⟨hg91, hg94⟩).trans Iff.rfl)).symm)))), rfl⟩
          · have hb96 := Eq.trans rfl (congrArg B (decide_eq_false hg94))
            refine wpL_gs rfl rfl rfl hb96 rfl ?_
            refine wpL_gs rfl rfl rfl hb96 rfl ?_
            refine wpL_q (U := NoB) rfl (q_pickF (v := B (false)) rfl hb96 rfl) ?_
            refine wpL_q (U := NoB) rfl (q_assign (v := B (false)) rfl rfl) ?_
            exact ⟨(Eq.trans rfl (congrArg B ((decide_eq_false (fun h => (fun h => hg94 h.2) h.1)).symm))), rfl⟩
        · have hb93 := Eq.trans rfl (congrArg B (decide_eq_false hg91))
          refine wpL_gs rfl rfl rfl hb93 rfl ?_
          refine wpL_gs rfl rfl rfl hb93 rfl ?_
          refine wpL_gs rfl rfl rfl hb93 rfl ?_
          refine wpL_q (U := NoB) rfl (q_pickF (v := B (false)) rfl hb93 rfl) ?_
          refine wpL_q (U := NoB) rfl (q_move (v := B (false)) rfl rfl) ?_
          refine wpL_gs rfl rfl rfl rfl rfl ?_
          refine wpL_gs rfl rfl rfl rfl rfl ?_
          refine wpL_q (U := NoB) rfl (q_pickF (v := B (false)) rfl rfl rfl) ?_
          refine wpL_q (U := NoB) rfl (q_assign (v := B (false)) rfl rfl) ?_
          exact ⟨(Eq.trans rfl (congrArg B ((decide_eq_false (fun h => (fun h => hg91 h.1) h.1)).symm))), rfl⟩
      rintro f97 _ ⟨a97_4, rfl⟩
      clear a89_2 a89_5 a89_6 a89_7 a89_8 a89_9 a89_95
      refine wpF_ret ?_
      refine ⟨_, resT a97_4 resN, hS59.frame, ?_⟩
      show (B (decide ((((((walkFault q plan)).1) = c1 ∧ (((walkFault q plan)).2) = a1) ∧ (((walkNow q plan).length : Int) = 0)) ∧ ((!(walkOk q plan)) = true)))) = B true
      obtain ⟨hb1, hb2⟩ := walk_bad (q := q) (plan := plan) (by rw [hF.1]; exact hbad)
      exact congrArg B (decide_eq_true (by rw [hF.1, hb1, hb2]; simp))
    obtain ⟨hn1, hn2, hQ, hn3⟩ := hF.2 (Decidable.of_not_not hbad)
    refine wpF_skip ?_
    refine wpF_seq ?_
    refine wpF_cut (fun f H => f 4 = B (decide ((((((walkFault q plan)).1) = 0) ∧ ((walkNow q plan) = nn)) ∧ ((walkOk q plan) = (goalA q nn)))) ∧ St H0 NoB NoB [blkE g28 (.cells #[I (((walkFault q plan)).1), I (((walkFault q plan)).2)] 27), blkE g14 (.cells #[I (c1), I (a1)] 27), blkE g1 (.cells #[I (q.Facts), vf, vg, va] 25), rdE vf (q.First : List Int), rdE vg (q.Goal : List Int), rdE va (q.Acts : List Act), rdE vl (plan : List Int)] H) ?_ ?_
    · refine wpF_region ?_
      refine wpL_q (U := NoB) rfl (q_fieldAddr rfl Try.underlying27 rfl Try.sizeOf3 a89_8) ?_
      refine wpL_q (U := NoB) rfl (q_loadBlk rfl rfl Try.isAgg3 (hS59.blk 1 rfl) rfl (fun h => h)) ?_
      refine wpL_q (U := NoB) rfl (q_eql rfl rfl rfl) ?_
      refine wpL_q (U := NoB) rfl (q_move (v := B (decide ((((walkFault q plan)).1) = 0))) rfl rfl) ?_
      by_cases hg98 : (((walkFault q plan)).1) = 0
      · have hb99 := Eq.trans rfl (congrArg B (decide_eq_true hg98))
        refine wpL_gq (U := NoB) rfl rfl rfl hb99 (q_move (v := r24) rfl a89_6) ?_
        refine wpL_gq (U := NoB) rfl rfl rfl hb99 (q_move (v := vW) rfl a89_9) ?_
        refine wpL_go rfl rfl rfl hb99 ?_
        refine e_call rfl Try.call20 (arr2 (v0 := r24) (v1 := vW) rfl rfl) (bools_L r24 vW _ _ (hS59.rdN 2 rfl) (hS59.rdN 0 rfl)) ?_
        rintro _ H101 ⟨hxx, rfl⟩
        have hS102 : St H0 NoB NoB [rdE vW (nn : List Bool), blkE g28 (.cells #[I (((walkFault q plan)).1), I (((walkFault q plan)).2)] 27), rdE r24 (walkNow q plan : List Bool), blkE g14 (.cells #[I (c1), I (a1)] 27), blkE g1 (.cells #[I (q.Facts), vf, vg, va] 25), rdE vf (q.First : List Int), rdE vg (q.Goal : List Int), rdE va (q.Acts : List Act), rdE vl (plan : List Int)] H101 := hS59.ext hxx
        refine wpL_q (U := NoB) rfl (q_pickT (v := B (decide ((walkNow q plan) = nn))) rfl hb99 rfl) ?_
        refine wpL_q (U := NoB) rfl (q_move (v := B (decide ((walkNow q plan) = nn))) rfl rfl) ?_
        by_cases hg104 : (walkNow q plan) = nn
        · have hb105 := Eq.trans rfl (congrArg B (decide_eq_true hg104))
          refine wpL_gq (U := NoB) rfl rfl rfl hb105 (q_move (v := B (walkOk q plan)) rfl a89_7) ?_
          refine wpL_gq (U := NoB) rfl rfl rfl hb105 (q_loadBlkA rfl a89_2 Try.isAgg25 Try.sizeOf25 rfl (hS102.blk 4 rfl) (fun h => h)) ?_
          refine wpL_gq (U := NoB) rfl rfl rfl hb105 (q_move (v := vW) rfl a89_9) ?_
          refine wpL_go rfl rfl rfl hb105 ?_
          refine e_call rfl Try.call21 (arr2 (v0 := Value.agg #[I (q.Facts), vf, vg, va]) (v1 := vW) rfl rfl) (Goal_R vf vg va vW q nn (by first | assumption | (constructor <;> omega)) (hS102.rdN 5 rfl) (hS102.rdN 6 rfl) (hS102.rdN 7 rfl) (hS102.rdN 0 rfl) hQ.goal hn3) ?_
          rintro _ H107 ⟨hxx, rfl⟩
          have hS108 : St H0 NoB NoB [rdE vW (nn : List Bool), blkE g28 (.cells #[I (((walkFault q plan)).1), I (((walkFault q plan)).2)] 27), rdE r24 (walkNow q plan : List Bool), blkE g14 (.cells #[I (c1), I (a1)] 27), blkE g1 (.cells #[I (q.Facts), vf, vg, va] 25), rdE vf (q.First : List Int), rdE vg (q.Goal : List Int), rdE va (q.Acts : List Act), rdE vl (plan : List Int)] H107 := hS102.ext hxx
          refine wpL_gq (U := NoB) rfl rfl rfl hb105 (q_eqlB rfl Try.underlying4 rfl rfl) ?_
          refine wpL_q (U := NoB) rfl (q_pickT (v := B (decide ((walkOk q plan) = (goalA q nn)))) rfl hb105 rfl) ?_
          refine wpL_q (U := NoB) rfl (q_assign (v := B (decide ((walkOk q plan) = (goalA q nn)))) rfl rfl) ?_
          exact ⟨(Eq.trans rfl (congrArg B (decide_congr_of ((Iff.rfl).trans (((and_iff_right ⟨hg98, hg104⟩).trans Iff.rfl)).symm)))), (hS108.drop (List.Sublist.cons _ (List.Sublist.cons_cons _ (List.Sublist.cons _ (List.Sublist.cons_cons _ (List.Sublist.cons_cons _ (List.Sublist.cons_cons _ (List.Sublist.cons_cons _ (List.Sublist.cons_cons _ (List.Sublist.cons_cons _ (List.Sublist.slnil)))))))))))⟩
        · have hb106 := Eq.trans rfl (congrArg B (decide_eq_false hg104))
          refine wpL_gs rfl rfl rfl hb106 rfl ?_
          refine wpL_gs rfl rfl rfl hb106 rfl ?_
          refine wpL_gs rfl rfl rfl hb106 rfl ?_
          refine wpL_gs rfl rfl rfl hb106 rfl ?_
          refine wpL_gs rfl rfl rfl hb106 rfl ?_
          refine wpL_q (U := NoB) rfl (q_pickF (v := B (false)) rfl hb106 rfl) ?_
          refine wpL_q (U := NoB) rfl (q_assign (v := B (false)) rfl rfl) ?_
          exact ⟨(Eq.trans rfl (congrArg B ((decide_eq_false (fun h => (fun h => hg104 h.2) h.1)).symm))), (hS102.drop (List.Sublist.cons _ (List.Sublist.cons_cons _ (List.Sublist.cons _ (List.Sublist.cons_cons _ (List.Sublist.cons_cons _ (List.Sublist.cons_cons _ (List.Sublist.cons_cons _ (List.Sublist.cons_cons _ (List.Sublist.cons_cons _ (List.Sublist.slnil)))))))))))⟩
      · have hb100 := Eq.trans rfl (congrArg B (decide_eq_false hg98))
        refine wpL_gs rfl rfl rfl hb100 rfl ?_
        refine wpL_gs rfl rfl rfl hb100 rfl ?_
        refine wpL_gs rfl rfl rfl hb100 rfl ?_
        refine wpL_q (U := NoB) rfl (q_pickF (v := B (false)) rfl hb100 rfl) ?_
        refine wpL_q (U := NoB) rfl (q_move (v := B (false)) rfl rfl) ?_
        refine wpL_gs rfl rfl rfl rfl rfl ?_
        refine wpL_gs rfl rfl rfl rfl rfl ?_
        refine wpL_gs rfl rfl rfl rfl rfl ?_
        refine wpL_gs rfl rfl rfl rfl rfl ?_
        refine wpL_gs rfl rfl rfl rfl rfl ?_
        refine wpL_q (U := NoB) rfl (q_pickF (v := B (false)) rfl rfl rfl) ?_
        refine wpL_q (U := NoB) rfl (q_assign (v := B (false)) rfl rfl) ?_
        exact ⟨(Eq.trans rfl (congrArg B ((decide_eq_false (fun h => (fun h => hg98 h.1) h.1)).symm))), (hS59.drop (List.Sublist.cons _ (List.Sublist.cons_cons _ (List.Sublist.cons _ (List.Sublist.cons_cons _ (List.Sublist.cons_cons _ (List.Sublist.cons_cons _ (List.Sublist.cons_cons _ (List.Sublist.cons_cons _ (List.Sublist.cons_cons _ (List.Sublist.slnil)))))))))))⟩
    rintro f110 H110 ⟨a110_4, hS110⟩
    clear a89_2 a89_5 a89_6 a89_7 a89_8 a89_9 a89_95
    refine wpF_ret ?_
    refine ⟨_, resT a110_4 resN, hS110.frame, ?_⟩
    show (B (decide ((((((walkFault q plan)).1) = 0) ∧ ((walkNow q plan) = nn)) ∧ ((walkOk q plan) = (goalA q nn))))) = B true
    exact congrArg B (decide_eq_true ⟨⟨by rw [hF.1]; exact Decidable.of_not_not hbad, hn1⟩, hn2⟩)
  have hc0 := hlt.2
  refine wpF_skip ?_
  refine wpF_seq ?_
  refine wpF_block ?_
  refine wpF_seq ?_
  refine wpF_cut (fun f H => f 1 = vl ∧ f 2 = PT g1 0 ∧ f 5 = PT g14 0 ∧ f 6 = r24 ∧ f 7 = B (walkOk q plan) ∧ f 8 = PT g28 0 ∧ f 9 = vW ∧ f 10 = I ((k : Int)) ∧ f 67 = B (decide (¬ (0 ≤ (nth plan k) ∧ (nth plan k) ≤ ((q.Acts.length : Int) - 1)))) ∧ St H0 NoB NoB [rdE vW (nn : List Bool), blkE g28 (.cells #[I (((walkFault q plan)).1), I (((walkFault q plan)).2)] 27), rdE r24 (walkNow q plan : List Bool), blkE g14 (.cells #[I (c1), I (a1)] 27), blkE g1 (.cells #[I (q.Facts), vf, vg, va] 25), rdE vf (q.First : List Int), rdE vg (q.Goal : List Int), rdE va (q.Acts : List Act), rdE vl (plan : List Int)] H) ?_ ?_
  · refine wpF_drawn [] [] (fun _ _ => False) (by kernel_rfl) (by kernel_rfl) ?_
    refine wpR_q 0 (by kernel_rfl) rfl (quietAt rfl rfl (q_move (v := vl) rfl a63_1)) ?_
    refine wpR_q 1 (by kernel_rfl) rfl (quietAt rfl rfl (q_move (v := I ((k : Int))) rfl a63_10)) ?_
    refine wpR_q 2 (by kernel_rfl) rfl (quietAt rfl rfl (q_indexRd (k := k) rfl Try.underlying22 el_Int_3 rfl rfl (hS59.rdl 8 rfl) (by omega) (by omega))) ?_
    refine wpR_q 3 (by kernel_rfl) rfl (quietAt rfl rfl (q_loadInt (k := k) rfl rfl el_Int_3 (hS59.rdl 8 rfl) (by omega) (labU_sub [] rfl (List.forall_mem_nil _)))) ?_
    refine wpR_q 4 (by kernel_rfl) rfl (quietAt rfl rfl (q_fieldAddr rfl Try.underlying25 rfl Try.sizeOf23 a63_2)) ?_
    refine wpR_q 5 (by kernel_rfl) rfl (quietAt rfl rfl (q_loadBlk rfl rfl Try.isAgg23 (hS59.blk 4 rfl) rfl (labU_not [] rfl (List.forall_mem_nil _)))) ?_
    refine wpR_q 6 (by kernel_rfl) rfl (quietAt rfl rfl (q_lenRd rfl Try.underlying23 rfl (hS59.rdl 7 rfl))) ?_
    refine wpR_q 7 (by kernel_rfl) rfl (quietAt rfl rfl (q_sub rfl rfl rfl (by constructor <;> omega))) ?_
    refine wpR_n [8] (by kernel_rfl) ?_
    refine List.forall_mem_cons.2 ⟨?_, List.forall_mem_nil _⟩
    refine exE rfl rfl ?_
    refine e_call rfl Try.call17 (arr3 (v0 := I (nth plan k)) (v1 := I (0)) (v2 := I ((q.Acts.length : Int) - 1)) rfl rfl rfl) (in_L (nth plan k) 0 ((q.Acts.length : Int) - 1)) ?_
    rintro _ H65o8 ⟨hxx, rfl⟩
    have hS65o8 : St H0 NoB NoB [rdE vW (nn : List Bool), blkE g28 (.cells #[I (((walkFault q plan)).1), I (((walkFault q plan)).2)] 27), rdE r24 (walkNow q plan : List Bool), blkE g14 (.cells #[I (c1), I (a1)] 27), blkE g1 (.cells #[I (q.Facts), vf, vg, va] 25), rdE vf (q.First : List Int), rdE vg (q.Goal : List Int), rdE va (q.Acts : List Act), rdE vl (plan : List Int)] H65o8 := hS59.ext hxx
    refine ⟨Ext.mono hxx (fun _ h => h.elim), ?_⟩
    refine wpR_q 9 (by kernel_rfl) rfl (quietAt rfl rfl (q_notP rfl rfl)) ?_
    refine wpR_end (by kernel_rfl) ?_
    exact ⟨a63_1, a63_2, a63_5, a63_6, a63_7, a63_8, a63_9, a63_10, rfl, hS65o8⟩
  rintro f66 H66 ⟨a66_1, a66_2, a66_5, a66_6, a66_7, a66_8, a66_9, a66_10, a66_67, hS66⟩
  clear a63_1 a63_10 a63_2 a63_5 a63_55 a63_6 a63_7 a63_8 a63_9
  refine wpF_cut (fun f H => ∃ (c3 : Int), ∃ (a3 : Int), ∃ (vM : Value), ∃ (nm : List Bool), (WalkA q plan (k + 1) c3 a3 nm) ∧ f 1 = vl ∧ f 2 = PT g1 0 ∧ f 5 = PT g14 0 ∧ f 6 = r24 ∧ f 7 = B (walkOk q plan) ∧ f 8 = PT g28 0 ∧ f 9 = vM ∧ f 10 = I ((k : Int)) ∧ St H0 NoB NoB [rdE vM (nm : List Bool), blkE g28 (.cells #[I (((walkFault q plan)).1), I (((walkFault q plan)).2)] 27), rdE r24 (walkNow q plan : List Bool), blkE g14 (.cells #[I (c3), I (a3)] 27), blkE g1 (.cells #[I (q.Facts), vf, vg, va] 25), rdE vf (q.First : List Int), rdE vg (q.Goal : List Int), rdE va (q.Acts : List Act), rdE vl (plan : List Int)] H) ?_ ?_
  · refine wpF_condP a66_67 (fun h67 => ?t87) (fun h67 => ?e87)
    case t87 =>
      refine wpF_cut (fun f H => f 1 = vl ∧ f 2 = PT g1 0 ∧ f 5 = PT g14 0 ∧ f 6 = r24 ∧ f 7 = B (walkOk q plan) ∧ f 8 = PT g28 0 ∧ f 9 = vW ∧ f 10 = I ((k : Int)) ∧ St H0 NoB NoB [blkE g14 (.cells #[I (3), I ((k : Int))] 27), rdE vW (nn : List Bool), blkE g28 (.cells #[I (((walkFault q plan)).1), I (((walkFault q plan)).2)] 27), rdE r24 (walkNow q plan : List Bool), blkE g1 (.cells #[I (q.Facts), vf, vg, va] 25), rdE vf (q.First : List Int), rdE vg (q.Goal : List Int), rdE va (q.Acts : List Act), rdE vl (plan : List Int)] H) ?_ ?_
      · refine wpF_region ?_
        refine wpL_q (U := NoB) rfl (q_move (v := I ((k : Int))) rfl a66_10) ?_
        refine wpL_o rfl ?_
        refine e_call rfl Try.call15 (arr2 (v0 := I (3)) (v1 := I ((k : Int))) rfl rfl) (fault_L 3 (k : Int)) ?_
        rintro _ H69 ⟨hxx, rfl⟩
        have hS70 : St H0 NoB NoB [rdE vW (nn : List Bool), blkE g28 (.cells #[I (((walkFault q plan)).1), I (((walkFault q plan)).2)] 27), rdE r24 (walkNow q plan : List Bool), blkE g14 (.cells #[I (c1), I (a1)] 27), blkE g1 (.cells #[I (q.Facts), vf, vg, va] 25), rdE vf (q.First : List Int), rdE vg (q.Goal : List Int), rdE va (q.Acts : List Act), rdE vl (plan : List Int)] H69 := hS66.ext hxx
        refine wpL_o rfl ?_
        refine e_storeBlkA (cs' := #[I (3), I ((k : Int))]) rfl a66_5 rfl Try.sizeOf27 rfl rfl (List.forall_mem_cons.2 ⟨rfl, List.forall_mem_cons.2 ⟨rfl, List.forall_mem_nil _⟩⟩) (hS70.front 3 rfl) (fun H72 hS73 hxx => ?_)
        replace hS73 : St H0 NoB NoB [blkE g14 (.cells #[I (3), I ((k : Int))] 27), rdE vW (nn : List Bool), blkE g28 (.cells #[I (((walkFault q plan)).1), I (((walkFault q plan)).2)] 27), rdE r24 (walkNow q plan : List Bool), blkE g1 (.cells #[I (q.Facts), vf, vg, va] 25), rdE vf (q.First : List Int), rdE vg (q.Goal : List Int), rdE va (q.Acts : List Act), rdE vl (plan : List Int)] H72 := hS73
        exact ⟨a66_1, a66_2, a66_5, a66_6, a66_7, a66_8, a66_9, a66_10, hS73⟩
      rintro f74 H74 ⟨a74_1, a74_2, a74_5, a74_6, a74_7, a74_8, a74_9, a74_10, hS74⟩
      clear a66_1 a66_10 a66_2 a66_5 a66_6 a66_67 a66_7 a66_8 a66_9
      exact ⟨3, (k : Int), vW, nn, (hw.bad hc0 (walkR_range (by omega) (by omega)) (by decide : (3 : Int) ≠ 0)), a74_1, a74_2, a74_5, a74_6, a74_7, a74_8, a74_9, a74_10, (St.drop (show St H0 NoB NoB [rdE vW (nn : List Bool), blkE g28 (.cells #[I (((walkFault q plan)).1), I (((walkFault q plan)).2)] 27), rdE r24 (walkNow q plan : List Bool), blkE g14 (.cells #[I (3), I ((k : Int))] 27), blkE g1 (.cells #[I (q.Facts), vf, vg, va] 25), rdE vf (q.First : List Int), rdE vg (q.Goal : List Int), rdE va (q.Acts : List Act), rdE vl (plan : List Int)] H74 from (((((((((hS74.front 8 rfl).front 8 rfl).front 8 rfl).front 8 rfl).front 8 rfl).front 5 rfl).front 8 rfl).front 8 rfl).front 8 rfl)) (List.Sublist.cons_cons _ (List.Sublist.cons_cons _ (List.Sublist.cons_cons _ (List.Sublist.cons_cons _ (List.Sublist.cons_cons _ (List.Sublist.cons_cons _ (List.Sublist.cons_cons _ (List.Sublist.cons_cons _ (List.Sublist.cons_cons _ (List.Sublist.slnil)))))))))))⟩
    refine wpF_seq ?_
    refine wpF_cut (fun f H => f 1 = vl ∧ f 2 = PT g1 0 ∧ f 5 = PT g14 0 ∧ f 6 = r24 ∧ f 7 = B (walkOk q plan) ∧ f 8 = PT g28 0 ∧ f 9 = vW ∧ f 10 = I ((k : Int)) ∧ f 80 = B (!(canA (nth q.Acts ((nth plan k).toNat)) nn)) ∧ St H0 NoB NoB [rdE vW (nn : List Bool), blkE g28 (.cells #[I (((walkFault q plan)).1), I (((walkFault q plan)).2)] 27), rdE r24 (walkNow q plan : List Bool), blkE g14 (.cells #[I (c1), I (a1)] 27), blkE g1 (.cells #[I (q.Facts), vf, vg, va] 25), rdE vf (q.First : List Int), rdE vg (q.Goal : List Int), rdE va (q.Acts : List Act), rdE vl (plan : List Int)] H) ?_ ?_
    · refine wpF_drawn [] [] (fun _ _ => False) (by kernel_rfl) (by kernel_rfl) ?_
      refine wpR_q 0 (by kernel_rfl) rfl (quietAt rfl rfl (q_fieldAddr rfl Try.underlying25 rfl Try.sizeOf23 a66_2)) ?_
      refine wpR_q 1 (by kernel_rfl) rfl (quietAt rfl rfl (q_loadBlk rfl rfl Try.isAgg23 (hS66.blk 4 rfl) rfl (labU_not [] rfl (List.forall_mem_nil _)))) ?_
      refine wpR_q 2 (by kernel_rfl) rfl (quietAt rfl rfl (q_move (v := vl) rfl a66_1)) ?_
      refine wpR_q 3 (by kernel_rfl) rfl (quietAt rfl rfl (q_move (v := I ((k : Int))) rfl a66_10)) ?_
      refine wpR_q 4 (by kernel_rfl) rfl (quietAt rfl rfl (q_indexRd (k := k) rfl Try.underlying22 el_Int_3 rfl rfl (hS66.rdl 8 rfl) (by omega) (by omega))) ?_
      refine wpR_q 5 (by kernel_rfl) rfl (quietAt rfl rfl (q_loadInt (k := k) rfl rfl el_Int_3 (hS66.rdl 8 rfl) (by omega) (labU_sub [] rfl (List.forall_mem_nil _)))) ?_
      refine wpR_q 6 (by kernel_rfl) rfl (quietAt rfl rfl (q_indexRd (k := (nth plan k).toNat) rfl Try.underlying23 el_Act_37 rfl rfl (hS66.rdl 7 rfl) (by omega) (by omega))) ?_
      obtain ⟨u75o7, huu75o7, hlu75o7⟩ := (Rd.list.1 (hS66.rdS 7 rfl)).elem ((nth plan k).toNat) (by omega)
      obtain ⟨u75o7n0, u75o7n1, u75o7n2, u75o7n3, rfl, hu75o70, hu75o71, hu75o72, hu75o73⟩ := Rd.act.1 huu75o7
      have hS75o7 : St H0 NoB NoB [rdE u75o7n0 ((nth q.Acts ((nth plan k).toNat)).Need : List Int), rdE vW (nn : List Bool), blkE g28 (.cells #[I (((walkFault q plan)).1), I (((walkFault q plan)).2)] 27), rdE r24 (walkNow q plan : List Bool), blkE g14 (.cells #[I (c1), I (a1)] 27), blkE g1 (.cells #[I (q.Facts), vf, vg, va] 25), rdE vf (q.First : List Int), rdE vg (q.Goal : List Int), rdE va (q.Acts : List Act), rdE vl (plan : List Int)] H66 := hS66.rd hu75o70
      have hS75o7x2 : St H0 NoB NoB [rdE u75o7n1 ((nth q.Acts ((nth plan k).toNat)).Bar : List Int), rdE u75o7n0 ((nth q.Acts ((nth plan k).toNat)).Need : List Int), rdE vW (nn : List Bool), blkE g28 (.cells #[I (((walkFault q plan)).1), I (((walkFault q plan)).2)] 27), rdE r24 (walkNow q plan : List Bool), blkE g14 (.cells #[I (c1), I (a1)] 27), blkE g1 (.cells #[I (q.Facts), vf, vg, va] 25), rdE vf (q.First : List Int), rdE vg (q.Goal : List Int), rdE va (q.Acts : List Act), rdE vl (plan : List Int)] H66 := hS75o7.rd (hu75o71.sub fun _ hb => SL_rd hb)
      have hS75o7x3 : St H0 NoB NoB [rdE u75o7n2 ((nth q.Acts ((nth plan k).toNat)).Add : List Int), rdE u75o7n1 ((nth q.Acts ((nth plan k).toNat)).Bar : List Int), rdE u75o7n0 ((nth q.Acts ((nth plan k).toNat)).Need : List Int), rdE vW (nn : List Bool), blkE g28 (.cells #[I (((walkFault q plan)).1), I (((walkFault q plan)).2)] 27), rdE r24 (walkNow q plan : List Bool), blkE g14 (.cells #[I (c1), I (a1)] 27), blkE g1 (.cells #[I (q.Facts), vf, vg, va] 25), rdE vf (q.First : List Int), rdE vg (q.Goal : List Int), rdE va (q.Acts : List Act), rdE vl (plan : List Int)] H66 := hS75o7x2.rd (hu75o72.sub fun _ hb => SL_rd (SL_rd (hb)))
      have hS75o7x4 : St H0 NoB NoB [rdE u75o7n3 ((nth q.Acts ((nth plan k).toNat)).Drop : List Int), rdE u75o7n2 ((nth q.Acts ((nth plan k).toNat)).Add : List Int), rdE u75o7n1 ((nth q.Acts ((nth plan k).toNat)).Bar : List Int), rdE u75o7n0 ((nth q.Acts ((nth plan k).toNat)).Need : List Int), rdE vW (nn : List Bool), blkE g28 (.cells #[I (((walkFault q plan)).1), I (((walkFault q plan)).2)] 27), rdE r24 (walkNow q plan : List Bool), blkE g14 (.cells #[I (c1), I (a1)] 27), blkE g1 (.cells #[I (q.Facts), vf, vg, va] 25), rdE vf (q.First : List Int), rdE vg (q.Goal : List Int), rdE va (q.Acts : List Act), rdE vl (plan : List Int)] H66 := hS75o7x3.rd (hu75o73.sub fun _ hb => SL_rd (SL_rd (SL_rd (hb))))
      refine wpR_q 7 (by kernel_rfl) rfl (quietAt rfl rfl (q_loadE rfl rfl (hlu75o7 Try.prog 37 _ el_Act_37 (labU_sub [] rfl (List.forall_mem_nil _))))) ?_
      refine wpR_q 8 (by kernel_rfl) rfl (quietAt rfl rfl (q_move (v := vW) rfl a66_9)) ?_
      refine wpR_n [9] (by kernel_rfl) ?_
      refine List.forall_mem_cons.2 ⟨?_, List.forall_mem_nil _⟩
      refine exE rfl rfl ?_
      refine e_call rfl Try.call18 (arr2 (v0 := Value.agg #[u75o7n0, u75o7n1, u75o7n2, u75o7n3]) (v1 := vW) rfl rfl) (Can_R u75o7n0 u75o7n1 u75o7n2 u75o7n3 vW (nth q.Acts ((nth plan k).toNat)) nn (hS75o7x4.rdN 3 rfl) (hS75o7x4.rdN 2 rfl) (hS75o7x4.rdN 1 rfl) (hS75o7x4.rdN 0 rfl) (hS75o7x4.rdN 4 rfl) ) ?_
      rintro _ H75o9 ⟨hxx, rfl⟩
      have hS75o9 : St H0 NoB NoB [rdE u75o7n3 ((nth q.Acts ((nth plan k).toNat)).Drop : List Int), rdE u75o7n2 ((nth q.Acts ((nth plan k).toNat)).Add : List Int), rdE u75o7n1 ((nth q.Acts ((nth plan k).toNat)).Bar : List Int), rdE u75o7n0 ((nth q.Acts ((nth plan k).toNat)).Need : List Int), rdE vW (nn : List Bool), blkE g28 (.cells #[I (((walkFault q plan)).1), I (((walkFault q plan)).2)] 27), rdE r24 (walkNow q plan : List Bool), blkE g14 (.cells #[I (c1), I (a1)] 27), blkE g1 (.cells #[I (q.Facts), vf, vg, va] 25), rdE vf (q.First : List Int), rdE vg (q.Goal : List Int), rdE va (q.Acts : List Act), rdE vl (plan : List Int)] H75o9 := hS75o7x4.ext hxx
      refine ⟨Ext.mono hxx (fun _ h => h.elim), ?_⟩
      refine wpR_q 10 (by kernel_rfl) rfl (quietAt rfl rfl (q_not rfl rfl)) ?_
      refine wpR_end (by kernel_rfl) ?_
      exact ⟨a66_1, a66_2, a66_5, a66_6, a66_7, a66_8, a66_9, a66_10, rfl, (hS75o9.drop (List.Sublist.cons _ (List.Sublist.cons _ (List.Sublist.cons _ (List.Sublist.cons _ (List.Sublist.cons_cons _ (List.Sublist.cons_cons _ (List.Sublist.cons_cons _ (List.Sublist.cons_cons _ (List.Sublist.cons_cons _ (List.Sublist.cons_cons _ (List.Sublist.cons_cons _ (List.Sublist.cons_cons _ (List.Sublist.cons_cons _ (List.Sublist.slnil)))))))))))))))⟩
    rintro f76 H76 ⟨a76_1, a76_2, a76_5, a76_6, a76_7, a76_8, a76_9, a76_10, a76_80, hS76⟩
    clear a66_1 a66_10 a66_2 a66_5 a66_6 a66_67 a66_7 a66_8 a66_9
    refine wpF_cond a76_80 (fun h80 => ?t86) (fun h80 => ?e86)
    case t86 =>
      refine wpF_cut (fun f H => f 1 = vl ∧ f 2 = PT g1 0 ∧ f 5 = PT g14 0 ∧ f 6 = r24 ∧ f 7 = B (walkOk q plan) ∧ f 8 = PT g28 0 ∧ f 9 = vW ∧ f 10 = I ((k : Int)) ∧ St H0 NoB NoB [blkE g14 (.cells #[I (11), I ((k : Int))] 27), rdE vW (nn : List Bool), blkE g28 (.cells #[I (((walkFault q plan)).1), I (((walkFault q plan)).2)] 27), rdE r24 (walkNow q plan : List Bool), blkE g1 (.cells #[I (q.Facts), vf, vg, va] 25), rdE vf (q.First : List Int), rdE vg (q.Goal : List Int), rdE va (q.Acts : List Act), rdE vl (plan : List Int)] H) ?_ ?_
      · refine wpF_region ?_
        refine wpL_q (U := NoB) rfl (q_move (v := I ((k : Int))) rfl a76_10) ?_
        refine wpL_o rfl ?_
        refine e_call rfl Try.call15 (arr2 (v0 := I (11)) (v1 := I ((k : Int))) rfl rfl) (fault_L 11 (k : Int)) ?_
        rintro _ H78 ⟨hxx, rfl⟩
        have hS79 : St H0 NoB NoB [rdE vW (nn : List Bool), blkE g28 (.cells #[I (((walkFault q plan)).1), I (((walkFault q plan)).2)] 27), rdE r24 (walkNow q plan : List Bool), blkE g14 (.cells #[I (c1), I (a1)] 27), blkE g1 (.cells #[I (q.Facts), vf, vg, va] 25), rdE vf (q.First : List Int), rdE vg (q.Goal : List Int), rdE va (q.Acts : List Act), rdE vl (plan : List Int)] H78 := hS76.ext hxx
        refine wpL_o rfl ?_
        refine e_storeBlkA (cs' := #[I (11), I ((k : Int))]) rfl a76_5 rfl Try.sizeOf27 rfl rfl (List.forall_mem_cons.2 ⟨rfl, List.forall_mem_cons.2 ⟨rfl, List.forall_mem_nil _⟩⟩) (hS79.front 3 rfl) (fun H81 hS82 hxx => ?_)
        replace hS82 : St H0 NoB NoB [blkE g14 (.cells #[I (11), I ((k : Int))] 27), rdE vW (nn : List Bool), blkE g28 (.cells #[I (((walkFault q plan)).1), I (((walkFault q plan)).2)] 27), rdE r24 (walkNow q plan : List Bool), blkE g1 (.cells #[I (q.Facts), vf, vg, va] 25), rdE vf (q.First : List Int), rdE vg (q.Goal : List Int), rdE va (q.Acts : List Act), rdE vl (plan : List Int)] H81 := hS82
        exact ⟨a76_1, a76_2, a76_5, a76_6, a76_7, a76_8, a76_9, a76_10, hS82⟩
      rintro f83 H83 ⟨a83_1, a83_2, a83_5, a83_6, a83_7, a83_8, a83_9, a83_10, hS83⟩
      clear a76_1 a76_10 a76_2 a76_5 a76_6 a76_7 a76_8 a76_80 a76_9
      exact ⟨11, (k : Int), vW, nn, (hw.bad hc0 (walkR_state (by omega) (by omega) (fun h => by rw [h] at h80; cases h80)) (by decide : (11 : Int) ≠ 0)), a83_1, a83_2, a83_5, a83_6, a83_7, a83_8, a83_9, a83_10, (St.drop (show St H0 NoB NoB [rdE vW (nn : List Bool), blkE g28 (.cells #[I (((walkFault q plan)).1), I (((walkFault q plan)).2)] 27), rdE r24 (walkNow q plan : List Bool), blkE g14 (.cells #[I (11), I ((k : Int))] 27), blkE g1 (.cells #[I (q.Facts), vf, vg, va] 25), rdE vf (q.First : List Int), rdE vg (q.Goal : List Int), rdE va (q.Acts : List Act), rdE vl (plan : List Int)] H83 from (((((((((hS83.front 8 rfl).front 8 rfl).front 8 rfl).front 8 rfl).front 8 rfl).front 5 rfl).front 8 rfl).front 8 rfl).front 8 rfl)) (List.Sublist.cons_cons _ (List.Sublist.cons_cons _ (List.Sublist.cons_cons _ (List.Sublist.cons_cons _ (List.Sublist.cons_cons _ (List.Sublist.cons_cons _ (List.Sublist.cons_cons _ (List.Sublist.cons_cons _ (List.Sublist.cons_cons _ (List.Sublist.slnil)))))))))))⟩
    refine wpF_cut (fun f H => ∃ (r84o9 : Value), f 1 = vl ∧ f 2 = PT g1 0 ∧ f 5 = PT g14 0 ∧ f 6 = r24 ∧ f 7 = B (walkOk q plan) ∧ f 8 = PT g28 0 ∧ f 9 = r84o9 ∧ f 10 = I ((k : Int)) ∧ St H0 NoB NoB [rdE r84o9 (afterA (nth q.Acts ((nth plan k).toNat)) nn : List Bool), blkE g28 (.cells #[I (((walkFault q plan)).1), I (((walkFault q plan)).2)] 27), rdE r24 (walkNow q plan : List Bool), blkE g14 (.cells #[I (c1), I (a1)] 27), blkE g1 (.cells #[I (q.Facts), vf, vg, va] 25), rdE vf (q.First : List Int), rdE vg (q.Goal : List Int), rdE va (q.Acts : List Act), rdE vl (plan : List Int)] H) ?_ ?_
    · refine wpF_drawn [] [] (fun _ _ => False) (by kernel_rfl) (by kernel_rfl) ?_
      refine wpR_q 0 (by kernel_rfl) rfl (quietAt rfl rfl (q_fieldAddr rfl Try.underlying25 rfl Try.sizeOf23 a76_2)) ?_
      refine wpR_q 1 (by kernel_rfl) rfl (quietAt rfl rfl (q_loadBlk rfl rfl Try.isAgg23 (hS76.blk 4 rfl) rfl (labU_not [] rfl (List.forall_mem_nil _)))) ?_
      refine wpR_q 2 (by kernel_rfl) rfl (quietAt rfl rfl (q_move (v := vl) rfl a76_1)) ?_
      refine wpR_q 3 (by kernel_rfl) rfl (quietAt rfl rfl (q_move (v := I ((k : Int))) rfl a76_10)) ?_
      refine wpR_q 4 (by kernel_rfl) rfl (quietAt rfl rfl (q_indexRd (k := k) rfl Try.underlying22 el_Int_3 rfl rfl (hS76.rdl 8 rfl) (by omega) (by omega))) ?_
      refine wpR_q 5 (by kernel_rfl) rfl (quietAt rfl rfl (q_loadInt (k := k) rfl rfl el_Int_3 (hS76.rdl 8 rfl) (by omega) (labU_sub [] rfl (List.forall_mem_nil _)))) ?_
      refine wpR_q 6 (by kernel_rfl) rfl (quietAt rfl rfl (q_indexRd (k := (nth plan k).toNat) rfl Try.underlying23 el_Act_37 rfl rfl (hS76.rdl 7 rfl) (by omega) (by omega))) ?_
      obtain ⟨u84o7, huu84o7, hlu84o7⟩ := (Rd.list.1 (hS76.rdS 7 rfl)).elem ((nth plan k).toNat) (by omega)
      obtain ⟨u84o7n0, u84o7n1, u84o7n2, u84o7n3, rfl, hu84o70, hu84o71, hu84o72, hu84o73⟩ := Rd.act.1 huu84o7
      have hS84o7 : St H0 NoB NoB [rdE u84o7n0 ((nth q.Acts ((nth plan k).toNat)).Need : List Int), rdE vW (nn : List Bool), blkE g28 (.cells #[I (((walkFault q plan)).1), I (((walkFault q plan)).2)] 27), rdE r24 (walkNow q plan : List Bool), blkE g14 (.cells #[I (c1), I (a1)] 27), blkE g1 (.cells #[I (q.Facts), vf, vg, va] 25), rdE vf (q.First : List Int), rdE vg (q.Goal : List Int), rdE va (q.Acts : List Act), rdE vl (plan : List Int)] H76 := hS76.rd hu84o70
      have hS84o7x2 : St H0 NoB NoB [rdE u84o7n1 ((nth q.Acts ((nth plan k).toNat)).Bar : List Int), rdE u84o7n0 ((nth q.Acts ((nth plan k).toNat)).Need : List Int), rdE vW (nn : List Bool), blkE g28 (.cells #[I (((walkFault q plan)).1), I (((walkFault q plan)).2)] 27), rdE r24 (walkNow q plan : List Bool), blkE g14 (.cells #[I (c1), I (a1)] 27), blkE g1 (.cells #[I (q.Facts), vf, vg, va] 25), rdE vf (q.First : List Int), rdE vg (q.Goal : List Int), rdE va (q.Acts : List Act), rdE vl (plan : List Int)] H76 := hS84o7.rd (hu84o71.sub fun _ hb => SL_rd hb)
      have hS84o7x3 : St H0 NoB NoB [rdE u84o7n2 ((nth q.Acts ((nth plan k).toNat)).Add : List Int), rdE u84o7n1 ((nth q.Acts ((nth plan k).toNat)).Bar : List Int), rdE u84o7n0 ((nth q.Acts ((nth plan k).toNat)).Need : List Int), rdE vW (nn : List Bool), blkE g28 (.cells #[I (((walkFault q plan)).1), I (((walkFault q plan)).2)] 27), rdE r24 (walkNow q plan : List Bool), blkE g14 (.cells #[I (c1), I (a1)] 27), blkE g1 (.cells #[I (q.Facts), vf, vg, va] 25), rdE vf (q.First : List Int), rdE vg (q.Goal : List Int), rdE va (q.Acts : List Act), rdE vl (plan : List Int)] H76 := hS84o7x2.rd (hu84o72.sub fun _ hb => SL_rd (SL_rd (hb)))
      have hS84o7x4 : St H0 NoB NoB [rdE u84o7n3 ((nth q.Acts ((nth plan k).toNat)).Drop : List Int), rdE u84o7n2 ((nth q.Acts ((nth plan k).toNat)).Add : List Int), rdE u84o7n1 ((nth q.Acts ((nth plan k).toNat)).Bar : List Int), rdE u84o7n0 ((nth q.Acts ((nth plan k).toNat)).Need : List Int), rdE vW (nn : List Bool), blkE g28 (.cells #[I (((walkFault q plan)).1), I (((walkFault q plan)).2)] 27), rdE r24 (walkNow q plan : List Bool), blkE g14 (.cells #[I (c1), I (a1)] 27), blkE g1 (.cells #[I (q.Facts), vf, vg, va] 25), rdE vf (q.First : List Int), rdE vg (q.Goal : List Int), rdE va (q.Acts : List Act), rdE vl (plan : List Int)] H76 := hS84o7x3.rd (hu84o73.sub fun _ hb => SL_rd (SL_rd (SL_rd (hb))))
      refine wpR_q 7 (by kernel_rfl) rfl (quietAt rfl rfl (q_loadE rfl rfl (hlu84o7 Try.prog 37 _ el_Act_37 (labU_sub [] rfl (List.forall_mem_nil _))))) ?_
      refine wpR_q 8 (by kernel_rfl) rfl (quietAt rfl rfl (q_move (v := vW) rfl a76_9)) ?_
      refine wpR_n [9] (by kernel_rfl) ?_
      refine List.forall_mem_cons.2 ⟨?_, List.forall_mem_nil _⟩
      refine exE rfl rfl ?_
      refine e_call rfl Try.call19 (arr2 (v0 := Value.agg #[u84o7n0, u84o7n1, u84o7n2, u84o7n3]) (v1 := vW) rfl rfl) (After_R u84o7n0 u84o7n1 u84o7n2 u84o7n3 vW (nth q.Acts ((nth plan k).toNat)) nn (hS84o7x4.rdS 3 rfl) (hS84o7x4.rdS 2 rfl) (hS84o7x4.rdS 1 rfl) (hS84o7x4.rdS 0 rfl) (hS84o7x4.rdS 4 rfl) ) ?_
      rintro r84o9 H84o9 ⟨hxx, hrr84o9⟩
      have hS84o9 : St H0 NoB NoB [rdE r84o9 (afterA (nth q.Acts ((nth plan k).toNat)) nn : List Bool), rdE u84o7n3 ((nth q.Acts ((nth plan k).toNat)).Drop : List Int), rdE u84o7n2 ((nth q.Acts ((nth plan k).toNat)).Add : List Int), rdE u84o7n1 ((nth q.Acts ((nth plan k).toNat)).Bar : List Int), rdE u84o7n0 ((nth q.Acts ((nth plan k).toNat)).Need : List Int), rdE vW (nn : List Bool), blkE g28 (.cells #[I (((walkFault q plan)).1), I (((walkFault q plan)).2)] 27), rdE r24 (walkNow q plan : List Bool), blkE g14 (.cells #[I (c1), I (a1)] 27), blkE g1 (.cells #[I (q.Facts), vf, vg, va] 25), rdE vf (q.First : List Int), rdE vg (q.Goal : List Int), rdE va (q.Acts : List Act), rdE vl (plan : List Int)] H84o9 := hS84o7x4.res hxx hrr84o9
      refine ⟨Ext.mono hxx (fun _ h => h.elim), ?_⟩
      refine wpR_q 10 (by kernel_rfl) rfl (quietAt rfl rfl (q_assign (v := r84o9) rfl rfl)) ?_
      refine wpR_end (by kernel_rfl) ?_
      exact ⟨r84o9, a76_1, a76_2, a76_5, a76_6, a76_7, a76_8, rfl, a76_10, (hS84o9.drop (List.Sublist.cons_cons _ (List.Sublist.cons _ (List.Sublist.cons _ (List.Sublist.cons _ (List.Sublist.cons _ (List.Sublist.cons _ (List.Sublist.cons_cons _ (List.Sublist.cons_cons _ (List.Sublist.cons_cons _ (List.Sublist.cons_cons _ (List.Sublist.cons_cons _ (List.Sublist.cons_cons _ (List.Sublist.cons_cons _ (List.Sublist.cons_cons _ (List.Sublist.slnil))))))))))))))))⟩
    rintro f85 H85 ⟨r84o9, a85_1, a85_2, a85_5, a85_6, a85_7, a85_8, a85_9, a85_10, hS85⟩
    clear a76_1 a76_10 a76_2 a76_5 a76_6 a76_7 a76_8 a76_80 a76_9
    exact ⟨c1, a1, r84o9, afterA (nth q.Acts ((nth plan k).toNat)) nn, (hw.step hc0 (walkR_step (by omega) (by omega) (by simpa using h80)) afterA_len), a85_1, a85_2, a85_5, a85_6, a85_7, a85_8, a85_9, a85_10, hS85⟩
  rintro f67 H67 ⟨c3, a3, vM, nm, hw3, a67_1, a67_2, a67_5, a67_6, a67_7, a67_8, a67_9, a67_10, hS67⟩
  clear a66_1 a66_10 a66_2 a66_5 a66_6 a66_67 a66_7 a66_8 a66_9
  refine wpF_cut (fun f H => f 1 = vl ∧ f 2 = PT g1 0 ∧ f 5 = PT g14 0 ∧ f 6 = r24 ∧ f 7 = B (walkOk q plan) ∧ f 8 = PT g28 0 ∧ f 9 = vM ∧ f 10 = I ((k : Int) + 1) ∧ H67 = H) ?_ ?_
  · refine wpF_region ?_
    refine wpL_q (U := NoB) rfl (q_move (v := I ((k : Int))) rfl a67_10) ?_
    refine wpL_q (U := NoB) rfl (q_add rfl rfl rfl (by constructor <;> omega)) ?_
    refine wpL_q (U := NoB) rfl (q_assign (v := I ((k : Int) + 1)) rfl rfl) ?_
    exact ⟨a67_1, a67_2, a67_5, a67_6, a67_7, a67_8, a67_9, rfl, rfl⟩
  rintro f88 _ ⟨a88_1, a88_2, a88_5, a88_6, a88_7, a88_8, a88_9, a88_10, rfl⟩
  clear a67_1 a67_10 a67_2 a67_5 a67_6 a67_7 a67_8 a67_9
  refine ⟨_, ?_, k + 1, c3, a3, vM, nm, rfl, (by omega), hw3, a88_1, a88_2, a88_5, a88_6, a88_7, a88_8, a88_9, (Eq.trans a88_10 (congrArg I (by omega))), hS67⟩
  omega

end Go.Um
