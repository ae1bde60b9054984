import Derived.Test.YtpdcejallbbncaaProg
import Derived.Test.YtpdcejallbbncaaEasyL1
import Derived.Test.YtpdcejallbbncaaActParts1
namespace Go.Um
open Go.Proofs
open GoT (sz ag rdc)
open KeyT (kv)

theorem el_Bool_4_EasyBelow1 : ElT Try.prog Bool 4 := ⟨Try.isAgg4, Try.sizeOf4⟩
theorem el_Int_3_EasyBelow1 : ElT Try.prog Int 3 := ⟨Try.isAgg3, Try.sizeOf3⟩

set_option maxHeartbeats 1000000 in
set_option maxRecDepth 100000 in
theorem EasyBelow_L {H0 : Heap} (vf vg va vl : Value) (q : Quest) (plan : List Int) (h6qFacts : In64 q.Facts) (rvf : Rd NoB H0 vf q.First) (rvg : Rd NoB H0 vg q.Goal) (rva : Rd NoB H0 va q.Acts) (rl : Rd NoB H0 vl plan) : CallsH Try.prog 8 #[Value.agg #[I (q.Facts), vf, vg, va], vl] H0 (fun rv_ H' => Ext NoB H0 H' ∧ rv_ = B true) := by
  have hsl := (Rd.list.1 rl).small
  have hsa := (Rd.list.1 rva).small
  have h6qq : In64 questQ.Facts := by decide
  have hS0 : St H0 NoB NoB [rdE vf (q.First : List Int), rdE vg (q.Goal : List Int), rdE va (q.Acts : List Act), rdE vl (plan : List Int)] H0 := St.arg (St.arg (St.arg (St.arg (St.start (fun _ h => h.elim)) (Bl0.nil) rl (fun _ h => h)) (Bl0.cons (Bl0.nil)) rva (fun _ h => h)) (Bl0.cons (Bl0.cons (Bl0.nil))) rvg (fun _ h => h)) (Bl0.cons (Bl0.cons (Bl0.cons (Bl0.nil)))) rvf (fun _ h => h)
  refine callsH_of_wpF (args := [Value.agg #[I (q.Facts), vf, vg, va], vl]) (rs := [.tmp 4]) Try.func8 rfl Try.ntmps8 Try.results8 (by kernel_rfl) (Nat.le_of_ble_eq_true rfl) ?_
  have a0_0 : argF [Value.agg #[I (q.Facts), vf, vg, va], vl] 0 = Value.agg #[I (q.Facts), vf, vg, va] := rfl
  have a0_1 : argF [Value.agg #[I (q.Facts), vf, vg, va], vl] 1 = vl := rfl
  generalize argF [Value.agg #[I (q.Facts), vf, vg, va], vl] = f0 at *
  refine wpF_seq ?_
  refine wpF_cut (fun f H => ∃ (g1 : Nat), f 1 = vl ∧ f 2 = PT g1 0 ∧ St H0 NoB NoB [blkE g1 (.cells #[I (q.Facts), vf, vg, va] 25), rdE vf (q.First : List Int), rdE vg (q.Goal : List Int), rdE va (q.Acts : List Act), rdE vl (plan : List Int)] H) ?_ ?_
  · refine wpF_region ?_
    refine wpL_o rfl ?_
    refine e_box (v := Value.agg #[I (q.Facts), vf, vg, va]) rfl a0_0 hS0 (fun g1 H2 hS3 hxx => ?_)
    replace hS3 : St H0 NoB NoB [blkE g1 (.cells #[I (q.Facts), vf, vg, va] 25), rdE vf (q.First : List Int), rdE vg (q.Goal : List Int), rdE va (q.Acts : List Act), rdE vl (plan : List Int)] H2 := hS3
    refine wpL_q (U := NoB) rfl (q_assign (v := B (false)) rfl rfl) ?_
    exact ⟨g1, a0_1, rfl, hS3⟩
  rintro f4 H4 ⟨g1, a4_1, a4_2, hS4⟩
  clear a0_0 a0_1
  refine wpF_seq ?_
  refine wpF_cut (fun f H => ∃ (g14 : Nat), f 1 = vl ∧ f 2 = PT g1 0 ∧ f 5 = I ((farI questQ)) ∧ f 6 = B (farB questQ) ∧ f 7 = PT g14 0 ∧ St H0 NoB NoB [blkE g14 (.cells #[I ((questFault questQ).1), I ((questFault questQ).2)] 27), blkE g1 (.cells #[I (q.Facts), vf, vg, va] 25), rdE vf (q.First : List Int), rdE vg (q.Goal : List Int), rdE va (q.Acts : List Act), rdE vl (plan : List Int)] H) ?_ ?_
  · refine wpF_region ?_
    refine wpL_o rfl ?_
    refine e_call rfl Try.call31 arr0 (quest_L (S := SL NoB [blkE g1 (.cells #[I (q.Facts), vf, vg, va] 25), rdE vf (q.First : List Int), rdE vg (q.Goal : List Int), rdE va (q.Acts : List Act), rdE vl (plan : List Int)])) ?_
    rintro _ H8 ⟨hxx, r5, r6, r7, rfl, hrr5, hrr6, hrr7⟩
    have hS9 : St H0 NoB NoB [rdE r5 (questQ.First : List Int), rdE r6 (questQ.Goal : List Int), rdE r7 (questQ.Acts : List Act), blkE g1 (.cells #[I (q.Facts), vf, vg, va] 25), rdE vf (q.First : List Int), rdE vg (q.Goal : List Int), rdE va (q.Acts : List Act), rdE vl (plan : List Int)] H8 := ((((hS4.ext hxx).rd (hrr7.sub fun b hb => ⟨hb, SL.lt hS4 hb⟩)).rd (hrr6.sub fun b hb => ⟨(SL_rd hb), SL.lt hS4 (SL_rd hb)⟩)).rd (hrr5.sub fun b hb => ⟨(SL_rd (SL_rd hb)), SL.lt hS4 (SL_rd (SL_rd hb))⟩))
    refine wpL_o rfl ?_
    refine e_call rfl Try.call24 (arr1 (v0 := Value.agg #[I (questQ.Facts), r5, r6, r7]) rfl) (Far_L r5 r6 r7 questQ (by first | assumption | (constructor <;> omega)) (hS9.rdN 0 rfl) (hS9.rdN 1 rfl) (hS9.rdN 2 rfl) ) ?_
    rintro _ H11 ⟨hxx, rfl⟩
    have hS12 : St H0 NoB NoB [rdE r5 (questQ.First : List Int), rdE r6 (questQ.Goal : List Int), rdE r7 (questQ.Acts : List Act), blkE g1 (.cells #[I (q.Facts), vf, vg, va] 25), rdE vf (q.First : List Int), rdE vg (q.Goal : List Int), rdE va (q.Acts : List Act), rdE vl (plan : List Int)] H11 := hS9.ext hxx
    refine wpL_q (U := NoB) rfl (q_move (v := Value.tuple #[I ((farI questQ)), B (farB questQ), Value.agg #[I ((questFault questQ).1), I ((questFault questQ).2)]]) rfl rfl) ?_
    refine wpL_q (U := NoB) rfl (q_extract (vs := #[I ((farI questQ)), B (farB questQ), Value.agg #[I ((questFault questQ).1), I ((questFault questQ).2)]]) (v := I ((farI questQ))) rfl rfl rfl) ?_
    refine wpL_q (U := NoB) rfl (q_extract (vs := #[I ((farI questQ)), B (farB questQ), Value.agg #[I ((questFault questQ).1), I ((questFault questQ).2)]]) (v := B (farB questQ)) rfl rfl rfl) ?_
    refine wpL_q (U := NoB) rfl (q_extract (vs := #[I ((farI questQ)), B (farB questQ), Value.agg #[I ((questFault questQ).1), I ((questFault questQ).2)]]) (v := Value.agg #[I ((questFault questQ).1), I ((questFault questQ).2)]) rfl rfl rfl) ?_
    refine wpL_o rfl ?_
    refine e_alloc rfl Try.zeroValue27 hS12 (fun g14 H15 hS16 hxx => ?_)
    replace hS16 : St H0 NoB NoB [blkE g14 (.cells #[I (0), I (0)] 27), rdE r5 (questQ.First : List Int), rdE r6 (questQ.Goal : List Int), rdE r7 (questQ.Acts : List Act), blkE g1 (.cells #[I (q.Facts), vf, vg, va] 25), rdE vf (q.First : List Int), rdE vg (q.Goal : List Int), rdE va (q.Acts : List Act), rdE vl (plan : List Int)] H15 := hS16
    refine wpL_q (U := NoB) rfl (q_assign (v := I ((farI questQ))) rfl rfl) ?_
    refine wpL_q (U := NoB) rfl (q_assign (v := B (farB questQ)) rfl rfl) ?_
    refine wpL_o rfl ?_
    refine e_storeBlkA (cs' := #[I ((questFault questQ).1), I ((questFault questQ).2)]) rfl rfl rfl Try.sizeOf27 rfl rfl (List.forall_mem_cons.2 ⟨rfl, List.forall_mem_cons.2 ⟨rfl, List.forall_mem_nil _⟩⟩) hS16 (fun H17 hS18 hxx => ?_)
    replace hS18 : St H0 NoB NoB [blkE g14 (.cells #[I ((questFault questQ).1), I ((questFault questQ).2)] 27), rdE r5 (questQ.First : List Int), rdE r6 (questQ.Goal : List Int), rdE r7 (questQ.Acts : List Act), blkE g1 (.cells #[I (q.Facts), vf, vg, va] 25), rdE vf (q.First : List Int), rdE vg (q.Goal : List Int), rdE va (q.Acts : List Act), rdE vl (plan : List Int)] H17 := hS18
    exact ⟨g14, a4_1, a4_2, rfl, rfl, rfl, (hS18.drop (List.Sublist.cons_cons _ (List.Sublist.cons _ (List.Sublist.cons _ (List.Sublist.cons _ (List.Sublist.cons_cons _ (List.Sublist.cons_cons _ (List.Sublist.cons_cons _ (List.Sublist.cons_cons _ (List.Sublist.cons_cons _ (List.Sublist.slnil)))))))))))⟩
  rintro f19 H19 ⟨g14, a19_1, a19_2, a19_5, a19_6, a19_7, hS19⟩
  clear a4_1 a4_2
  refine wpF_seq ?_
  refine wpF_seq ?_
  refine wpF_cut (fun f H => f 1 = vl ∧ f 2 = PT g1 0 ∧ f 32 = B (decide (((((questFault questQ).1) ≠ 0) ∨ ((!(farB questQ)) = true)) ∨ ((farI questQ) ≠ 1))) ∧ H19 = H) ?_ ?_
  · refine wpF_region ?_
    refine wpL_q (U := NoB) rfl (q_fieldAddr rfl Try.underlying27 rfl Try.sizeOf3 a19_7) ?_
    refine wpL_q (U := NoB) rfl (q_loadBlk rfl rfl Try.isAgg3 (hS19.blk 0 rfl) rfl (fun h => h)) ?_
    refine wpL_q (U := NoB) rfl (q_neq rfl rfl rfl) ?_
    refine wpL_q (U := NoB) rfl (q_move (v := B (decide (((questFault questQ).1) ≠ 0))) rfl rfl) ?_
    by_cases hg20 : ((questFault questQ).1) ≠ 0
    · have hb21 := Eq.trans rfl (congrArg B (decide_eq_true hg20))
      refine wpL_gs rfl rfl rfl hb21 rfl ?_
      refine wpL_gs rfl rfl rfl hb21 rfl ?_
      refine wpL_q (U := NoB) rfl (q_pickT (v := B (true)) rfl hb21 rfl) ?_
      refine wpL_q (U := NoB) rfl (q_move (v := B (true)) rfl rfl) ?_
      refine wpL_gs rfl rfl rfl rfl rfl ?_
      refine wpL_gs rfl rfl rfl rfl rfl ?_
      refine wpL_q (U := NoB) rfl (q_pickT (v := B (true)) rfl rfl rfl) ?_
      exact ⟨a19_1, a19_2, (Eq.trans rfl (congrArg B ((decide_eq_true (Or.inl (Or.inl hg20))).symm))), rfl⟩
    · have hb22 := Eq.trans rfl (congrArg B (decide_eq_false hg20))
      refine wpL_gq (U := NoB) rfl rfl rfl hb22 (q_move (v := B (farB questQ)) rfl a19_6) ?_
      refine wpL_gq (U := NoB) rfl rfl rfl hb22 (q_not rfl rfl) ?_
      refine wpL_q (U := NoB) rfl (q_pickF (v := B (!(farB questQ))) rfl hb22 rfl) ?_
      refine wpL_q (U := NoB) rfl (q_move (v := B (!(farB questQ))) rfl rfl) ?_
      by_cases hg23 : (!(farB questQ)) = true
      · have hb24 := Eq.trans rfl (congrArg B hg23)
        refine wpL_gs rfl rfl rfl hb24 rfl ?_
        refine wpL_gs rfl rfl rfl hb24 rfl ?_
        refine wpL_q (U := NoB) rfl (q_pickT (v := B (true)) rfl hb24 rfl) ?_
        exact ⟨a19_1, a19_2, (Eq.trans rfl (congrArg B ((decide_eq_true (Or.inl (Or.inr hg23))).symm))), rfl⟩
      · have hb25 := Eq.trans rfl (congrArg B (Bool.eq_false_iff.2 hg23))
        refine wpL_gq (U := NoB) rfl rfl rfl hb25 (q_move (v := I ((farI questQ))) rfl a19_5) ?_
        refine wpL_gq (U := NoB) rfl rfl rfl hb25 (q_neq rfl rfl rfl) ?_
        refine wpL_q (U := NoB) rfl (q_pickF (v := B (decide ((farI questQ) ≠ 1))) rfl hb25 rfl) ?_
        exact ⟨a19_1, a19_2, (Eq.trans rfl (congrArg B (decide_congr_of ((Iff.rfl).trans (((or_iff_right (not_or.2 ⟨hg20, hg23⟩)).trans Iff.rfl)).symm)))), rfl⟩
  rintro f26 _ ⟨a26_1, a26_2, a26_32, rfl⟩
  clear a19_1 a19_2 a19_5 a19_6 a19_7
  refine wpF_condP a26_32 (fun h32 => ?t96) (fun h32 => ?e96)
  case t96 =>
    refine wpF_seq ?_
    refine wpF_cut (fun f H => f 4 = B (false) ∧ H19 = H) ?_ ?_
    · refine wpF_region ?_
      refine wpL_q (U := NoB) rfl (q_assign (v := B (false)) rfl rfl) ?_
      exact ⟨rfl, rfl⟩
    rintro f28 _ ⟨a28_4, rfl⟩
    clear a26_1 a26_2 a26_32
    refine wpF_ret ?_
    refine ⟨_, resT a28_4 resN, hS19.frame, ?_⟩
    show (B (false)) = B true
    exfalso
    rw [questQ_far.1, questQ_far.2.1, questQ_far.2.2] at h32
    simp at h32
  refine wpF_skip ?_
  refine wpF_seq ?_
  refine wpF_cut (fun f H => ∃ (r29 : Value), ∃ (g33 : Nat), f 1 = vl ∧ f 2 = PT g1 0 ∧ f 8 = r29 ∧ f 9 = PT g33 0 ∧ St H0 NoB NoB [blkE g33 (.cells #[I ((questFault q).1), I ((questFault q).2)] 27), rdE r29 (levelsOut q : List Int), blkE g14 (.cells #[I ((questFault questQ).1), I ((questFault questQ).2)] 27), blkE g1 (.cells #[I (q.Facts), vf, vg, va] 25), rdE vf (q.First : List Int), rdE vg (q.Goal : List Int), rdE va (q.Acts : List Act), rdE vl (plan : List Int)] H) ?_ ?_
  · refine wpF_region ?_
    refine wpL_q (U := NoB) rfl (q_loadBlkA rfl a26_2 Try.isAgg25 Try.sizeOf25 rfl (hS19.blk 1 rfl) (fun h => h)) ?_
    refine wpL_o rfl ?_
    refine e_call rfl Try.call23 (arr1 (v0 := Value.agg #[I (q.Facts), vf, vg, va]) rfl) (Levels_L vf vg va q (by first | assumption | (constructor <;> omega)) (hS19.rdS 2 rfl) (hS19.rdS 3 rfl) (hS19.rdS 4 rfl) ) ?_
    rintro _ H30 ⟨hxx, r29, rfl, hrr29⟩
    have hS31 : St H0 NoB NoB [rdE r29 (levelsOut q : List Int), blkE g14 (.cells #[I ((questFault questQ).1), I ((questFault questQ).2)] 27), blkE g1 (.cells #[I (q.Facts), vf, vg, va] 25), rdE vf (q.First : List Int), rdE vg (q.Goal : List Int), rdE va (q.Acts : List Act), rdE vl (plan : List Int)] H30 := hS19.res hxx hrr29
    refine wpL_q (U := NoB) rfl (q_move (v := Value.tuple #[r29, Value.agg #[I ((questFault q).1), I ((questFault q).2)]]) rfl rfl) ?_
    refine wpL_q (U := NoB) rfl (q_extract (vs := #[r29, Value.agg #[I ((questFault q).1), I ((questFault q).2)]]) (v := r29) rfl rfl rfl) ?_
    refine wpL_q (U := NoB) rfl (q_extract (vs := #[r29, Value.agg #[I ((questFault q).1), I ((questFault q).2)]]) (v := Value.agg #[I ((questFault q).1), I ((questFault q).2)]) rfl rfl rfl) ?_
    refine wpL_o rfl ?_
    refine e_alloc rfl Try.zeroValue27 hS31 (fun g33 H34 hS35 hxx => ?_)
    replace hS35 : St H0 NoB NoB [blkE g33 (.cells #[I (0), I (0)] 27), rdE r29 (levelsOut q : List Int), blkE g14 (.cells #[I ((questFault questQ).1), I ((questFault questQ).2)] 27), blkE g1 (.cells #[I (q.Facts), vf, vg, va] 25), rdE vf (q.First : List Int), rdE vg (q.Goal : List Int), rdE va (q.Acts : List Act), rdE vl (plan : List Int)] H34 := hS35
    refine wpL_q (U := NoB) rfl (q_assign (v := r29) rfl rfl) ?_
    refine wpL_o rfl ?_
    refine e_storeBlkA (cs' := #[I ((questFault q).1), I ((questFault q).2)]) rfl rfl rfl Try.sizeOf27 rfl rfl (List.forall_mem_cons.2 ⟨rfl, List.forall_mem_cons.2 ⟨rfl, List.forall_mem_nil _⟩⟩) hS35 (fun H36 hS37 hxx => ?_)
    replace hS37 : St H0 NoB NoB [blkE g33 (.cells #[I ((questFault q).1), I ((questFault q).2)] 27), rdE r29 (levelsOut q : List Int), blkE g14 (.cells #[I ((questFault questQ).1), I ((questFault questQ).2)] 27), blkE g1 (.cells #[I (q.Facts), vf, vg, va] 25), rdE vf (q.First : List Int), rdE vg (q.Goal : List Int), rdE va (q.Acts : List Act), rdE vl (plan : List Int)] H36 := hS37
    exact ⟨r29, g33, a26_1, a26_2, rfl, rfl, hS37⟩
  rintro f38 H38 ⟨r29, g33, a38_1, a38_2, a38_8, a38_9, hS38⟩
  clear a26_1 a26_2 a26_32
  refine wpF_seq ?_
  refine wpF_cut (fun f H => ∃ (g42 : Nat), f 1 = vl ∧ f 2 = PT g1 0 ∧ f 8 = r29 ∧ f 9 = PT g33 0 ∧ f 10 = I ((farI q)) ∧ f 11 = B (farB q) ∧ f 12 = PT g42 0 ∧ St H0 NoB NoB [blkE g42 (.cells #[I ((questFault q).1), I ((questFault q).2)] 27), blkE g33 (.cells #[I ((questFault q).1), I ((questFault q).2)] 27), rdE r29 (levelsOut q : List Int), blkE g14 (.cells #[I ((questFault questQ).1), I ((questFault questQ).2)] 27), blkE g1 (.cells #[I (q.Facts), vf, vg, va] 25), rdE vf (q.First : List Int), rdE vg (q.Goal : List Int), rdE va (q.Acts : List Act), rdE vl (plan : List Int)] H) ?_ ?_
  · refine wpF_region ?_
    refine wpL_q (U := NoB) rfl (q_loadBlkA rfl a38_2 Try.isAgg25 Try.sizeOf25 rfl (hS38.blk 3 rfl) (fun h => h)) ?_
    refine wpL_o rfl ?_
    refine e_call rfl Try.call24 (arr1 (v0 := Value.agg #[I (q.Facts), vf, vg, va]) rfl) (Far_L vf vg va q (by first | assumption | (constructor <;> omega)) (hS38.rdN 4 rfl) (hS38.rdN 5 rfl) (hS38.rdN 6 rfl) ) ?_
    rintro _ H39 ⟨hxx, rfl⟩
    have hS40 : St H0 NoB NoB [blkE g33 (.cells #[I ((questFault q).1), I ((questFault q).2)] 27), rdE r29 (levelsOut q : List Int), blkE g14 (.cells #[I ((questFault questQ).1), I ((questFault questQ).2)] 27), blkE g1 (.cells #[I (q.Facts), vf, vg, va] 25), rdE vf (q.First : List Int), rdE vg (q.Goal : List Int), rdE va (q.Acts : List Act), rdE vl (plan : List Int)] H39 := hS38.ext hxx
    refine wpL_q (U := NoB) rfl (q_move (v := Value.tuple #[I ((farI q)), B (farB q), Value.agg #[I ((questFault q).1), I ((questFault q).2)]]) rfl rfl) ?_
    refine wpL_q (U := NoB) rfl (q_extract (vs := #[I ((farI q)), B (farB q), Value.agg #[I ((questFault q).1), I ((questFault q).2)]]) (v := I ((farI q))) rfl rfl rfl) ?_
    refine wpL_q (U := NoB) rfl (q_extract (vs := #[I ((farI q)), B (farB q), Value.agg #[I ((questFault q).1), I ((questFault q).2)]]) (v := B (farB q)) rfl rfl rfl) ?_
    refine wpL_q (U := NoB) rfl (q_extract (vs := #[I ((farI q)), B (farB q), Value.agg #[I ((questFault q).1), I ((questFault q).2)]]) (v := Value.agg #[I ((questFault q).1), I ((questFault q).2)]) rfl rfl rfl) ?_
    refine wpL_o rfl ?_
    refine e_alloc rfl Try.zeroValue27 hS40 (fun g42 H43 hS44 hxx => ?_)
    replace hS44 : St H0 NoB NoB [blkE g42 (.cells #[I (0), I (0)] 27), blkE g33 (.cells #[I ((questFault q).1), I ((questFault q).2)] 27), rdE r29 (levelsOut q : List Int), blkE g14 (.cells #[I ((questFault questQ).1), I ((questFault questQ).2)] 27), blkE g1 (.cells #[I (q.Facts), vf, vg, va] 25), rdE vf (q.First : List Int), rdE vg (q.Goal : List Int), rdE va (q.Acts : List Act), rdE vl (plan : List Int)] H43 := hS44
    refine wpL_q (U := NoB) rfl (q_assign (v := I ((farI q))) rfl rfl) ?_
    refine wpL_q (U := NoB) rfl (q_assign (v := B (farB q)) rfl rfl) ?_
    refine wpL_o rfl ?_
    refine e_storeBlkA (cs' := #[I ((questFault q).1), I ((questFault q).2)]) rfl rfl rfl Try.sizeOf27 rfl rfl (List.forall_mem_cons.2 ⟨rfl, List.forall_mem_cons.2 ⟨rfl, List.forall_mem_nil _⟩⟩) hS44 (fun H45 hS46 hxx => ?_)
    replace hS46 : St H0 NoB NoB [blkE g42 (.cells #[I ((questFault q).1), I ((questFault q).2)] 27), blkE g33 (.cells #[I ((questFault q).1), I ((questFault q).2)] 27), rdE r29 (levelsOut q : List Int), blkE g14 (.cells #[I ((questFault questQ).1), I ((questFault questQ).2)] 27), blkE g1 (.cells #[I (q.Facts), vf, vg, va] 25), rdE vf (q.First : List Int), rdE vg (q.Goal : List Int), rdE va (q.Acts : List Act), rdE vl (plan : List Int)] H45 := hS46
    exact ⟨g42, a38_1, a38_2, a38_8, a38_9, rfl, rfl, rfl, hS46⟩
  rintro f47 H47 ⟨g42, a47_1, a47_2, a47_8, a47_9, a47_10, a47_11, a47_12, hS47⟩
  clear a38_1 a38_2 a38_8 a38_9
  refine wpF_seq ?_
  refine wpF_seq ?_
  refine wpF_cut (fun f H => f 1 = vl ∧ f 2 = PT g1 0 ∧ f 8 = r29 ∧ f 9 = PT g33 0 ∧ f 10 = I ((farI q)) ∧ f 11 = B (farB q) ∧ f 51 = B (decide ((((questFault q).1) ≠ 0) ∨ (((questFault q).1) ≠ 0))) ∧ H47 = H) ?_ ?_
  · refine wpF_region ?_
    refine wpL_q (U := NoB) rfl (q_fieldAddr rfl Try.underlying27 rfl Try.sizeOf3 a47_9) ?_
    refine wpL_q (U := NoB) rfl (q_loadBlk rfl rfl Try.isAgg3 (hS47.blk 1 rfl) rfl (fun h => h)) ?_
    refine wpL_q (U := NoB) rfl (q_neq rfl rfl rfl) ?_
    refine wpL_q (U := NoB) rfl (q_move (v := B (decide (((questFault q).1) ≠ 0))) rfl rfl) ?_
    by_cases hg48 : ((questFault q).1) ≠ 0
    · have hb49 := Eq.trans rfl (congrArg B (decide_eq_true hg48))
      refine wpL_gs rfl rfl rfl hb49 rfl ?_
      refine wpL_gs rfl rfl rfl hb49 rfl ?_
      refine wpL_gs rfl rfl rfl hb49 rfl ?_
      refine wpL_q (U := NoB) rfl (q_pickT (v := B (true)) rfl hb49 rfl) ?_
      exact ⟨a47_1, a47_2, a47_8, a47_9, a47_10, a47_11, (Eq.trans rfl (congrArg B ((decide_eq_true (Or.inl hg48)).symm))), rfl⟩
    · have hb50 := Eq.trans rfl (congrArg B (decide_eq_false hg48))
      refine wpL_gq (U := NoB) rfl rfl rfl hb50 (q_fieldAddr rfl Try.underlying27 rfl Try.sizeOf3 a47_12) ?_
      refine wpL_gq (U := NoB) rfl rfl rfl hb50 (q_loadBlk rfl rfl Try.isAgg3 (hS47.blk 0 rfl) rfl (fun h => h)) ?_
      refine wpL_gq (U := NoB) rfl rfl rfl hb50 (q_neq rfl rfl rfl) ?_
      refine wpL_q (U := NoB) rfl (q_pickF (v := B (decide (((questFault q).1) ≠ 0))) rfl hb50 rfl) ?_
      exact ⟨a47_1, a47_2, a47_8, a47_9, a47_10, a47_11, (Eq.trans rfl (congrArg B ((decide_eq_false hg48).trans (decide_eq_false (not_or.2 ⟨hg48, hg48⟩)).symm))), rfl⟩
  rintro f51 _ ⟨a51_1, a51_2, a51_8, a51_9, a51_10, a51_11, a51_51, rfl⟩
  clear a47_1 a47_10 a47_11 a47_12 a47_2 a47_8 a47_9
  refine wpF_condP a51_51 (fun h51 => ?t95) (fun h51 => ?e95)
  case t95 =>
    refine wpF_seq ?_
    refine wpF_cut (fun f H => f 4 = B (decide (((levelsOut q).length : Int) = 0)) ∧ H47 = H) ?_ ?_
    · refine wpF_region ?_
      refine wpL_q (U := NoB) rfl (q_move (v := r29) rfl a51_8) ?_
      refine wpL_q (U := NoB) rfl (q_lenRd rfl Try.underlying22 rfl (hS47.rdl 2 rfl)) ?_
      refine wpL_q (U := NoB) rfl (q_eql rfl rfl rfl) ?_
      refine wpL_q (U := NoB) rfl (q_assign (v := B (decide (((levelsOut q).length : Int) = 0))) rfl rfl) ?_
      exact ⟨rfl, rfl⟩
    rintro f53 _ ⟨a53_4, rfl⟩
    clear a51_1 a51_10 a51_11 a51_2 a51_51 a51_8 a51_9
    refine wpF_ret ?_
    refine ⟨_, resT a53_4 resN, hS47.frame, ?_⟩
    show (B (decide (((levelsOut q).length : Int) = 0))) = B true
    exact congrArg B (decide_eq_true (by rw [levelsOut, if_pos (by omega)]; rfl))
  have h1 : (questFault q).1 = 0 := Decidable.of_not_not fun h => h51 (.inl h)
  have hfar := easy_law (q := q) (plan := plan) h1
  have hll : (levelsOut q).length = q.Facts.toNat := by rw [levelsOut, if_neg (not_not_intro h1)]; exact levelsAt_len _
  have hF16 := (QW.of h1).facts
  refine wpF_skip ?_
  refine wpF_seq ?_
  refine wpF_cut (fun f H => ∃ (r54 : Value), f 1 = vl ∧ f 8 = r29 ∧ f 9 = PT g33 0 ∧ f 10 = I ((farI q)) ∧ f 11 = B (farB q) ∧ f 13 = r54 ∧ f 14 = B (walkOk q plan) ∧ St H0 NoB NoB [blkE g33 (.cells #[I (((walkFault q plan)).1), I (((walkFault q plan)).2)] 27), rdE r54 (walkNow q plan : List Bool), blkE g42 (.cells #[I ((questFault q).1), I ((questFault q).2)] 27), rdE r29 (levelsOut q : List Int), blkE g14 (.cells #[I ((questFault questQ).1), I ((questFault questQ).2)] 27), blkE g1 (.cells #[I (q.Facts), vf, vg, va] 25), rdE vf (q.First : List Int), rdE vg (q.Goal : List Int), rdE va (q.Acts : List Act), rdE vl (plan : List Int)] H) ?_ ?_
  · refine wpF_region ?_
    refine wpL_q (U := NoB) rfl (q_loadBlkA rfl a51_2 Try.isAgg25 Try.sizeOf25 rfl (hS47.blk 4 rfl) (fun h => h)) ?_
    refine wpL_q (U := NoB) rfl (q_move (v := vl) rfl a51_1) ?_
    refine wpL_o rfl ?_
    refine e_call rfl Try.call14 (arr2 (v0 := Value.agg #[I (q.Facts), vf, vg, va]) (v1 := vl) rfl rfl) (Walk_L vf vg va vl q plan (by first | assumption | (constructor <;> omega)) (hS47.rdS 5 rfl) (hS47.rdS 6 rfl) (hS47.rdS 7 rfl) (hS47.rdS 8 rfl) ) ?_
    rintro _ H55 ⟨hxx, r54, rfl, hrr54⟩
    have hS56 : St H0 NoB NoB [rdE r54 (walkNow q plan : List Bool), blkE g42 (.cells #[I ((questFault q).1), I ((questFault q).2)] 27), blkE g33 (.cells #[I ((questFault q).1), I ((questFault q).2)] 27), rdE r29 (levelsOut q : List Int), blkE g14 (.cells #[I ((questFault questQ).1), I ((questFault questQ).2)] 27), blkE g1 (.cells #[I (q.Facts), vf, vg, va] 25), rdE vf (q.First : List Int), rdE vg (q.Goal : List Int), rdE va (q.Acts : List Act), rdE vl (plan : List Int)] H55 := hS47.res hxx hrr54
    refine wpL_q (U := NoB) rfl (q_move (v := Value.tuple #[r54, B (walkOk q plan), Value.agg #[I (((walkFault q plan)).1), I (((walkFault q plan)).2)]]) rfl rfl) ?_
    refine wpL_q (U := NoB) rfl (q_extract (vs := #[r54, B (walkOk q plan), Value.agg #[I (((walkFault q plan)).1), I (((walkFault q plan)).2)]]) (v := r54) rfl rfl rfl) ?_
    refine wpL_q (U := NoB) rfl (q_extract (vs := #[r54, B (walkOk q plan), Value.agg #[I (((walkFault q plan)).1), I (((walkFault q plan)).2)]]) (v := B (walkOk q plan)) rfl rfl rfl) ?_
    refine wpL_q (U := NoB) rfl (q_extract (vs := #[r54, B (walkOk q plan), Value.agg #[I (((walkFault q plan)).1), I (((walkFault q plan)).2)]]) (v := Value.agg #[I (((walkFault q plan)).1), I (((walkFault q plan)).2)]) rfl rfl rfl) ?_
    refine wpL_q (U := NoB) rfl (q_assign (v := r54) rfl rfl) ?_
    refine wpL_q (U := NoB) rfl (q_assign (v := B (walkOk q plan)) rfl rfl) ?_
    refine wpL_o rfl ?_
    refine e_storeBlkA (cs' := #[I (((walkFault q plan)).1), I (((walkFault q plan)).2)]) rfl a51_9 rfl Try.sizeOf27 rfl rfl (List.forall_mem_cons.2 ⟨rfl, List.forall_mem_cons.2 ⟨rfl, List.forall_mem_nil _⟩⟩) (hS56.front 2 rfl) (fun H58 hS59 hxx => ?_)
    replace hS59 : St H0 NoB NoB [blkE g33 (.cells #[I (((walkFault q plan)).1), I (((walkFault q plan)).2)] 27), rdE r54 (walkNow q plan : List Bool), blkE g42 (.cells #[I ((questFault q).1), I ((questFault q).2)] 27), rdE r29 (levelsOut q : List Int), blkE g14 (.cells #[I ((questFault questQ).1), I ((questFault questQ).2)] 27), blkE g1 (.cells #[I (q.Facts), vf, vg, va] 25), rdE vf (q.First : List Int), rdE vg (q.Goal : List Int), rdE va (q.Acts : List Act), rdE vl (plan : List Int)] H58 := hS59
    exact ⟨r54, a51_1, a51_8, a51_9, a51_10, a51_11, rfl, rfl, hS59⟩
  rintro f60 H60 ⟨r54, a60_1, a60_8, a60_9, a60_10, a60_11, a60_13, a60_14, hS60⟩
  clear a51_1 a51_10 a51_11 a51_2 a51_51 a51_8 a51_9
  refine wpF_seq ?_
  refine wpF_seq ?_
  refine wpF_cut (fun f H => f 1 = vl ∧ f 8 = r29 ∧ f 10 = I ((farI q)) ∧ f 11 = B (farB q) ∧ f 13 = r54 ∧ f 14 = B (walkOk q plan) ∧ f 64 = B (decide ((((walkFault q plan)).1) ≠ 0)) ∧ H60 = H) ?_ ?_
  · refine wpF_region ?_
    refine wpL_q (U := NoB) rfl (q_fieldAddr rfl Try.underlying27 rfl Try.sizeOf3 a60_9) ?_
    refine wpL_q (U := NoB) rfl (q_loadBlk rfl rfl Try.isAgg3 (hS60.blk 0 rfl) rfl (fun h => h)) ?_
    refine wpL_q (U := NoB) rfl (q_neq rfl rfl rfl) ?_
    exact ⟨a60_1, a60_8, a60_10, a60_11, a60_13, a60_14, rfl, rfl⟩
  rintro f61 _ ⟨a61_1, a61_8, a61_10, a61_11, a61_13, a61_14, a61_64, rfl⟩
  clear a60_1 a60_10 a60_11 a60_13 a60_14 a60_8 a60_9
  refine wpF_condP a61_64 (fun h64 => ?t94) (fun h64 => ?e94)
  case t94 =>
    refine wpF_seq ?_
    refine wpF_cut (fun f H => f 4 = B (true) ∧ H60 = H) ?_ ?_
    · refine wpF_region ?_
      refine wpL_q (U := NoB) rfl (q_assign (v := B (true)) rfl rfl) ?_
      exact ⟨rfl, rfl⟩
    rintro f63 _ ⟨a63_4, rfl⟩
    clear a61_1 a61_10 a61_11 a61_13 a61_14 a61_64 a61_8
    refine wpF_ret ?_
    refine ⟨_, resT a63_4 resN, hS60.frame, ?_⟩
    show (B (true)) = B true
    rfl
  obtain ⟨hf1, hf2, hf3⟩ := hfar (Decidable.of_not_not h64)
  refine wpF_skip ?_
  refine wpF_seq ?_
  refine wpF_seq ?_
  refine wpF_cut (fun f H => f 1 = vl ∧ f 8 = r29 ∧ f 13 = r54 ∧ f 82 = B (decide ((((walkOk q plan) = true) ∧ (((!(farB q)) = true) ∨ ((plan.length : Int) < (farI q)))) ∨ (((walkNow q plan).length : Int) ≠ ((levelsOut q).length : Int)))) ∧ H60 = H) ?_ ?_
  · refine wpF_region ?_
    refine wpL_q (U := NoB) rfl (q_move (v := B (walkOk q plan)) rfl a61_14) ?_
    refine wpL_q (U := NoB) rfl (q_move (v := B (walkOk q plan)) rfl rfl) ?_
    by_cases hg64 : (walkOk q plan) = true
    · have hb65 := Eq.trans rfl (congrArg B hg64)
      refine wpL_gq (U := NoB) rfl rfl rfl hb65 (q_move (v := B (farB q)) rfl a61_11) ?_
      refine wpL_gq (U := NoB) rfl rfl rfl hb65 (q_not rfl rfl) ?_
      refine wpL_gq (U := NoB) rfl rfl rfl hb65 (q_move (v := B (!(farB q))) rfl rfl) ?_
      by_cases hg67 : (!(farB q)) = true
      · have hb68 := Eq.trans rfl (congrArg B hg67)
        refine wpL_gs rfl rfl rfl hb68 rfl ?_
        refine wpL_gs rfl rfl rfl hb68 rfl ?_
        refine wpL_gs rfl rfl rfl hb68 rfl ?_
        refine wpL_gs rfl rfl rfl hb68 rfl ?_
        refine wpL_gq (U := NoB) rfl rfl rfl hb65 (q_pickT (v := B (true)) rfl hb68 rfl) ?_
        refine wpL_q (U := NoB) rfl (q_pickT (v := B (true)) rfl hb65 rfl) ?_
        refine wpL_q (U := NoB) rfl (q_move (v := B (true)) rfl rfl) ?_
        refine wpL_gs rfl rfl rfl rfl rfl ?_
        refine wpL_gs rfl rfl rfl rfl rfl ?_
        refine wpL_gs rfl rfl rfl rfl rfl ?_
        refine wpL_gs rfl rfl rfl rfl rfl ?_
        refine wpL_gs rfl rfl rfl rfl rfl ?_
        refine wpL_q (U := NoB) rfl (q_pickT (v := B (true)) rfl rfl rfl) ?_
        exact ⟨a61_1, a61_8, a61_13, (Eq.trans rfl (congrArg B ((decide_eq_true (Or.inl ⟨hg64, (Or.inl hg67)⟩)).symm))), rfl⟩
      · have hb69 := Eq.trans rfl (congrArg B (Bool.eq_false_iff.2 hg67))
        refine wpL_gq (U := NoB) rfl rfl rfl hb69 (q_move (v := I ((farI q))) rfl a61_10) ?_
        refine wpL_gq (U := NoB) rfl rfl rfl hb69 (q_move (v := vl) rfl a61_1) ?_
        refine wpL_gq (U := NoB) rfl rfl rfl hb69 (q_lenRd rfl Try.underlying22 rfl (hS60.rdl 9 rfl)) ?_
        refine wpL_gq (U := NoB) rfl rfl rfl hb69 (q_gtr rfl rfl rfl) ?_
        refine wpL_gq (U := NoB) rfl rfl rfl hb65 (q_pickF (v := B (decide ((plan.length : Int) < (farI q)))) rfl hb69 rfl) ?_
        refine wpL_q (U := NoB) rfl (q_pickT (v := B (decide ((plan.length : Int) < (farI q)))) rfl hb65 rfl) ?_
        refine wpL_q (U := NoB) rfl (q_move (v := B (decide ((plan.length : Int) < (farI q)))) rfl rfl) ?_
        by_cases hg70 : (plan.length : Int) < (farI q)
        · have hb71 := Eq.trans rfl (congrArg B (decide_eq_true hg70))
          refine wpL_gs rfl rfl rfl hb71 rfl ?_
          refine wpL_gs rfl rfl rfl hb71 rfl ?_
          refine wpL_gs rfl rfl rfl hb71 rfl ?_
          refine wpL_gs rfl rfl rfl hb71 rfl ?_
          refine wpL_gs rfl rfl rfl hb71 rfl ?_
          refine wpL_q (U := NoB) rfl (q_pickT (v := B (true)) rfl hb71 rfl) ?_
          exact ⟨a61_1, a61_8, a61_13, (Eq.trans rfl (congrArg B ((decide_eq_true (Or.inl ⟨hg64, (Or.inr hg70)⟩)).symm))), rfl⟩
        · have hb72 := Eq.trans rfl (congrArg B (decide_eq_false hg70))
          refine wpL_gq (U := NoB) rfl rfl rfl hb72 (q_move (v := r54) rfl a61_13) ?_
          refine wpL_gq (U := NoB) rfl rfl rfl hb72 (q_lenRd rfl Try.underlying29 rfl (hS60.rdl 1 rfl)) ?_
          refine wpL_gq (U := NoB) rfl rfl rfl hb72 (q_move (v := r29) rfl a61_8) ?_
          refine wpL_gq (U := NoB) rfl rfl rfl hb72 (q_lenRd rfl Try.underlying22 rfl (hS60.rdl 3 rfl)) ?_
          refine wpL_gq (U := NoB) rfl rfl rfl hb72 (q_neq rfl rfl rfl) ?_
          refine wpL_q (U := NoB) rfl (q_pickF (v := B (decide (((walkNow q plan).length : Int) ≠ ((levelsOut q).length : Int)))) rfl hb72 rfl) ?_
          exact ⟨a61_1, a61_8, a61_13, (Eq.trans rfl (congrArg B (decide_congr_of ((Iff.rfl).trans (((or_iff_right (fun h => (not_or.2 ⟨hg67, hg70⟩) h.2)).trans Iff.rfl)).symm)))), rfl⟩
    · have hb66 := Eq.trans rfl (congrArg B (Bool.eq_false_iff.2 hg64))
      refine wpL_gs rfl rfl rfl hb66 rfl ?_
      refine wpL_gs rfl rfl rfl hb66 rfl ?_
      refine wpL_gs rfl rfl rfl hb66 rfl ?_
      refine wpL_gs' rfl rfl rfl rfl ?_
      refine wpL_gs' rfl rfl rfl rfl ?_
      refine wpL_gs' rfl rfl rfl rfl ?_
      refine wpL_gs' rfl rfl rfl rfl ?_
      refine wpL_gs rfl rfl rfl hb66 rfl ?_
      refine wpL_q (U := NoB) rfl (q_pickF (v := B (false)) rfl hb66 rfl) ?_
      refine wpL_q (U := NoB) rfl (q_move (v := B (false)) rfl rfl) ?_
      refine wpL_gq (U := NoB) rfl rfl rfl rfl (q_move (v := r54) rfl a61_13) ?_
      refine wpL_gq (U := NoB) rfl rfl rfl rfl (q_lenRd rfl Try.underlying29 rfl (hS60.rdl 1 rfl)) ?_
      refine wpL_gq (U := NoB) rfl rfl rfl rfl (q_move (v := r29) rfl a61_8) ?_
      refine wpL_gq (U := NoB) rfl rfl rfl rfl (q_lenRd rfl Try.underlying22 rfl (hS60.rdl 3 rfl)) ?_
      refine wpL_gq (U := NoB) rfl rfl rfl rfl (q_neq rfl rfl rfl) ?_
      refine wpL_q (U := NoB) rfl (q_pickF (v := B (decide (((walkNow q plan).length : Int) ≠ ((levelsOut q).length : Int)))) rfl rfl rfl) ?_
      exact ⟨a61_1, a61_8, a61_13, (Eq.trans rfl (congrArg B (decide_congr_of ((Iff.rfl).trans (((or_iff_right (fun h => hg64 h.1)).trans Iff.rfl)).symm)))), rfl⟩
  rintro f73 _ ⟨a73_1, a73_8, a73_13, a73_82, rfl⟩
  clear a61_1 a61_10 a61_11 a61_13 a61_14 a61_64 a61_8
  refine wpF_condP a73_82 (fun h82 => ?t93) (fun h82 => ?e93)
  case t93 =>
    refine wpF_seq ?_
    refine wpF_cut (fun f H => f 4 = B (false) ∧ H60 = H) ?_ ?_
    · refine wpF_region ?_
      refine wpL_q (U := NoB) rfl (q_assign (v := B (false)) rfl rfl) ?_
      exact ⟨rfl, rfl⟩
    rintro f75 _ ⟨a75_4, rfl⟩
    clear a73_1 a73_13 a73_8 a73_82
    refine wpF_ret ?_
    refine ⟨_, resT a75_4 resN, hS60.frame, ?_⟩
    show (B (false)) = B true
    exfalso
    rw [hf1, hll] at h82
    rcases h82 with ⟨h, h2⟩ | h
    · have h3 := hf2 h; rcases h2 with h2 | h2
      · rw [h3.1] at h2; cases h2
      · omega
    · exact h rfl
  refine wpF_skip ?_
  refine wpF_seq ?_
  refine wpF_seq ?_
  refine wpF_cut (fun f H => f 1 = vl ∧ f 8 = r29 ∧ f 13 = r54 ∧ f 15 = I (0) ∧ H60 = H) ?_ ?_
  · refine wpF_region ?_
    refine wpL_q (U := NoB) rfl (q_assign (v := I (0)) rfl rfl) ?_
    exact ⟨a73_1, a73_8, a73_13, rfl, rfl⟩
  rintro f76 _ ⟨a76_1, a76_8, a76_13, a76_15, rfl⟩
  clear a73_1 a73_13 a73_8 a73_82
  refine wpF_block ?_
  refine wpF_loop (fun mz f H => ∃ (i : Nat), mz = (levelsOut q).length - i ∧ (i ≤ (levelsOut q).length) ∧ f 1 = vl ∧ f 8 = r29 ∧ f 13 = r54 ∧ f 15 = I ((i : Int)) ∧ St H0 NoB NoB [blkE g33 (.cells #[I (((walkFault q plan)).1), I (((walkFault q plan)).2)] 27), rdE r54 (walkNow q plan : List Bool), blkE g42 (.cells #[I ((questFault q).1), I ((questFault q).2)] 27), rdE r29 (levelsOut q : List Int), blkE g14 (.cells #[I ((questFault questQ).1), I ((questFault questQ).2)] 27), blkE g1 (.cells #[I (q.Facts), vf, vg, va] 25), rdE vf (q.First : List Int), rdE vg (q.Goal : List Int), rdE va (q.Acts : List Act), rdE vl (plan : List Int)] H) ((levelsOut q).length - 0) ?_ ?_
  · exact ⟨0, rfl, Nat.zero_le _, a76_1, a76_8, a76_13, (Eq.trans a76_15 (congrArg I (by omega))), hS60⟩
  intro m77 f77 H77 hI77
  obtain ⟨i, hm77, hi, a77_1, a77_8, a77_13, a77_15, hS77⟩ := hI77
  clear a76_1 a76_13 a76_15 a76_8
  refine wpF_seq ?_
  refine wpF_seq ?_
  refine wpF_cut (fun f H => f 1 = vl ∧ f 8 = r29 ∧ f 13 = r54 ∧ f 15 = I ((i : Int)) ∧ f 86 = B (decide ((i : Int) < ((levelsOut q).length : Int))) ∧ H77 = H) ?_ ?_
  · refine wpF_region ?_
    refine wpL_q (U := NoB) rfl (q_move (v := I ((i : Int))) rfl a77_15) ?_
    refine wpL_q (U := NoB) rfl (q_move (v := r29) rfl a77_8) ?_
    refine wpL_q (U := NoB) rfl (q_lenRd rfl Try.underlying22 rfl (hS77.rdl 3 rfl)) ?_
    refine wpL_q (U := NoB) rfl (q_lss rfl rfl rfl) ?_
    exact ⟨a77_1, a77_8, a77_13, a77_15, rfl, rfl⟩
  rintro f78 _ ⟨a78_1, a78_8, a78_13, a78_15, a78_86, rfl⟩
  clear a77_1 a77_13 a77_15 a77_8
  refine wpF_condP a78_86 (fun hlt => ?t92) (fun hlt => ?e92)
  case e92 =>
    refine wpF_exit ?_
    refine atX_here ?_
    refine wpF_seq ?_
    refine wpF_cut (fun f H => f 4 = B (true) ∧ H77 = H) ?_ ?_
    · refine wpF_region ?_
      refine wpL_q (U := NoB) rfl (q_assign (v := B (true)) rfl rfl) ?_
      exact ⟨rfl, rfl⟩
    rintro f91 _ ⟨a91_4, rfl⟩
    clear a78_1 a78_13 a78_15 a78_8 a78_86
    refine wpF_ret ?_
    refine ⟨_, resT a91_4 resN, hS77.frame, ?_⟩
    show (B (true)) = B true
    rfl
  refine wpF_skip ?_
  refine wpF_seq ?_
  refine wpF_block ?_
  refine wpF_seq ?_
  refine wpF_cut (fun f H => f 1 = vl ∧ f 8 = r29 ∧ f 13 = r54 ∧ f 15 = I ((i : Int)) ∧ f 102 = B (decide (((nth (walkNow q plan) i) = true) ∧ (¬ (0 ≤ (nth (levelsOut q) i) ∧ (nth (levelsOut q) i) ≤ (plan.length : Int))))) ∧ St H0 NoB NoB [blkE g33 (.cells #[I (((walkFault q plan)).1), I (((walkFault q plan)).2)] 27), rdE r54 (walkNow q plan : List Bool), blkE g42 (.cells #[I ((questFault q).1), I ((questFault q).2)] 27), rdE r29 (levelsOut q : List Int), blkE g14 (.cells #[I ((questFault questQ).1), I ((questFault questQ).2)] 27), blkE g1 (.cells #[I (q.Facts), vf, vg, va] 25), rdE vf (q.First : List Int), rdE vg (q.Goal : List Int), rdE va (q.Acts : List Act), rdE vl (plan : List Int)] H) ?_ ?_
  · refine wpF_region ?_
    refine wpL_q (U := NoB) rfl (q_move (v := r54) rfl a78_13) ?_
    refine wpL_q (U := NoB) rfl (q_move (v := I ((i : Int))) rfl a78_15) ?_
    refine wpL_q (U := NoB) rfl (q_indexRd (k := i) rfl Try.underlying29 el_Bool_4_EasyBelow1 rfl rfl (hS77.rdl 1 rfl) (by omega) (by omega)) ?_
    refine wpL_q (U := NoB) rfl (q_loadBool (k := i) rfl rfl el_Bool_4_EasyBelow1 (hS77.rdl 1 rfl) (by omega) (fun _ h => h)) ?_
    refine wpL_q (U := NoB) rfl (q_move (v := B (nth (walkNow q plan) i)) rfl rfl) ?_
    by_cases hg80 : (nth (walkNow q plan) i) = true
    · have hb81 := Eq.trans rfl (congrArg B hg80)
      refine wpL_gq (U := NoB) rfl rfl rfl hb81 (q_move (v := r29) rfl a78_8) ?_
      refine wpL_gq (U := NoB) rfl rfl rfl hb81 (q_move (v := I ((i : Int))) rfl a78_15) ?_
      refine wpL_gq (U := NoB) rfl rfl rfl hb81 (q_indexRd (k := i) rfl Try.underlying22 el_Int_3_EasyBelow1 rfl rfl (hS77.rdl 3 rfl) (by omega) (by omega)) ?_
      refine wpL_gq (U := NoB) rfl rfl rfl hb81 (q_loadInt (k := i) rfl rfl el_Int_3_EasyBelow1 (hS77.rdl 3 rfl) (by omega) (fun _ h => h)) ?_
      refine wpL_gq (U := NoB) rfl rfl rfl hb81 (q_move (v := vl) rfl a78_1) ?_
      refine wpL_gq (U := NoB) rfl rfl rfl hb81 (q_lenRd rfl Try.underlying22 rfl (hS77.rdl 9 rfl)) ?_
      refine wpL_go rfl rfl rfl hb81 ?_
      refine e_call rfl Try.call17 (arr3 (v0 := I (nth (levelsOut q) i)) (v1 := I (0)) (v2 := I ((plan.length : Int))) rfl rfl rfl) (in_L (nth (levelsOut q) i) 0 (plan.length : Int)) ?_
      rintro _ H83 ⟨hxx, rfl⟩
      have hS84 : St H0 NoB NoB [blkE g33 (.cells #[I (((walkFault q plan)).1), I (((walkFault q plan)).2)] 27), rdE r54 (walkNow q plan : List Bool), blkE g42 (.cells #[I ((questFault q).1), I ((questFault q).2)] 27), rdE r29 (levelsOut q : List Int), blkE g14 (.cells #[I ((questFault questQ).1), I ((questFault questQ).2)] 27), blkE g1 (.cells #[I (q.Facts), vf, vg, va] 25), rdE vf (q.First : List Int), rdE vg (q.Goal : List Int), rdE va (q.Acts : List Act), rdE vl (plan : List Int)] H83 := hS77.ext hxx
      refine wpL_gq (U := NoB) rfl rfl rfl hb81 (q_notP rfl rfl) ?_
      refine wpL_q (U := NoB) rfl (q_pickT (v := B (decide (¬ (0 ≤ (nth (levelsOut q) i) ∧ (nth (levelsOut q) i) ≤ (plan.length : Int))))) rfl hb81 rfl) ?_
      exact ⟨a78_1, a78_8, a78_13, a78_15, (Eq.trans rfl (congrArg B (decide_congr_of (((not_congr Iff.rfl)).trans (((and_iff_right hg80).trans (not_congr Iff.rfl))).symm)))), hS84⟩
    · have hb82 := Eq.trans rfl (congrArg B (Bool.eq_false_iff.2 hg80))
      refine wpL_gs rfl rfl rfl hb82 rfl ?_
      refine wpL_gs rfl rfl rfl hb82 rfl ?_
      refine wpL_gs rfl rfl rfl hb82 rfl ?_
      refine wpL_gs rfl rfl rfl hb82 rfl ?_
      refine wpL_gs rfl rfl rfl hb82 rfl ?_
      refine wpL_gs rfl rfl rfl hb82 rfl ?_
      refine wpL_gs rfl rfl rfl hb82 rfl ?_
      refine wpL_gs rfl rfl rfl hb82 rfl ?_
      refine wpL_q (U := NoB) rfl (q_pickF (v := B (false)) rfl hb82 rfl) ?_
      exact ⟨a78_1, a78_8, a78_13, a78_15, (Eq.trans rfl (congrArg B ((decide_eq_false (fun h => hg80 h.1)).symm))), hS77⟩
  rintro f86 H86 ⟨a86_1, a86_8, a86_13, a86_15, a86_102, hS86⟩
  clear a78_1 a78_13 a78_15 a78_8 a78_86
  refine wpF_condP a86_102 (fun h102 => ?t90) (fun h102 => ?e90)
  case e90 =>
    refine wpF_skip ?_
    refine wpF_cut (fun f H => f 1 = vl ∧ f 8 = r29 ∧ f 13 = r54 ∧ f 15 = I ((i : Int) + 1) ∧ H86 = H) ?_ ?_
    · refine wpF_region ?_
      refine wpL_q (U := NoB) rfl (q_move (v := I ((i : Int))) rfl a86_15) ?_
      refine wpL_q (U := NoB) rfl (q_add rfl rfl rfl (by constructor <;> omega)) ?_
      refine wpL_q (U := NoB) rfl (q_assign (v := I ((i : Int) + 1)) rfl rfl) ?_
      exact ⟨a86_1, a86_8, a86_13, rfl, rfl⟩
    rintro f89 _ ⟨a89_1, a89_8, a89_13, a89_15, rfl⟩
    clear a86_1 a86_102 a86_13 a86_15 a86_8
    refine ⟨_, ?_, i + 1, rfl, (by omega), a89_1, a89_8, a89_13, (Eq.trans a89_15 (congrArg I (by omega))), hS86⟩
    omega
  refine wpF_seq ?_
  refine wpF_cut (fun f H => f 4 = B (false) ∧ H86 = H) ?_ ?_
  · refine wpF_region ?_
    refine wpL_q (U := NoB) rfl (q_assign (v := B (false)) rfl rfl) ?_
    exact ⟨rfl, rfl⟩
  rintro f88 _ ⟨a88_4, rfl⟩
  clear a86_1 a86_102 a86_13 a86_15 a86_8
  refine wpF_ret ?_
  refine ⟨_, resT a88_4 resN, hS86.frame, ?_⟩
  show (B (false)) = B true
  exfalso
  exact h102.2 (hf3 i h102.1)

end Go.Um
