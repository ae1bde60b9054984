import Derived.Test.YtpdcejallbbncaaProg
import Derived.Test.YtpdcejallbbncaaEasyL1
namespace Go.Um
open Go.Proofs
open GoT (sz ag rdc)
open KeyT (kv)

theorem el_Int_3_EasySays1 : ElT Try.prog Int 3 := ⟨Try.isAgg3, Try.sizeOf3⟩
theorem fl27_EasySays1 (a b c d : Int) (w : World) : (Op.equalIn 10000 27 (.agg #[I a, I b]) (.agg #[I c, I d])).run Try.prog w = .ok (decide (a = c ∧ b = d)) w := eq2_run Try.underlying27 Try.underlying3 Try.underlying3 (by decide) (by decide) rfl rfl Try.isAgg3 Try.isAgg3 Try.stoodInHeld27 a b c d w

set_option maxRecDepth 100000 in
theorem EasySays_L {H0 : Heap} (vf vg va : Value) (q : Quest) (h6qFacts : In64 q.Facts) (rvf : Rd NoB H0 vf q.First) (rvg : Rd NoB H0 vg q.Goal) (rva : Rd NoB H0 va q.Acts) : CallsH Try.prog 5 #[Value.agg #[I (q.Facts), vf, vg, va]] H0 (fun rv_ H' => Ext NoB H0 H' ∧ rv_ = B true) := by
  have hsg := (Rd.list.1 rvg).small
  have hsa := (Rd.list.1 rva).small
  have hS0 : St H0 NoB NoB [rdE vf (q.First : List Int), rdE vg (q.Goal : List Int), rdE va (q.Acts : List Act)] H0 := St.arg (St.arg (St.arg (St.start (fun _ h => h.elim)) (Bl0.nil) rva (fun _ h => h)) (Bl0.cons (Bl0.nil)) rvg (fun _ h => h)) (Bl0.cons (Bl0.cons (Bl0.nil))) rvf (fun _ h => h)
  refine callsH_of_wpF (args := [Value.agg #[I (q.Facts), vf, vg, va]]) (rs := [.tmp 2]) Try.func5 rfl Try.ntmps5 Try.results5 (by kernel_rfl) (Nat.le_of_ble_eq_true rfl) ?_
  have a0_0 : argF [Value.agg #[I (q.Facts), vf, vg, va]] 0 = Value.agg #[I (q.Facts), vf, vg, va] := rfl
  generalize argF [Value.agg #[I (q.Facts), vf, vg, va]] = f0 at *
  refine wpF_seq ?_
  refine wpF_cut (fun f H => ∃ (g1 : Nat), f 1 = PT g1 0 ∧ St H0 NoB NoB [blkE g1 (.cells #[I (q.Facts), vf, vg, va] 25), rdE vf (q.First : List Int), rdE vg (q.Goal : List Int), rdE va (q.Acts : List Act)] H) ?_ ?_
  · refine wpF_region ?_
    refine wpL_o rfl ?_
    refine e_box (v := Value.agg #[I (q.Facts), vf, vg, va]) rfl a0_0 hS0 (fun g1 H2 hS3 hxx => ?_)
    replace hS3 : St H0 NoB NoB [blkE g1 (.cells #[I (q.Facts), vf, vg, va] 25), rdE vf (q.First : List Int), rdE vg (q.Goal : List Int), rdE va (q.Acts : List Act)] H2 := hS3
    refine wpL_q (U := NoB) rfl (q_assign (v := B (false)) rfl rfl) ?_
    exact ⟨g1, rfl, hS3⟩
  rintro f4 H4 ⟨g1, a4_1, hS4⟩
  clear a0_0
  refine wpF_seq ?_
  refine wpF_seq ?_
  refine wpF_cut (fun f H => f 1 = PT g1 0 ∧ f 17 = B (decide (20 < (q.Acts.length : Int))) ∧ H4 = H) ?_ ?_
  · refine wpF_region ?_
    refine wpL_q (U := NoB) rfl (q_fieldAddr rfl Try.underlying25 rfl Try.sizeOf23 a4_1) ?_
    refine wpL_q (U := NoB) rfl (q_loadBlk rfl rfl Try.isAgg23 (hS4.blk 0 rfl) rfl (fun h => h)) ?_
    refine wpL_q (U := NoB) rfl (q_lenRd rfl Try.underlying23 rfl (hS4.rdl 3 rfl)) ?_
    refine wpL_q (U := NoB) rfl (q_gtr rfl rfl rfl) ?_
    exact ⟨a4_1, rfl, rfl⟩
  rintro f5 _ ⟨a5_1, a5_17, rfl⟩
  clear a4_1
  refine wpF_condP a5_17 (fun hbig => ?t96) (fun hbig => ?e96)
  case t96 =>
    refine wpF_seq ?_
    refine wpF_cut (fun f H => f 2 = B (true) ∧ H4 = H) ?_ ?_
    · refine wpF_region ?_
      refine wpL_q (U := NoB) rfl (q_assign (v := B (true)) rfl rfl) ?_
      exact ⟨rfl, rfl⟩
    rintro f7 _ ⟨a7_2, rfl⟩
    clear a5_1 a5_17
    refine wpF_ret ?_
    refine ⟨_, resT a7_2 resN, hS4.frame, ?_⟩
    show (B (true)) = B true
    rfl
  refine wpF_skip ?_
  refine wpF_seq ?_
  refine wpF_cut (fun f H => ∃ (g11 : Nat), f 1 = PT g1 0 ∧ f 3 = PT g11 0 ∧ St H0 NoB NoB [blkE g11 (.cells #[I ((questFault q).1), I ((questFault q).2)] 27), blkE g1 (.cells #[I (q.Facts), vf, vg, va] 25), rdE vf (q.First : List Int), rdE vg (q.Goal : List Int), rdE va (q.Acts : List Act)] H) ?_ ?_
  · refine wpF_region ?_
    refine wpL_q (U := NoB) rfl (q_loadBlkA rfl a5_1 Try.isAgg25 Try.sizeOf25 rfl (hS4.blk 0 rfl) (fun h => h)) ?_
    refine wpL_o rfl ?_
    refine e_call rfl Try.call12 (arr1 (v0 := Value.agg #[I (q.Facts), vf, vg, va]) rfl) (Quest_R vf vg va q (by first | assumption | (constructor <;> omega)) (hS4.rdN 1 rfl) (hS4.rdN 2 rfl) (hS4.rdN 3 rfl) ) ?_
    rintro _ H8 ⟨hxx, rfl⟩
    have hS9 : St H0 NoB NoB [blkE g1 (.cells #[I (q.Facts), vf, vg, va] 25), rdE vf (q.First : List Int), rdE vg (q.Goal : List Int), rdE va (q.Acts : List Act)] H8 := hS4.ext hxx
    refine wpL_o rfl ?_
    refine e_alloc rfl Try.zeroValue27 hS9 (fun g11 H12 hS13 hxx => ?_)
    replace hS13 : St H0 NoB NoB [blkE g11 (.cells #[I (0), I (0)] 27), blkE g1 (.cells #[I (q.Facts), vf, vg, va] 25), rdE vf (q.First : List Int), rdE vg (q.Goal : List Int), rdE va (q.Acts : List Act)] H12 := hS13
    refine wpL_o rfl ?_
    refine e_storeBlkA (cs' := #[I ((questFault q).1), I ((questFault q).2)]) rfl rfl rfl Try.sizeOf27 rfl rfl (List.forall_mem_cons.2 ⟨rfl, List.forall_mem_cons.2 ⟨rfl, List.forall_mem_nil _⟩⟩) hS13 (fun H14 hS15 hxx => ?_)
    replace hS15 : St H0 NoB NoB [blkE g11 (.cells #[I ((questFault q).1), I ((questFault q).2)] 27), blkE g1 (.cells #[I (q.Facts), vf, vg, va] 25), rdE vf (q.First : List Int), rdE vg (q.Goal : List Int), rdE va (q.Acts : List Act)] H14 := hS15
    exact ⟨g11, a5_1, rfl, hS15⟩
  rintro f16 H16 ⟨g11, a16_1, a16_3, hS16⟩
  clear a5_1 a5_17
  refine wpF_seq ?_
  refine wpF_cut (fun f H => ∃ (r17 : Value), ∃ (g21 : Nat), f 1 = PT g1 0 ∧ f 3 = PT g11 0 ∧ f 4 = r17 ∧ f 5 = PT g21 0 ∧ St H0 NoB NoB [blkE g21 (.cells #[I ((questFault q).1), I ((questFault q).2)] 27), rdE r17 (levelsOut q : List Int), blkE g11 (.cells #[I ((questFault q).1), I ((questFault q).2)] 27), blkE g1 (.cells #[I (q.Facts), vf, vg, va] 25), rdE vf (q.First : List Int), rdE vg (q.Goal : List Int), rdE va (q.Acts : List Act)] H) ?_ ?_
  · refine wpF_region ?_
    refine wpL_q (U := NoB) rfl (q_loadBlkA rfl a16_1 Try.isAgg25 Try.sizeOf25 rfl (hS16.blk 1 rfl) (fun h => h)) ?_
    refine wpL_o rfl ?_
    refine e_call rfl Try.call23 (arr1 (v0 := Value.agg #[I (q.Facts), vf, vg, va]) rfl) (Levels_L vf vg va q (by first | assumption | (constructor <;> omega)) (hS16.rdS 2 rfl) (hS16.rdS 3 rfl) (hS16.rdS 4 rfl) ) ?_
    rintro _ H18 ⟨hxx, r17, rfl, hrr17⟩
    have hS19 : St H0 NoB NoB [rdE r17 (levelsOut q : List Int), blkE g11 (.cells #[I ((questFault q).1), I ((questFault q).2)] 27), blkE g1 (.cells #[I (q.Facts), vf, vg, va] 25), rdE vf (q.First : List Int), rdE vg (q.Goal : List Int), rdE va (q.Acts : List Act)] H18 := hS16.res hxx hrr17
    refine wpL_q (U := NoB) rfl (q_move (v := Value.tuple #[r17, Value.agg #[I ((questFault q).1), I ((questFault q).2)]]) rfl rfl) ?_
    refine wpL_q (U := NoB) rfl (q_extract (vs := #[r17, Value.agg #[I ((questFault q).1), I ((questFault q).2)]]) (v := r17) rfl rfl rfl) ?_
    refine wpL_q (U := NoB) rfl (q_extract (vs := #[r17, Value.agg #[I ((questFault q).1), I ((questFault q).2)]]) (v := Value.agg #[I ((questFault q).1), I ((questFault q).2)]) rfl rfl rfl) ?_
    refine wpL_o rfl ?_
    refine e_alloc rfl Try.zeroValue27 hS19 (fun g21 H22 hS23 hxx => ?_)
    replace hS23 : St H0 NoB NoB [blkE g21 (.cells #[I (0), I (0)] 27), rdE r17 (levelsOut q : List Int), blkE g11 (.cells #[I ((questFault q).1), I ((questFault q).2)] 27), blkE g1 (.cells #[I (q.Facts), vf, vg, va] 25), rdE vf (q.First : List Int), rdE vg (q.Goal : List Int), rdE va (q.Acts : List Act)] H22 := hS23
    refine wpL_q (U := NoB) rfl (q_assign (v := r17) rfl rfl) ?_
    refine wpL_o rfl ?_
    refine e_storeBlkA (cs' := #[I ((questFault q).1), I ((questFault q).2)]) rfl rfl rfl Try.sizeOf27 rfl rfl (List.forall_mem_cons.2 ⟨rfl, List.forall_mem_cons.2 ⟨rfl, List.forall_mem_nil _⟩⟩) hS23 (fun H24 hS25 hxx => ?_)
    replace hS25 : St H0 NoB NoB [blkE g21 (.cells #[I ((questFault q).1), I ((questFault q).2)] 27), rdE r17 (levelsOut q : List Int), blkE g11 (.cells #[I ((questFault q).1), I ((questFault q).2)] 27), blkE g1 (.cells #[I (q.Facts), vf, vg, va] 25), rdE vf (q.First : List Int), rdE vg (q.Goal : List Int), rdE va (q.Acts : List Act)] H24 := hS25
    exact ⟨r17, g21, a16_1, a16_3, rfl, rfl, hS25⟩
  rintro f26 H26 ⟨r17, g21, a26_1, a26_3, a26_4, a26_5, hS26⟩
  clear a16_1 a16_3
  refine wpF_seq ?_
  refine wpF_cut (fun f H => ∃ (g30 : Nat), f 1 = PT g1 0 ∧ f 3 = PT g11 0 ∧ f 4 = r17 ∧ f 5 = PT g21 0 ∧ f 6 = I ((farI q)) ∧ f 7 = B (farB q) ∧ f 8 = PT g30 0 ∧ St H0 NoB NoB [blkE g30 (.cells #[I ((questFault q).1), I ((questFault q).2)] 27), blkE g21 (.cells #[I ((questFault q).1), I ((questFault q).2)] 27), rdE r17 (levelsOut q : List Int), blkE g11 (.cells #[I ((questFault q).1), I ((questFault q).2)] 27), blkE g1 (.cells #[I (q.Facts), vf, vg, va] 25), rdE vf (q.First : List Int), rdE vg (q.Goal : List Int), rdE va (q.Acts : List Act)] H) ?_ ?_
  · refine wpF_region ?_
    refine wpL_q (U := NoB) rfl (q_loadBlkA rfl a26_1 Try.isAgg25 Try.sizeOf25 rfl (hS26.blk 3 rfl) (fun h => h)) ?_
    refine wpL_o rfl ?_
    refine e_call rfl Try.call24 (arr1 (v0 := Value.agg #[I (q.Facts), vf, vg, va]) rfl) (Far_L vf vg va q (by first | assumption | (constructor <;> omega)) (hS26.rdN 4 rfl) (hS26.rdN 5 rfl) (hS26.rdN 6 rfl) ) ?_
    rintro _ H27 ⟨hxx, rfl⟩
    have hS28 : St H0 NoB NoB [blkE g21 (.cells #[I ((questFault q).1), I ((questFault q).2)] 27), rdE r17 (levelsOut q : List Int), blkE g11 (.cells #[I ((questFault q).1), I ((questFault q).2)] 27), blkE g1 (.cells #[I (q.Facts), vf, vg, va] 25), rdE vf (q.First : List Int), rdE vg (q.Goal : List Int), rdE va (q.Acts : List Act)] H27 := hS26.ext hxx
    refine wpL_q (U := NoB) rfl (q_move (v := Value.tuple #[I ((farI q)), B (farB q), Value.agg #[I ((questFault q).1), I ((questFault q).2)]]) rfl rfl) ?_
    refine wpL_q (U := NoB) rfl (q_extract (vs := #[I ((farI q)), B (farB q), Value.agg #[I ((questFault q).1), I ((questFault q).2)]]) (v := I ((farI q))) rfl rfl rfl) ?_
    refine wpL_q (U := NoB) rfl (q_extract (vs := #[I ((farI q)), B (farB q), Value.agg #[I ((questFault q).1), I ((questFault q).2)]]) (v := B (farB q)) rfl rfl rfl) ?_
    refine wpL_q (U := NoB) rfl (q_extract (vs := #[I ((farI q)), B (farB q), Value.agg #[I ((questFault q).1), I ((questFault q).2)]]) (v := Value.agg #[I ((questFault q).1), I ((questFault q).2)]) rfl rfl rfl) ?_
    refine wpL_o rfl ?_
    refine e_alloc rfl Try.zeroValue27 hS28 (fun g30 H31 hS32 hxx => ?_)
    replace hS32 : St H0 NoB NoB [blkE g30 (.cells #[I (0), I (0)] 27), blkE g21 (.cells #[I ((questFault q).1), I ((questFault q).2)] 27), rdE r17 (levelsOut q : List Int), blkE g11 (.cells #[I ((questFault q).1), I ((questFault q).2)] 27), blkE g1 (.cells #[I (q.Facts), vf, vg, va] 25), rdE vf (q.First : List Int), rdE vg (q.Goal : List Int), rdE va (q.Acts : List Act)] H31 := hS32
    refine wpL_q (U := NoB) rfl (q_assign (v := I ((farI q))) rfl rfl) ?_
    refine wpL_q (U := NoB) rfl (q_assign (v := B (farB q)) rfl rfl) ?_
    refine wpL_o rfl ?_
    refine e_storeBlkA (cs' := #[I ((questFault q).1), I ((questFault q).2)]) rfl rfl rfl Try.sizeOf27 rfl rfl (List.forall_mem_cons.2 ⟨rfl, List.forall_mem_cons.2 ⟨rfl, List.forall_mem_nil _⟩⟩) hS32 (fun H33 hS34 hxx => ?_)
    replace hS34 : St H0 NoB NoB [blkE g30 (.cells #[I ((questFault q).1), I ((questFault q).2)] 27), blkE g21 (.cells #[I ((questFault q).1), I ((questFault q).2)] 27), rdE r17 (levelsOut q : List Int), blkE g11 (.cells #[I ((questFault q).1), I ((questFault q).2)] 27), blkE g1 (.cells #[I (q.Facts), vf, vg, va] 25), rdE vf (q.First : List Int), rdE vg (q.Goal : List Int), rdE va (q.Acts : List Act)] H33 := hS34
    exact ⟨g30, a26_1, a26_3, a26_4, a26_5, rfl, rfl, rfl, hS34⟩
  rintro f35 H35 ⟨g30, a35_1, a35_3, a35_4, a35_5, a35_6, a35_7, a35_8, hS35⟩
  clear a26_1 a26_3 a26_4 a26_5
  refine wpF_seq ?_
  refine wpF_seq ?_
  refine wpF_cut (fun f H => f 1 = PT g1 0 ∧ f 3 = PT g11 0 ∧ f 4 = r17 ∧ f 5 = PT g21 0 ∧ f 6 = I ((farI q)) ∧ f 7 = B (farB q) ∧ f 8 = PT g30 0 ∧ f 33 = B (decide (((questFault q).1) ≠ 0)) ∧ H35 = H) ?_ ?_
  · refine wpF_region ?_
    refine wpL_q (U := NoB) rfl (q_fieldAddr rfl Try.underlying27 rfl Try.sizeOf3 a35_3) ?_
    refine wpL_q (U := NoB) rfl (q_loadBlk rfl rfl Try.isAgg3 (hS35.blk 3 rfl) rfl (fun h => h)) ?_
    refine wpL_q (U := NoB) rfl (q_neq rfl rfl rfl) ?_
    exact ⟨a35_1, a35_3, a35_4, a35_5, a35_6, a35_7, a35_8, rfl, rfl⟩
  rintro f36 _ ⟨a36_1, a36_3, a36_4, a36_5, a36_6, a36_7, a36_8, a36_33, rfl⟩
  clear a35_1 a35_3 a35_4 a35_5 a35_6 a35_7 a35_8
  refine wpF_condP a36_33 (fun h1 => ?t95) (fun h1 => ?e95)
  case t95 =>
    refine wpF_seq ?_
    refine wpF_cut (fun f H => f 2 = B (decide (((((((questFault q).1) = ((questFault q).1) ∧ ((questFault q).2) = ((questFault q).2)) ∧ (((questFault q).1) = ((questFault q).1) ∧ ((questFault q).2) = ((questFault q).2))) ∧ (((levelsOut q).length : Int) = 0)) ∧ ((farI q) = 0)) ∧ ((!(farB q)) = true))) ∧ H35 = H) ?_ ?_
    · refine wpF_region ?_
      refine wpL_q (U := NoB) rfl (q_loadBlkA rfl a36_5 Try.isAgg27 Try.sizeOf27 rfl (hS35.blk 1 rfl) (fun h => h)) ?_
      refine wpL_q (U := NoB) rfl (q_loadBlkA rfl a36_3 Try.isAgg27 Try.sizeOf27 rfl (hS35.blk 3 rfl) (fun h => h)) ?_
      refine wpL_q (U := NoB) rfl (q_eqlF2 rfl Try.eqGuardType27 (fl27_EasySays1 _ _ _ _) rfl rfl) ?_
      refine wpL_q (U := NoB) rfl (q_move (v := B (decide (((questFault q).1) = ((questFault q).1) ∧ ((questFault q).2) = ((questFault q).2)))) rfl rfl) ?_
      by_cases hg38 : ((questFault q).1) = ((questFault q).1) ∧ ((questFault q).2) = ((questFault q).2)
      · have hb39 := Eq.trans rfl (congrArg B (decide_eq_true hg38))
        refine wpL_gq (U := NoB) rfl rfl rfl hb39 (q_loadBlkA rfl a36_8 Try.isAgg27 Try.sizeOf27 rfl (hS35.blk 0 rfl) (fun h => h)) ?_
        refine wpL_gq (U := NoB) rfl rfl rfl hb39 (q_loadBlkA rfl a36_3 Try.isAgg27 Try.sizeOf27 rfl (hS35.blk 3 rfl) (fun h => h)) ?_
        refine wpL_gq (U := NoB) rfl rfl rfl hb39 (q_eqlF2 rfl Try.eqGuardType27 (fl27_EasySays1 _ _ _ _) rfl rfl) ?_
        refine wpL_q (U := NoB) rfl (q_pickT (v := B (decide (((questFault q).1) = ((questFault q).1) ∧ ((questFault q).2) = ((questFault q).2)))) rfl hb39 rfl) ?_
        refine wpL_q (U := NoB) rfl (q_move (v := B (decide (((questFault q).1) = ((questFault q).1) ∧ ((questFault q).2) = ((questFault q).2)))) rfl rfl) ?_
        by_cases hg41 : ((questFault q).1) = ((questFault q).1) ∧ ((questFault q).2) = ((questFault q).2)
        · have hb42 := Eq.trans rfl (congrArg B (decide_eq_true hg41))
          refine wpL_gq (U := NoB) rfl rfl rfl hb42 (q_move (v := r17) rfl a36_4) ?_
          refine wpL_gq (U := NoB) rfl rfl rfl hb42 (q_lenRd rfl Try.underlying22 rfl (hS35.rdl 2 rfl)) ?_
          refine wpL_gq (U := NoB) rfl rfl rfl hb42 (q_eql rfl rfl rfl) ?_
          refine wpL_q (U := NoB) rfl (q_pickT (v := B (decide (((levelsOut q).length : Int) = 0))) rfl hb42 rfl) ?_
          refine wpL_q (U := NoB) rfl (q_move (v := B (decide (((levelsOut q).length : Int) = 0))) rfl rfl) ?_
          by_cases hg44 : ((levelsOut q).length : Int) = 0
          · have hb45 := Eq.trans rfl (congrArg B (decide_eq_true hg44))
            refine wpL_gq (U := NoB) rfl rfl rfl hb45 (q_move (v := I ((farI q))) rfl a36_6) ?_
            refine wpL_gq (U := NoB) rfl rfl rfl hb45 (q_eql rfl rfl rfl) ?_
            refine wpL_q (U := NoB) rfl (q_pickT (v := B (decide ((farI q) = 0))) rfl hb45 rfl) ?_
            refine wpL_q (U := NoB) rfl (q_move (v := B (decide ((farI q) = 0))) rfl rfl) ?_
            by_cases hg47 : (farI q) = 0
            · have hb48 := Eq.trans rfl (congrArg B (decide_eq_true hg47))
              refine wpL_gq (U := NoB) rfl rfl rfl hb48 (q_move (v := B (farB q)) rfl a36_7) ?_
              refine wpL_gq (U := NoB) rfl rfl rfl hb48 (q_not rfl rfl) ?_
              refine wpL_q (U := NoB) rfl (q_pickT (v := B (!(farB q))) rfl hb48 rfl) ?_
              refine wpL_q (U := NoB) rfl (q_assign (v := B (!(farB q))) rfl rfl) ?_
              exact ⟨(Eq.trans rfl (congrArg B (bool_congr_of ((Iff.rfl).trans (((and_iff_right ⟨⟨⟨hg38, hg38⟩, hg44⟩, hg47⟩).trans Iff.rfl)).symm)))), rfl⟩
            · have hb49 := Eq.trans rfl (congrArg B (decide_eq_false hg47))
              refine wpL_gs rfl rfl rfl hb49 rfl ?_
              refine wpL_gs rfl rfl rfl hb49 rfl ?_
              refine wpL_q (U := NoB) rfl (q_pickF (v := B (false)) rfl hb49 rfl) ?_
              refine wpL_q (U := NoB) rfl (q_assign (v := B (false)) rfl rfl) ?_
              exact ⟨(Eq.trans rfl (congrArg B ((decide_eq_false (fun h => (fun h => hg47 h.2) h.1)).symm))), rfl⟩
          · have hb46 := Eq.trans rfl (congrArg B (decide_eq_false hg44))
            refine wpL_gs rfl rfl rfl hb46 rfl ?_
            refine wpL_gs rfl rfl rfl hb46 rfl ?_
            refine wpL_q (U := NoB) rfl (q_pickF (v := B (false)) rfl hb46 rfl) ?_
            refine wpL_q (U := NoB) rfl (q_move (v := B (false)) rfl rfl) ?_
            refine wpL_gs rfl rfl rfl rfl rfl ?_
            refine wpL_gs rfl rfl rfl rfl rfl ?_
            refine wpL_q (U := NoB) rfl (q_pickF (v := B (false)) rfl rfl rfl) ?_
            refine wpL_q (U := NoB) rfl (q_assign (v := B (false)) rfl rfl) ?_
            exact ⟨(Eq.trans rfl (congrArg B ((decide_eq_false (fun h => (fun h => (fun h => hg44 h.2) h.1) h.1)).symm))), rfl⟩
        · have hb43 := Eq.trans rfl (congrArg B (decide_eq_false hg41))
          refine wpL_gs rfl rfl rfl hb43 rfl ?_
          refine wpL_gs rfl rfl rfl hb43 rfl ?_
          refine wpL_gs rfl rfl rfl hb43 rfl ?_
          refine wpL_q (U := NoB) rfl (q_pickF (v := B (false)) rfl hb43 rfl) ?_
          refine wpL_q (U := NoB) rfl (q_move (v := B (false)) rfl rfl) ?_
          refine wpL_gs rfl rfl rfl rfl rfl ?_
          refine wpL_gs rfl rfl rfl rfl rfl ?_
          refine wpL_q (U := NoB) rfl (q_pickF (v := B (false)) rfl rfl rfl) ?_
          refine wpL_q (U := NoB) rfl (q_move (v := B (false)) rfl rfl) ?_
          refine wpL_gs rfl rfl rfl rfl rfl ?_
          refine wpL_gs rfl rfl rfl rfl rfl ?_
          refine wpL_q (U := NoB) rfl (q_pickF (v := B (false)) rfl rfl rfl) ?_
          refine wpL_q (U := NoB) rfl (q_assign (v := B (false)) rfl rfl) ?_
          exact ⟨(absurd hg38 hg41), rfl⟩
      · have hb40 := Eq.trans rfl (congrArg B (decide_eq_false hg38))
        refine wpL_gs rfl rfl rfl hb40 rfl ?_
        refine wpL_gs rfl rfl rfl hb40 rfl ?_
        refine wpL_gs rfl rfl rfl hb40 rfl ?_
        refine wpL_q (U := NoB) rfl (q_pickF (v := B (false)) rfl hb40 rfl) ?_
        refine wpL_q (U := NoB) rfl (q_move (v := B (false)) rfl rfl) ?_
        refine wpL_gs rfl rfl rfl rfl rfl ?_
        refine wpL_gs rfl rfl rfl rfl rfl ?_
        refine wpL_gs rfl rfl rfl rfl rfl ?_
        refine wpL_q (U := NoB) rfl (q_pickF (v := B (false)) rfl rfl rfl) ?_
        refine wpL_q (U := NoB) rfl (q_move (v := B (false)) rfl rfl) ?_
        refine wpL_gs rfl rfl rfl rfl rfl ?_
        refine wpL_gs rfl rfl rfl rfl rfl ?_
        refine wpL_q (U := NoB) rfl (q_pickF (v := B (false)) rfl rfl rfl) ?_
        refine wpL_q (U := NoB) rfl (q_move (v := B (false)) rfl rfl) ?_
        refine wpL_gs rfl rfl rfl rfl rfl ?_
        refine wpL_gs rfl rfl rfl rfl rfl ?_
        refine wpL_q (U := NoB) rfl (q_pickF (v := B (false)) rfl rfl rfl) ?_
        refine wpL_q (U := NoB) rfl (q_assign (v := B (false)) rfl rfl) ?_
        exact ⟨(Eq.trans rfl (congrArg B ((decide_eq_false (fun h => (fun h => (fun h => (fun h => hg38 h.1) h.1) h.1) h.1)).symm))), rfl⟩
    rintro f50 _ ⟨a50_2, rfl⟩
    clear a36_1 a36_3 a36_33 a36_4 a36_5 a36_6 a36_7 a36_8
    refine wpF_ret ?_
    refine ⟨_, resT a50_2 resN, hS35.frame, ?_⟩
    show (B (decide (((((((questFault q).1) = ((questFault q).1) ∧ ((questFault q).2) = ((questFault q).2)) ∧ (((questFault q).1) = ((questFault q).1) ∧ ((questFault q).2) = ((questFault q).2))) ∧ (((levelsOut q).length : Int) = 0)) ∧ ((farI q) = 0)) ∧ ((!(farB q)) = true)))) = B true
    exact congrArg B (decide_eq_true (by rw [levelsOut, farI, farB, if_pos h1, if_pos h1, if_pos h1]; simp))
  have hQ := QW.of (Decidable.of_not_not h1)
  have hfx := hQ.facts
  have hll : (levels q).length = q.Facts.toNat := levelsAt_len _
  refine wpF_skip ?_
  refine wpF_seq ?_
  refine wpF_cut (fun f H => ∃ (r51 : Value), f 1 = PT g1 0 ∧ f 4 = r17 ∧ f 5 = PT g21 0 ∧ f 6 = I ((farI q)) ∧ f 7 = B (farB q) ∧ f 8 = PT g30 0 ∧ f 9 = r51 ∧ St H0 NoB NoB [rdE r51 (levels q : List Int), blkE g30 (.cells #[I ((questFault q).1), I ((questFault q).2)] 27), blkE g21 (.cells #[I ((questFault q).1), I ((questFault q).2)] 27), rdE r17 (levelsOut q : List Int), blkE g11 (.cells #[I ((questFault q).1), I ((questFault q).2)] 27), blkE g1 (.cells #[I (q.Facts), vf, vg, va] 25), rdE vf (q.First : List Int), rdE vg (q.Goal : List Int), rdE va (q.Acts : List Act)] H) ?_ ?_
  · refine wpF_region ?_
    refine wpL_q (U := NoB) rfl (q_loadBlkA rfl a36_1 Try.isAgg25 Try.sizeOf25 rfl (hS35.blk 4 rfl) (fun h => h)) ?_
    refine wpL_o rfl ?_
    refine e_call rfl Try.call25 (arr1 (v0 := Value.agg #[I (q.Facts), vf, vg, va]) rfl) (Rounds_R vf vg va q (by first | assumption | (constructor <;> omega)) (hS35.rdS 5 rfl) (hS35.rdS 6 rfl) (hS35.rdS 7 rfl) hQ) ?_
    rintro r51 H52 ⟨hxx, hrr51⟩
    have hS53 : St H0 NoB NoB [rdE r51 (levels q : List Int), blkE g30 (.cells #[I ((questFault q).1), I ((questFault q).2)] 27), blkE g21 (.cells #[I ((questFault q).1), I ((questFault q).2)] 27), rdE r17 (levelsOut q : List Int), blkE g11 (.cells #[I ((questFault q).1), I ((questFault q).2)] 27), blkE g1 (.cells #[I (q.Facts), vf, vg, va] 25), rdE vf (q.First : List Int), rdE vg (q.Goal : List Int), rdE va (q.Acts : List Act)] H52 := hS35.res hxx hrr51
    refine wpL_q (U := NoB) rfl (q_assign (v := r51) rfl rfl) ?_
    exact ⟨r51, a36_1, a36_4, a36_5, a36_6, a36_7, a36_8, rfl, hS53⟩
  rintro f55 H55 ⟨r51, a55_1, a55_4, a55_5, a55_6, a55_7, a55_8, a55_9, hS55⟩
  clear a36_1 a36_3 a36_33 a36_4 a36_5 a36_6 a36_7 a36_8
  refine wpF_seq ?_
  refine wpF_cut (fun f H => f 1 = PT g1 0 ∧ f 4 = r17 ∧ f 5 = PT g21 0 ∧ f 6 = I ((farI q)) ∧ f 7 = B (farB q) ∧ f 8 = PT g30 0 ∧ f 9 = r51 ∧ f 10 = I (0) ∧ H55 = H) ?_ ?_
  · refine wpF_region ?_
    refine wpL_q (U := NoB) rfl (q_assign (v := I (0)) rfl rfl) ?_
    exact ⟨a55_1, a55_4, a55_5, a55_6, a55_7, a55_8, a55_9, rfl, rfl⟩
  rintro f56 _ ⟨a56_1, a56_4, a56_5, a56_6, a56_7, a56_8, a56_9, a56_10, rfl⟩
  clear a55_1 a55_4 a55_5 a55_6 a55_7 a55_8 a55_9
  refine wpF_seq ?_
  refine wpF_cut (fun f H => f 1 = PT g1 0 ∧ f 4 = r17 ∧ f 5 = PT g21 0 ∧ f 6 = I ((farI q)) ∧ f 7 = B (farB q) ∧ f 8 = PT g30 0 ∧ f 9 = r51 ∧ f 10 = I (0) ∧ f 11 = B (true) ∧ H55 = H) ?_ ?_
  · refine wpF_region ?_
    refine wpL_q (U := NoB) rfl (q_assign (v := B (true)) rfl rfl) ?_
    exact ⟨a56_1, a56_4, a56_5, a56_6, a56_7, a56_8, a56_9, a56_10, rfl, rfl⟩
  rintro f57 _ ⟨a57_1, a57_4, a57_5, a57_6, a57_7, a57_8, a57_9, a57_10, a57_11, rfl⟩
  clear a56_1 a56_10 a56_4 a56_5 a56_6 a56_7 a56_8 a56_9
  refine wpF_seq ?_
  refine wpF_seq ?_
  refine wpF_cut (fun f H => f 1 = PT g1 0 ∧ f 4 = r17 ∧ f 5 = PT g21 0 ∧ f 6 = I ((farI q)) ∧ f 7 = B (farB q) ∧ f 8 = PT g30 0 ∧ f 9 = r51 ∧ f 10 = I (0) ∧ f 11 = B (true) ∧ f 12 = I (0) ∧ H55 = H) ?_ ?_
  · refine wpF_region ?_
    refine wpL_q (U := NoB) rfl (q_assign (v := I (0)) rfl rfl) ?_
    exact ⟨a57_1, a57_4, a57_5, a57_6, a57_7, a57_8, a57_9, a57_10, a57_11, rfl, rfl⟩
  rintro f58 _ ⟨a58_1, a58_4, a58_5, a58_6, a58_7, a58_8, a58_9, a58_10, a58_11, a58_12, rfl⟩
  clear a57_1 a57_10 a57_11 a57_4 a57_5 a57_6 a57_7 a57_8 a57_9
  refine wpF_block ?_
  refine wpF_loop (fun mz f H => ∃ (i : Nat), ∃ (m : Int), ∃ (b : Bool), mz = q.Goal.length - i ∧ (i ≤ q.Goal.length) ∧ (b = farOk (levels q) (q.Goal.take i)) ∧ (b = true → m = farTo (levels q) (q.Goal.take i)) ∧ f 1 = PT g1 0 ∧ f 4 = r17 ∧ f 5 = PT g21 0 ∧ f 6 = I ((farI q)) ∧ f 7 = B (farB q) ∧ f 8 = PT g30 0 ∧ f 9 = r51 ∧ f 10 = I (m) ∧ f 11 = B (b) ∧ f 12 = I ((i : Int)) ∧ St H0 NoB NoB [rdE r51 (levels q : List Int), blkE g30 (.cells #[I ((questFault q).1), I ((questFault q).2)] 27), blkE g21 (.cells #[I ((questFault q).1), I ((questFault q).2)] 27), rdE r17 (levelsOut q : List Int), blkE g11 (.cells #[I ((questFault q).1), I ((questFault q).2)] 27), blkE g1 (.cells #[I (q.Facts), vf, vg, va] 25), rdE vf (q.First : List Int), rdE vg (q.Goal : List Int), rdE va (q.Acts : List Act)] H) (q.Goal.length - 0) ?_ ?_
  · exact ⟨0, 0, true, rfl, Nat.zero_le _, rfl, (fun _ => rfl), a58_1, a58_4, a58_5, a58_6, a58_7, a58_8, a58_9, a58_10, a58_11, (Eq.trans a58_12 (congrArg I (by omega))), hS55⟩
  intro m59 f59 H59 hI59
  obtain ⟨i, m, b, hm59, hi, hb, hm, a59_1, a59_4, a59_5, a59_6, a59_7, a59_8, a59_9, a59_10, a59_11, a59_12, hS59⟩ := hI59
  clear a58_1 a58_10 a58_11 a58_12 a58_4 a58_5 a58_6 a58_7 a58_8 a58_9
  refine wpF_seq ?_
  refine wpF_seq ?_
  refine wpF_cut (fun f H => f 1 = PT g1 0 ∧ f 4 = r17 ∧ f 5 = PT g21 0 ∧ f 6 = I ((farI q)) ∧ f 7 = B (farB q) ∧ f 8 = PT g30 0 ∧ f 9 = r51 ∧ f 10 = I (m) ∧ f 11 = B (b) ∧ f 12 = I ((i : Int)) ∧ f 61 = B (decide ((i : Int) < (q.Goal.length : Int))) ∧ H59 = H) ?_ ?_
  · refine wpF_region ?_
    refine wpL_q (U := NoB) rfl (q_move (v := I ((i : Int))) rfl a59_12) ?_
    refine wpL_q (U := NoB) rfl (q_fieldAddr rfl Try.underlying25 rfl Try.sizeOf22 a59_1) ?_
    refine wpL_q (U := NoB) rfl (q_loadBlk rfl rfl Try.isAgg22 (hS59.blk 5 rfl) rfl (fun h => h)) ?_
    refine wpL_q (U := NoB) rfl (q_lenRd rfl Try.underlying22 rfl (hS59.rdl 7 rfl)) ?_
    refine wpL_q (U := NoB) rfl (q_lss rfl rfl rfl) ?_
    exact ⟨a59_1, a59_4, a59_5, a59_6, a59_7, a59_8, a59_9, a59_10, a59_11, a59_12, rfl, rfl⟩
  rintro f60 _ ⟨a60_1, a60_4, a60_5, a60_6, a60_7, a60_8, a60_9, a60_10, a60_11, a60_12, a60_61, rfl⟩
  clear a59_1 a59_10 a59_11 a59_12 a59_4 a59_5 a59_6 a59_7 a59_8 a59_9
  refine wpF_condP a60_61 (fun hlt => ?t94) (fun hlt => ?e94)
  case t94 =>
    have hgi := (hQ.goal i (by omega)).1
    refine wpF_skip ?_
    refine wpF_seq ?_
    refine wpF_block ?_
    refine wpF_seq ?_
    refine wpF_cut (fun f H => f 1 = PT g1 0 ∧ f 4 = r17 ∧ f 5 = PT g21 0 ∧ f 6 = I ((farI q)) ∧ f 7 = B (farB q) ∧ f 8 = PT g30 0 ∧ f 9 = r51 ∧ f 10 = I (m) ∧ f 11 = B (b) ∧ f 12 = I ((i : Int)) ∧ f 13 = I (nth (levels q) ((nth q.Goal i).toNat)) ∧ H59 = H) ?_ ?_
    · refine wpF_region ?_
      refine wpL_q (U := NoB) rfl (q_move (v := r51) rfl a60_9) ?_
      refine wpL_q (U := NoB) rfl (q_fieldAddr rfl Try.underlying25 rfl Try.sizeOf22 a60_1) ?_
      refine wpL_q (U := NoB) rfl (q_loadBlk rfl rfl Try.isAgg22 (hS59.blk 5 rfl) rfl (fun h => h)) ?_
      refine wpL_q (U := NoB) rfl (q_move (v := I ((i : Int))) rfl a60_12) ?_
      refine wpL_q (U := NoB) rfl (q_indexRd (k := i) rfl Try.underlying22 el_Int_3_EasySays1 rfl rfl (hS59.rdl 7 rfl) (by omega) (by omega)) ?_
      refine wpL_q (U := NoB) rfl (q_loadInt (k := i) rfl rfl el_Int_3_EasySays1 (hS59.rdl 7 rfl) (by omega) (fun _ h => h)) ?_
      refine wpL_q (U := NoB) rfl (q_indexRd (k := (nth q.Goal i).toNat) rfl Try.underlying22 el_Int_3_EasySays1 rfl rfl (hS59.rdl 0 rfl) (by omega) (by omega)) ?_
      refine wpL_q (U := NoB) rfl (q_loadInt (k := (nth q.Goal i).toNat) rfl rfl el_Int_3_EasySays1 (hS59.rdl 0 rfl) (by omega) (fun _ h => h)) ?_
      refine wpL_q (U := NoB) rfl (q_assign (v := I (nth (levels q) ((nth q.Goal i).toNat))) rfl rfl) ?_
      exact ⟨a60_1, a60_4, a60_5, a60_6, a60_7, a60_8, a60_9, a60_10, a60_11, a60_12, rfl, rfl⟩
    rintro f62 _ ⟨a62_1, a62_4, a62_5, a62_6, a62_7, a62_8, a62_9, a62_10, a62_11, a62_12, a62_13, rfl⟩
    clear a60_1 a60_10 a60_11 a60_12 a60_4 a60_5 a60_6 a60_61 a60_7 a60_8 a60_9
    refine wpF_seq ?_
    refine wpF_cut (fun f H => f 1 = PT g1 0 ∧ f 4 = r17 ∧ f 5 = PT g21 0 ∧ f 6 = I ((farI q)) ∧ f 7 = B (farB q) ∧ f 8 = PT g30 0 ∧ f 9 = r51 ∧ f 10 = I (m) ∧ f 11 = B (decide ((b = true) ∧ (0 ≤ (nth (levels q) ((nth q.Goal i).toNat))))) ∧ f 12 = I ((i : Int)) ∧ f 13 = I (nth (levels q) ((nth q.Goal i).toNat)) ∧ H59 = H) ?_ ?_
    · refine wpF_region ?_
      refine wpL_q (U := NoB) rfl (q_move (v := B (b)) rfl a62_11) ?_
      refine wpL_q (U := NoB) rfl (q_move (v := B (b)) rfl rfl) ?_
      by_cases hg63 : b = true
      · have hb64 := Eq.trans rfl (congrArg B hg63)
        refine wpL_gq (U := NoB) rfl rfl rfl hb64 (q_move (v := I (nth (levels q) ((nth q.Goal i).toNat))) rfl a62_13) ?_
        refine wpL_gq (U := NoB) rfl rfl rfl hb64 (q_geq rfl rfl rfl) ?_
        refine wpL_q (U := NoB) rfl (q_pickT (v := B (decide (0 ≤ (nth (levels q) ((nth q.Goal i).toNat))))) rfl hb64 rfl) ?_
        refine wpL_q (U := NoB) rfl (q_assign (v := B (decide (0 ≤ (nth (levels q) ((nth q.Goal i).toNat))))) rfl rfl) ?_
        exact ⟨a62_1, a62_4, a62_5, a62_6, a62_7, a62_8, a62_9, a62_10, (Eq.trans rfl (congrArg B (decide_congr_of ((Iff.rfl).trans (((and_iff_right hg63).trans Iff.rfl)).symm)))), a62_12, a62_13, rfl⟩
      · have hb65 := Eq.trans rfl (congrArg B (Bool.eq_false_iff.2 hg63))
        refine wpL_gs rfl rfl rfl hb65 rfl ?_
        refine wpL_gs rfl rfl rfl hb65 rfl ?_
        refine wpL_q (U := NoB) rfl (q_pickF (v := B (false)) rfl hb65 rfl) ?_
        refine wpL_q (U := NoB) rfl (q_assign (v := B (false)) rfl rfl) ?_
        exact ⟨a62_1, a62_4, a62_5, a62_6, a62_7, a62_8, a62_9, a62_10, (Eq.trans rfl (congrArg B ((decide_eq_false (fun h => hg63 h.1)).symm))), a62_12, a62_13, rfl⟩
    rintro f66 _ ⟨a66_1, a66_4, a66_5, a66_6, a66_7, a66_8, a66_9, a66_10, a66_11, a66_12, a66_13, rfl⟩
    clear a62_1 a62_10 a62_11 a62_12 a62_13 a62_4 a62_5 a62_6 a62_7 a62_8 a62_9
    refine wpF_seq ?_
    refine wpF_cut (fun f H => f 1 = PT g1 0 ∧ f 4 = r17 ∧ f 5 = PT g21 0 ∧ f 6 = I ((farI q)) ∧ f 7 = B (farB q) ∧ f 8 = PT g30 0 ∧ f 9 = r51 ∧ f 10 = I (m) ∧ f 11 = B (decide ((b = true) ∧ (0 ≤ (nth (levels q) ((nth q.Goal i).toNat))))) ∧ f 12 = I ((i : Int)) ∧ f 13 = I (nth (levels q) ((nth q.Goal i).toNat)) ∧ f 79 = B (decide (m < (nth (levels q) ((nth q.Goal i).toNat)))) ∧ H59 = H) ?_ ?_
    · refine wpF_region ?_
      refine wpL_q (U := NoB) rfl (q_move (v := I (nth (levels q) ((nth q.Goal i).toNat))) rfl a66_13) ?_
      refine wpL_q (U := NoB) rfl (q_move (v := I (m)) rfl a66_10) ?_
      refine wpL_q (U := NoB) rfl (q_gtr rfl rfl rfl) ?_
      exact ⟨a66_1, a66_4, a66_5, a66_6, a66_7, a66_8, a66_9, a66_10, a66_11, a66_12, a66_13, rfl, rfl⟩
    rintro f67 _ ⟨a67_1, a67_4, a67_5, a67_6, a67_7, a67_8, a67_9, a67_10, a67_11, a67_12, a67_13, a67_79, rfl⟩
    clear a66_1 a66_10 a66_11 a66_12 a66_13 a66_4 a66_5 a66_6 a66_7 a66_8 a66_9
    refine wpF_cut (fun f H => ∃ (mM : Int), (decide (b = true ∧ 0 ≤ nth (levels q) (nth q.Goal i).toNat) = true → mM = farTo (levels q) (q.Goal.take (i + 1))) ∧ f 1 = PT g1 0 ∧ f 4 = r17 ∧ f 5 = PT g21 0 ∧ f 6 = I ((farI q)) ∧ f 7 = B (farB q) ∧ f 8 = PT g30 0 ∧ f 9 = r51 ∧ f 10 = I (mM) ∧ f 11 = B (decide ((b = true) ∧ (0 ≤ (nth (levels q) ((nth q.Goal i).toNat))))) ∧ f 12 = I ((i : Int)) ∧ H59 = H) ?_ ?_
    · refine wpF_condP a67_79 (fun h79 => ?t71) (fun h79 => ?e71)
      case e71 =>
        refine wpF_skip ?_
        exact ⟨m, (fun hb => by have h2 := hm (by simp at hb; exact hb.1); rw [farTo_take (i := i) (by omega), ← h2]; omega), a67_1, a67_4, a67_5, a67_6, a67_7, a67_8, a67_9, a67_10, a67_11, a67_12, rfl⟩
      refine wpF_cut (fun f H => f 1 = PT g1 0 ∧ f 4 = r17 ∧ f 5 = PT g21 0 ∧ f 6 = I ((farI q)) ∧ f 7 = B (farB q) ∧ f 8 = PT g30 0 ∧ f 9 = r51 ∧ f 10 = I (nth (levels q) ((nth q.Goal i).toNat)) ∧ f 11 = B (decide ((b = true) ∧ (0 ≤ (nth (levels q) ((nth q.Goal i).toNat))))) ∧ f 12 = I ((i : Int)) ∧ H59 = H) ?_ ?_
      · refine wpF_region ?_
        refine wpL_q (U := NoB) rfl (q_move (v := I (nth (levels q) ((nth q.Goal i).toNat))) rfl a67_13) ?_
        refine wpL_q (U := NoB) rfl (q_assign (v := I (nth (levels q) ((nth q.Goal i).toNat))) rfl rfl) ?_
        exact ⟨a67_1, a67_4, a67_5, a67_6, a67_7, a67_8, a67_9, rfl, a67_11, a67_12, rfl⟩
      rintro f70 _ ⟨a70_1, a70_4, a70_5, a70_6, a70_7, a70_8, a70_9, a70_10, a70_11, a70_12, rfl⟩
      clear a67_1 a67_10 a67_11 a67_12 a67_13 a67_4 a67_5 a67_6 a67_7 a67_79 a67_8 a67_9
      exact ⟨nth (levels q) ((nth q.Goal i).toNat), (fun hb => by have h2 := hm (by simp at hb; exact hb.1); rw [farTo_take (i := i) (by omega), ← h2]; omega), a70_1, a70_4, a70_5, a70_6, a70_7, a70_8, a70_9, a70_10, a70_11, a70_12, rfl⟩
    rintro f68 _ ⟨mM, hmM, a68_1, a68_4, a68_5, a68_6, a68_7, a68_8, a68_9, a68_10, a68_11, a68_12, rfl⟩
    clear a67_1 a67_10 a67_11 a67_12 a67_13 a67_4 a67_5 a67_6 a67_7 a67_79 a67_8 a67_9
    refine wpF_cut (fun f H => f 1 = PT g1 0 ∧ f 4 = r17 ∧ f 5 = PT g21 0 ∧ f 6 = I ((farI q)) ∧ f 7 = B (farB q) ∧ f 8 = PT g30 0 ∧ f 9 = r51 ∧ f 10 = I (mM) ∧ f 11 = B (decide ((b = true) ∧ (0 ≤ (nth (levels q) ((nth q.Goal i).toNat))))) ∧ f 12 = I ((i : Int) + 1) ∧ H59 = H) ?_ ?_
    · refine wpF_region ?_
      refine wpL_q (U := NoB) rfl (q_move (v := I ((i : Int))) rfl a68_12) ?_
      refine wpL_q (U := NoB) rfl (q_add rfl rfl rfl (by constructor <;> omega)) ?_
      refine wpL_q (U := NoB) rfl (q_assign (v := I ((i : Int) + 1)) rfl rfl) ?_
      exact ⟨a68_1, a68_4, a68_5, a68_6, a68_7, a68_8, a68_9, a68_10, a68_11, rfl, rfl⟩
    rintro f72 _ ⟨a72_1, a72_4, a72_5, a72_6, a72_7, a72_8, a72_9, a72_10, a72_11, a72_12, rfl⟩
    clear a68_1 a68_10 a68_11 a68_12 a68_4 a68_5 a68_6 a68_7 a68_8 a68_9
    refine ⟨_, ?_, i + 1, mM, decide ((b = true) ∧ (0 ≤ (nth (levels q) ((nth q.Goal i).toNat)))), rfl, (by omega), (by rw [farOk_take (i := i) (by omega), ← hb]; cases b <;> simp), hmM, a72_1, a72_4, a72_5, a72_6, a72_7, a72_8, a72_9, a72_10, (Eq.trans a72_11 (congrArg B (by simp))), (Eq.trans a72_12 (congrArg I (by omega))), hS59⟩
    omega
  have hie : q.Goal.take i = q.Goal := List.take_of_length_le (by omega)
  rw [hie] at hb hm
  refine wpF_exit ?_
  refine atX_here ?_
  refine wpF_seq ?_
  refine wpF_seq ?_
  refine wpF_cut (fun f H => f 4 = r17 ∧ f 5 = PT g21 0 ∧ f 6 = I ((farI q)) ∧ f 7 = B (farB q) ∧ f 8 = PT g30 0 ∧ f 9 = r51 ∧ f 10 = I (m) ∧ f 11 = B (b) ∧ f 82 = B (!b) ∧ H59 = H) ?_ ?_
  · refine wpF_region ?_
    refine wpL_q (U := NoB) rfl (q_move (v := B (b)) rfl a60_11) ?_
    refine wpL_q (U := NoB) rfl (q_not rfl rfl) ?_
    exact ⟨a60_4, a60_5, a60_6, a60_7, a60_8, a60_9, a60_10, a60_11, rfl, rfl⟩
  rintro f73 _ ⟨a73_4, a73_5, a73_6, a73_7, a73_8, a73_9, a73_10, a73_11, a73_82, rfl⟩
  clear a60_1 a60_10 a60_11 a60_12 a60_4 a60_5 a60_6 a60_61 a60_7 a60_8 a60_9
  refine wpF_cut (fun f H => ∃ (mF : Int), (mF = farN (levels q) q.Goal) ∧ f 4 = r17 ∧ f 5 = PT g21 0 ∧ f 6 = I ((farI q)) ∧ f 7 = B (farB q) ∧ f 8 = PT g30 0 ∧ f 9 = r51 ∧ f 10 = I (mF) ∧ f 11 = B (b) ∧ H59 = H) ?_ ?_
  · refine wpF_cond a73_82 (fun h82 => ?t77) (fun h82 => ?e77)
    case e77 =>
      refine wpF_skip ?_
      exact ⟨m, (by rw [farN, ← hb, if_pos (by simpa using h82)]; exact hm (by simpa using h82)), a73_4, a73_5, a73_6, a73_7, a73_8, a73_9, a73_10, a73_11, rfl⟩
    refine wpF_cut (fun f H => f 4 = r17 ∧ f 5 = PT g21 0 ∧ f 6 = I ((farI q)) ∧ f 7 = B (farB q) ∧ f 8 = PT g30 0 ∧ f 9 = r51 ∧ f 10 = I (0) ∧ f 11 = B (b) ∧ H59 = H) ?_ ?_
    · refine wpF_region ?_
      refine wpL_q (U := NoB) rfl (q_assign (v := I (0)) rfl rfl) ?_
      exact ⟨a73_4, a73_5, a73_6, a73_7, a73_8, a73_9, rfl, a73_11, rfl⟩
    rintro f76 _ ⟨a76_4, a76_5, a76_6, a76_7, a76_8, a76_9, a76_10, a76_11, rfl⟩
    clear a73_10 a73_11 a73_4 a73_5 a73_6 a73_7 a73_8 a73_82 a73_9
    exact ⟨0, (by rw [farN, ← hb, if_neg (fun h => by rw [h] at h82; cases h82)]), a76_4, a76_5, a76_6, a76_7, a76_8, a76_9, a76_10, a76_11, rfl⟩
  rintro f74 _ ⟨mF, hmF, a74_4, a74_5, a74_6, a74_7, a74_8, a74_9, a74_10, a74_11, rfl⟩
  clear a73_10 a73_11 a73_4 a73_5 a73_6 a73_7 a73_8 a73_82 a73_9
  refine wpF_seq ?_
  refine wpF_cut (fun f H => f 2 = B (decide (((((((questFault q).1) = 0) ∧ (((questFault q).1) = 0)) ∧ ((levelsOut q) = (levels q))) ∧ ((farB q) = b)) ∧ ((farI q) = mF))) ∧ St H0 NoB NoB [blkE g30 (.cells #[I ((questFault q).1), I ((questFault q).2)] 27), blkE g21 (.cells #[I ((questFault q).1), I ((questFault q).2)] 27), blkE g11 (.cells #[I ((questFault q).1), I ((questFault q).2)] 27), blkE g1 (.cells #[I (q.Facts), vf, vg, va] 25), rdE vf (q.First : List Int), rdE vg (q.Goal : List Int), rdE va (q.Acts : List Act)] H) ?_ ?_
  · refine wpF_region ?_
    refine wpL_q (U := NoB) rfl (q_fieldAddr rfl Try.underlying27 rfl Try.sizeOf3 a74_5) ?_
    refine wpL_q (U := NoB) rfl (q_loadBlk rfl rfl Try.isAgg3 (hS59.blk 2 rfl) rfl (fun h => h)) ?_
    refine wpL_q (U := NoB) rfl (q_eql rfl rfl rfl) ?_
    refine wpL_q (U := NoB) rfl (q_move (v := B (decide (((questFault q).1) = 0))) rfl rfl) ?_
    by_cases hg78 : ((questFault q).1) = 0
    · have hb79 := Eq.trans rfl (congrArg B (decide_eq_true hg78))
      refine wpL_gq (U := NoB) rfl rfl rfl hb79 (q_fieldAddr rfl Try.underlying27 rfl Try.sizeOf3 a74_8) ?_
      refine wpL_gq (U := NoB) rfl rfl rfl hb79 (q_loadBlk rfl rfl Try.isAgg3 (hS59.blk 1 rfl) rfl (fun h => h)) ?_
      refine wpL_gq (U := NoB) rfl rfl rfl hb79 (q_eql rfl rfl rfl) ?_
      refine wpL_q (U := NoB) rfl (q_pickT (v := B (decide (((questFault q).1) = 0))) rfl hb79 rfl) ?_
      refine wpL_q (U := NoB) rfl (q_move (v := B (decide (((questFault q).1) = 0))) rfl rfl) ?_
      by_cases hg81 : ((questFault q).1) = 0
      · have hb82 := Eq.trans rfl (congrArg B (decide_eq_true hg81))
        refine wpL_gq (U := NoB) rfl rfl rfl hb82 (q_move (v := r17) rfl a74_4) ?_
        refine wpL_gq (U := NoB) rfl rfl rfl hb82 (q_move (v := r51) rfl a74_9) ?_
        refine wpL_go rfl rfl rfl hb82 ?_
        refine e_call rfl Try.call26 (arr2 (v0 := r17) (v1 := r51) rfl rfl) (Ints_R r17 r51 _ _ (hS59.rdN 3 rfl) (hS59.rdN 0 rfl)) ?_
        rintro _ H84 ⟨hxx, rfl⟩
        have hS85 : St H0 NoB NoB [rdE r51 (levels q : List Int), blkE g30 (.cells #[I ((questFault q).1), I ((questFault q).2)] 27), blkE g21 (.cells #[I ((questFault q).1), I ((questFault q).2)] 27), rdE r17 (levelsOut q : List Int), blkE g11 (.cells #[I ((questFault q).1), I ((questFault q).2)] 27), blkE g1 (.cells #[I (q.Facts), vf, vg, va] 25), rdE vf (q.First : List Int), rdE vg (q.Goal : List Int), rdE va (q.Acts : List Act)] H84 := hS59.ext hxx
        refine wpL_q (U := NoB) rfl (q_pickT (v := B (decide ((levelsOut q) = (levels q)))) rfl hb82 rfl) ?_
        refine wpL_q (U := NoB) rfl (q_move (v := B (decide ((levelsOut q) = (levels q)))) rfl rfl) ?_
        by_cases hg87 : (levelsOut q) = (levels q)
        · have hb88 := Eq.trans rfl (congrArg B (decide_eq_true hg87))
          refine wpL_gq (U := NoB) rfl rfl rfl hb88 (q_move (v := B (farB q)) rfl a74_7) ?_
          refine wpL_gq (U := NoB) rfl rfl rfl hb88 (q_move (v := B (b)) rfl a74_11) ?_
          refine wpL_gq (U := NoB) rfl rfl rfl hb88 (q_eqlB rfl Try.underlying4 rfl rfl) ?_
          refine wpL_q (U := NoB) rfl (q_pickT (v := B (decide ((farB q) = b))) rfl hb88 rfl) ?_
          refine wpL_q (U := NoB) rfl (q_move (v := B (decide ((farB q) = b))) rfl rfl) ?_
          by_cases hg90 : (farB q) = b
          · have hb91 := Eq.trans rfl (congrArg B (decide_eq_true hg90))
            refine wpL_gq (U := NoB) rfl rfl rfl hb91 (q_move (v := I ((farI q))) rfl a74_6) ?_
            refine wpL_gq (U := NoB) rfl rfl rfl hb91 (q_move (v := I (mF)) rfl a74_10) ?_
            refine wpL_gq (U := NoB) rfl rfl rfl hb91 (q_eql rfl rfl rfl) ?_
            refine wpL_q (U := NoB) rfl (q_pickT (v := B (decide ((farI q) = mF))) rfl hb91 rfl) ?_
            refine wpL_q (U := NoB) rfl (q_assign (v := B (decide ((farI q) = mF))) rfl rfl) ?_
            exact ⟨(Eq.trans rfl (congrArg B (decide_congr_of ((Iff.rfl).trans (((and_iff_right ⟨⟨⟨hg78, hg78⟩, hg87⟩, hg90⟩).trans Iff.rfl)).symm)))), (hS85.drop (List.Sublist.cons _ (List.Sublist.cons_cons _ (List.Sublist.cons_cons _ (List.Sublist.cons _ (List.Sublist.cons_cons _ (List.Sublist.cons_cons _ (List.Sublist.cons_cons _ (List.Sublist.cons_cons _ (List.Sublist.cons_cons _ (List.Sublist.slnil)))))))))))⟩
          · have hb92 := Eq.trans rfl (congrArg B (decide_eq_false hg90))
            refine wpL_gs rfl rfl rfl hb92 rfl ?_
            refine wpL_gs rfl rfl rfl hb92 rfl ?_
            refine wpL_gs rfl rfl rfl hb92 rfl ?_
            refine wpL_q (U := NoB) rfl (q_pickF (v := B (false)) rfl hb92 rfl) ?_
            refine wpL_q (U := NoB) rfl (q_assign (v := B (false)) rfl rfl) ?_
            exact ⟨(Eq.trans rfl (congrArg B ((decide_eq_false (fun h => (fun h => hg90 h.2) h.1)).symm))), (hS85.drop (List.Sublist.cons _ (List.Sublist.cons_cons _ (List.Sublist.cons_cons _ (List.Sublist.cons _ (List.Sublist.cons_cons _ (List.Sublist.cons_cons _ (List.Sublist.cons_cons _ (List.Sublist.cons_cons _ (List.Sublist.cons_cons _ (List.Sublist.slnil)))))))))))⟩
        · have hb89 := Eq.trans rfl (congrArg B (decide_eq_false hg87))
          refine wpL_gs rfl rfl rfl hb89 rfl ?_
          refine wpL_gs rfl rfl rfl hb89 rfl ?_
          refine wpL_gs rfl rfl rfl hb89 rfl ?_
          refine wpL_q (U := NoB) rfl (q_pickF (v := B (false)) rfl hb89 rfl) ?_
          refine wpL_q (U := NoB) rfl (q_move (v := B (false)) rfl rfl) ?_
          refine wpL_gs rfl rfl rfl rfl rfl ?_
          refine wpL_gs rfl rfl rfl rfl rfl ?_
          refine wpL_gs rfl rfl rfl rfl rfl ?_
          refine wpL_q (U := NoB) rfl (q_pickF (v := B (false)) rfl rfl rfl) ?_
          refine wpL_q (U := NoB) rfl (q_assign (v := B (false)) rfl rfl) ?_
          exact ⟨(Eq.trans rfl (congrArg B ((decide_eq_false (fun h => (fun h => (fun h => hg87 h.2) h.1) h.1)).symm))), (hS85.drop (List.Sublist.cons _ (List.Sublist.cons_cons _ (List.Sublist.cons_cons _ (List.Sublist.cons _ (List.Sublist.cons_cons _ (List.Sublist.cons_cons _ (List.Sublist.cons_cons _ (List.Sublist.cons_cons _ (List.Sublist.cons_cons _ (List.Sublist.slnil)))))))))))⟩
      · have hb83 := Eq.trans rfl (congrArg B (decide_eq_false hg81))
        refine wpL_gs rfl rfl rfl hb83 rfl ?_
        refine wpL_gs rfl rfl rfl hb83 rfl ?_
        refine wpL_gs rfl rfl rfl hb83 rfl ?_
        refine wpL_q (U := NoB) rfl (q_pickF (v := B (false)) rfl hb83 rfl) ?_
        refine wpL_q (U := NoB) rfl (q_move (v := B (false)) rfl rfl) ?_
        refine wpL_gs rfl rfl rfl rfl rfl ?_
        refine wpL_gs rfl rfl rfl rfl rfl ?_
        refine wpL_gs rfl rfl rfl rfl rfl ?_
        refine wpL_q (U := NoB) rfl (q_pickF (v := B (false)) rfl rfl rfl) ?_
        refine wpL_q (U := NoB) rfl (q_move (v := B (false)) rfl rfl) ?_
        refine wpL_gs rfl rfl rfl rfl rfl ?_
        refine wpL_gs rfl rfl rfl rfl rfl ?_
        refine wpL_gs rfl rfl rfl rfl rfl ?_
        refine wpL_q (U := NoB) rfl (q_pickF (v := B (false)) rfl rfl rfl) ?_
        refine wpL_q (U := NoB) rfl (q_assign (v := B (false)) rfl rfl) ?_
        exact ⟨(absurd hg78 hg81), (hS59.drop (List.Sublist.cons _ (List.Sublist.cons_cons _ (List.Sublist.cons_cons _ (List.Sublist.cons _ (List.Sublist.cons_cons _ (List.Sublist.cons_cons _ (List.Sublist.cons_cons _ (List.Sublist.cons_cons _ (List.Sublist.cons_cons _ (List.Sublist.slnil)))))))))))⟩
    · have hb80 := Eq.trans rfl (congrArg B (decide_eq_false hg78))
      refine wpL_gs rfl rfl rfl hb80 rfl ?_
      refine wpL_gs rfl rfl rfl hb80 rfl ?_
      refine wpL_gs rfl rfl rfl hb80 rfl ?_
      refine wpL_q (U := NoB) rfl (q_pickF (v := B (false)) rfl hb80 rfl) ?_
      refine wpL_q (U := NoB) rfl (q_move (v := B (false)) rfl rfl) ?_
      refine wpL_gs rfl rfl rfl rfl rfl ?_
      refine wpL_gs rfl rfl rfl rfl rfl ?_
      refine wpL_gs rfl rfl rfl rfl rfl ?_
      refine wpL_q (U := NoB) rfl (q_pickF (v := B (false)) rfl rfl rfl) ?_
      refine wpL_q (U := NoB) rfl (q_move (v := B (false)) rfl rfl) ?_
      refine wpL_gs rfl rfl rfl rfl rfl ?_
      refine wpL_gs rfl rfl rfl rfl rfl ?_
      refine wpL_gs rfl rfl rfl rfl rfl ?_
      refine wpL_q (U := NoB) rfl (q_pickF (v := B (false)) rfl rfl rfl) ?_
      refine wpL_q (U := NoB) rfl (q_move (v := B (false)) rfl rfl) ?_
      refine wpL_gs rfl rfl rfl rfl rfl ?_
      refine wpL_gs rfl rfl rfl rfl rfl ?_
      refine wpL_gs rfl rfl rfl rfl rfl ?_
      refine wpL_q (U := NoB) rfl (q_pickF (v := B (false)) rfl rfl rfl) ?_
      refine wpL_q (U := NoB) rfl (q_assign (v := B (false)) rfl rfl) ?_
      exact ⟨(Eq.trans rfl (congrArg B ((decide_eq_false (fun h => (fun h => (fun h => (fun h => hg78 h.1) h.1) h.1) h.1)).symm))), (hS59.drop (List.Sublist.cons _ (List.Sublist.cons_cons _ (List.Sublist.cons_cons _ (List.Sublist.cons _ (List.Sublist.cons_cons _ (List.Sublist.cons_cons _ (List.Sublist.cons_cons _ (List.Sublist.cons_cons _ (List.Sublist.cons_cons _ (List.Sublist.slnil)))))))))))⟩
  rintro f93 H93 ⟨a93_2, hS93⟩
  clear a74_10 a74_11 a74_4 a74_5 a74_6 a74_7 a74_8 a74_9
  refine wpF_ret ?_
  refine ⟨_, resT a93_2 resN, hS93.frame, ?_⟩
  show (B (decide (((((((questFault q).1) = 0) ∧ (((questFault q).1) = 0)) ∧ ((levelsOut q) = (levels q))) ∧ ((farB q) = b)) ∧ ((farI q) = mF)))) = B true
  exact congrArg B (decide_eq_true (by rw [levelsOut, farI, farB, if_neg h1, if_neg h1, if_neg h1, hQ.code, hmF, hb]; simp))

end Go.Um
