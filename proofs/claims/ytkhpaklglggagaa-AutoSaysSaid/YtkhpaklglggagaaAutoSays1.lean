import Derived.Test.YtkhpaklglggagaaProg
import Derived.Test.YtkhpaklglggagaaAutoA2
namespace Go.Um
open Go.Proofs
open GoT (sz ag rdc)
open KeyT (kv)



set_option maxRecDepth 100000 in
theorem AutoSays_L {H0 : Heap} (vn vt vl : Value) (a : Auto) (signs : Int) (l : List Int) (rn : Rd NoB H0 vn a.Next) (rt : Rd NoB H0 vt a.Takes) (hsg : In64 a.Signs) (rl : Rd NoB H0 vl l) : CallsH Try.prog 4 #[Value.agg #[I (a.Signs), vn, vt], I (signs), vl] H0 (fun rv_ H' => Ext NoB H0 H' ∧ rv_ = B true) := by
  have hsn := (Rd.list.1 rn).small
  have hst := (Rd.list.1 rt).small
  have hsl := (Rd.list.1 rl).small
  have hS0 : St H0 NoB NoB [rdE vn (a.Next : List (List Int)), rdE vt (a.Takes : List Bool), rdE vl (l : List Int)] H0 := St.arg (St.arg (St.arg (St.start (fun _ h => h.elim)) (Bl0.nil) rl (fun _ h => h)) (Bl0.cons (Bl0.nil)) rt (fun _ h => h)) (Bl0.cons (Bl0.cons (Bl0.nil))) rn (fun _ h => h)
  refine callsH_of_wpF (args := [Value.agg #[I (a.Signs), vn, vt], I (signs), vl]) (rs := [.tmp 6]) Try.func4 rfl Try.ntmps4 Try.results4 (by kernel_rfl) (Nat.le_of_ble_eq_true rfl) ?_
  have a0_0 : argF [Value.agg #[I (a.Signs), vn, vt], I (signs), vl] 0 = Value.agg #[I (a.Signs), vn, vt] := rfl
  have a0_1 : argF [Value.agg #[I (a.Signs), vn, vt], I (signs), vl] 1 = I (signs) := rfl
  have a0_2 : argF [Value.agg #[I (a.Signs), vn, vt], I (signs), vl] 2 = vl := rfl
  generalize argF [Value.agg #[I (a.Signs), vn, vt], I (signs), vl] = f0 at *
  refine wpF_seq ?_
  refine wpF_cut (fun f H => ∃ (g1 : Nat), f 1 = I (signs) ∧ f 2 = vl ∧ f 3 = PT g1 0 ∧ St H0 NoB NoB [blkE g1 (.cells #[I (a.Signs), vn, vt] 36), rdE vn (a.Next : List (List Int)), rdE vt (a.Takes : List Bool), rdE vl (l : List Int)] H) ?_ ?_
  · refine wpF_region ?_
    refine wpL_o rfl ?_
    refine e_box (v := Value.agg #[I (a.Signs), vn, vt]) rfl a0_0 hS0 (fun g1 H2 hS3 hxx => ?_)
    replace hS3 : St H0 NoB NoB [blkE g1 (.cells #[I (a.Signs), vn, vt] 36), rdE vn (a.Next : List (List Int)), rdE vt (a.Takes : List Bool), rdE vl (l : List Int)] H2 := hS3
    refine wpL_q (U := NoB) rfl (q_assign (v := B (false)) rfl rfl) ?_
    exact ⟨g1, a0_1, a0_2, rfl, hS3⟩
  rintro f4 H4 ⟨g1, a4_1, a4_2, a4_3, hS4⟩
  clear a0_0 a0_1 a0_2
  refine wpF_seq ?_
  refine wpF_seq ?_
  refine wpF_cut (fun f H => f 1 = I (signs) ∧ f 2 = vl ∧ f 3 = PT g1 0 ∧ f 21 = B (decide ((60 < (a.Next.length : Int)) ∨ (40 < (l.length : Int)))) ∧ H4 = H) ?_ ?_
  · refine wpF_region ?_
    refine wpL_q (U := NoB) rfl (q_fieldAddr rfl Try.underlying36 rfl Try.sizeOf27 a4_3) ?_
    refine wpL_q (U := NoB) rfl (q_loadBlk rfl rfl Try.isAgg27 (hS4.blk 0 rfl) rfl (fun h => h)) ?_
    refine wpL_q (U := NoB) rfl (q_lenRd rfl Try.underlying27 rfl (hS4.rdl 1 rfl)) ?_
    refine wpL_q (U := NoB) rfl (q_gtr rfl rfl rfl) ?_
    refine wpL_q (U := NoB) rfl (q_move (v := B (decide (60 < (a.Next.length : Int)))) rfl rfl) ?_
    by_cases hg5 : 60 < (a.Next.length : Int)
    · have hb6 := Eq.trans rfl (congrArg B (decide_eq_true hg5))
      refine wpL_gs rfl rfl rfl hb6 rfl ?_
      refine wpL_gs rfl rfl rfl hb6 rfl ?_
      refine wpL_gs rfl rfl rfl hb6 rfl ?_
      refine wpL_q (U := NoB) rfl (q_pickT (v := B (true)) rfl hb6 rfl) ?_
      exact ⟨a4_1, a4_2, a4_3, (Eq.trans rfl (congrArg B ((decide_eq_true (Or.inl hg5)).symm))), rfl⟩
    · have hb7 := Eq.trans rfl (congrArg B (decide_eq_false hg5))
      refine wpL_gq (U := NoB) rfl rfl rfl hb7 (q_move (v := vl) rfl a4_2) ?_
      refine wpL_gq (U := NoB) rfl rfl rfl hb7 (q_lenRd rfl Try.underlying22 rfl (hS4.rdl 3 rfl)) ?_
      refine wpL_gq (U := NoB) rfl rfl rfl hb7 (q_gtr rfl rfl rfl) ?_
      refine wpL_q (U := NoB) rfl (q_pickF (v := B (decide (40 < (l.length : Int)))) rfl hb7 rfl) ?_
      exact ⟨a4_1, a4_2, a4_3, (Eq.trans rfl (congrArg B (decide_congr_of ((Iff.rfl).trans (((or_iff_right hg5).trans Iff.rfl)).symm)))), rfl⟩
  rintro f8 _ ⟨a8_1, a8_2, a8_3, a8_21, rfl⟩
  clear a4_1 a4_2 a4_3
  refine wpF_condP a8_21 (fun hbig => ?t109) (fun hbig => ?e109)
  case t109 =>
    refine wpF_seq ?_
    refine wpF_cut (fun f H => f 6 = B (true) ∧ H4 = H) ?_ ?_
    · refine wpF_region ?_
      refine wpL_q (U := NoB) rfl (q_assign (v := B (true)) rfl rfl) ?_
      exact ⟨rfl, rfl⟩
    rintro f10 _ ⟨a10_6, rfl⟩
    clear a8_1 a8_2 a8_21 a8_3
    refine wpF_ret ?_
    refine ⟨_, resT a10_6 resN, hS4.frame, ?_⟩
    show (B (true)) = B true
    rfl
  refine wpF_skip ?_
  refine wpF_seq ?_
  refine wpF_cut (fun f H => ∃ (g14 : Nat), f 1 = I (signs) ∧ f 2 = vl ∧ f 3 = PT g1 0 ∧ f 7 = PT g14 0 ∧ St H0 NoB NoB [blkE g14 (.cells #[I ((autoFault a).1), I ((autoFault a).2)] 24), blkE g1 (.cells #[I (a.Signs), vn, vt] 36), rdE vn (a.Next : List (List Int)), rdE vt (a.Takes : List Bool), rdE vl (l : List Int)] H) ?_ ?_
  · refine wpF_region ?_
    refine wpL_q (U := NoB) rfl (q_loadBlkA rfl a8_3 Try.isAgg36 Try.sizeOf36 rfl (hS4.blk 0 rfl) (fun h => h)) ?_
    refine wpL_o rfl ?_
    refine e_call rfl Try.call20 (arr1 (v0 := Value.agg #[I (a.Signs), vn, vt]) rfl) (Auto_R vn vt a (hS4.rdN 1 rfl) (hS4.rdN 2 rfl) hsg) ?_
    rintro _ H11 ⟨hxx, rfl⟩
    have hS12 : St H0 NoB NoB [blkE g1 (.cells #[I (a.Signs), vn, vt] 36), rdE vn (a.Next : List (List Int)), rdE vt (a.Takes : List Bool), rdE vl (l : List Int)] H11 := hS4.ext hxx
    refine wpL_o rfl ?_
    refine e_alloc rfl Try.zeroValue24 hS12 (fun g14 H15 hS16 hxx => ?_)
    replace hS16 : St H0 NoB NoB [blkE g14 (.cells #[I (0), I (0)] 24), blkE g1 (.cells #[I (a.Signs), vn, vt] 36), rdE vn (a.Next : List (List Int)), rdE vt (a.Takes : List Bool), rdE vl (l : List Int)] H15 := hS16
    refine wpL_o rfl ?_
    refine e_storeBlkA (cs' := #[I ((autoFault a).1), I ((autoFault a).2)]) rfl rfl rfl Try.sizeOf24 rfl rfl (List.forall_mem_cons.2 ⟨rfl, List.forall_mem_cons.2 ⟨rfl, List.forall_mem_nil _⟩⟩) hS16 (fun H17 hS18 hxx => ?_)
    replace hS18 : St H0 NoB NoB [blkE g14 (.cells #[I ((autoFault a).1), I ((autoFault a).2)] 24), blkE g1 (.cells #[I (a.Signs), vn, vt] 36), rdE vn (a.Next : List (List Int)), rdE vt (a.Takes : List Bool), rdE vl (l : List Int)] H17 := hS18
    exact ⟨g14, a8_1, a8_2, a8_3, rfl, hS18⟩
  rintro f19 H19 ⟨g14, a19_1, a19_2, a19_3, a19_7, hS19⟩
  clear a8_1 a8_2 a8_21 a8_3
  refine wpF_seq ?_
  refine wpF_seq ?_
  refine wpF_cut (fun f H => f 2 = vl ∧ f 3 = PT g1 0 ∧ f 7 = PT g14 0 ∧ f 36 = B (decide ((¬ (((autoFault a).1) = ((autoFault a).1) ∧ ((autoFault a).2) = ((autoFault a).2))) ∨ (¬ (((textFault signs l).1) = ((textFault signs l).1) ∧ ((textFault signs l).2) = ((textFault signs l).2))))) ∧ St H0 NoB NoB [blkE g14 (.cells #[I ((autoFault a).1), I ((autoFault a).2)] 24), blkE g1 (.cells #[I (a.Signs), vn, vt] 36), rdE vn (a.Next : List (List Int)), rdE vt (a.Takes : List Bool), rdE vl (l : List Int)] H) ?_ ?_
  · refine wpF_drawn [] [] (fun _ _ => False) (by kernel_rfl) (by kernel_rfl) ?_
    refine wpR_q 0 (by kernel_rfl) rfl (quietAt rfl rfl (q_loadBlkA rfl a19_3 Try.isAgg36 Try.sizeOf36 rfl (hS19.blk 1 rfl) (labU_not [] rfl (List.forall_mem_nil _)))) ?_
    refine wpR_q 2 (by kernel_rfl) rfl (quietAt rfl rfl (q_loadBlkA rfl a19_7 Try.isAgg24 Try.sizeOf24 rfl (hS19.blk 0 rfl) (labU_not [] rfl (List.forall_mem_nil _)))) ?_
    refine wpR_n [1] (by kernel_rfl) ?_
    refine List.forall_mem_cons.2 ⟨?_, List.forall_mem_nil _⟩
    refine exE rfl rfl ?_
    refine e_call rfl Try.call21 (arr1 (v0 := Value.agg #[I (a.Signs), vn, vt]) rfl) (Check vn vt a (hS19.rdN 2 rfl) (hS19.rdN 3 rfl) hsg) ?_
    rintro _ H20o1 ⟨hxx, rfl⟩
    have hS20o1 : St H0 NoB NoB [blkE g14 (.cells #[I ((autoFault a).1), I ((autoFault a).2)] 24), blkE g1 (.cells #[I (a.Signs), vn, vt] 36), rdE vn (a.Next : List (List Int)), rdE vt (a.Takes : List Bool), rdE vl (l : List Int)] H20o1 := hS19.ext hxx
    refine ⟨Ext.mono hxx (fun _ h => h.elim), ?_⟩
    refine wpR_q 3 (by kernel_rfl) rfl (quietAt rfl rfl (q_neqF2 rfl Try.eqGuardType24 (fl24 _ _ _ _) rfl rfl)) ?_
    refine wpR_q 4 (by kernel_rfl) rfl (quietAt rfl rfl (q_move (v := B (decide (¬ (((autoFault a).1) = ((autoFault a).1) ∧ ((autoFault a).2) = ((autoFault a).2))))) rfl rfl)) ?_
    by_cases hg21 : ¬ (((autoFault a).1) = ((autoFault a).1) ∧ ((autoFault a).2) = ((autoFault a).2))
    · have hb22 := Eq.trans rfl (congrArg B (decide_eq_true hg21))
      refine wpR_q 5 (by kernel_rfl) rfl (quietAt_s rfl rfl rfl rfl hb22 rfl) ?_
      refine wpR_q 6 (by kernel_rfl) rfl (quietAt_s rfl rfl rfl rfl hb22 rfl) ?_
      refine wpR_q 7 (by kernel_rfl) rfl (quietAt_s rfl rfl rfl rfl hb22 rfl) ?_
      refine wpR_q 8 (by kernel_rfl) rfl (quietAt_s rfl rfl rfl rfl hb22 rfl) ?_
      refine wpR_q 9 (by kernel_rfl) rfl (quietAt_s rfl rfl rfl rfl hb22 rfl) ?_
      refine wpR_q 10 (by kernel_rfl) rfl (quietAt_s rfl rfl rfl rfl hb22 rfl) ?_
      refine wpR_q 11 (by kernel_rfl) rfl (quietAt_s rfl rfl rfl rfl hb22 rfl) ?_
      refine wpR_q 12 (by kernel_rfl) rfl (quietAt rfl rfl (q_pickT (v := B (true)) rfl hb22 rfl)) ?_
      refine wpR_end (by kernel_rfl) ?_
      exact ⟨a19_2, a19_3, a19_7, (Eq.trans rfl (congrArg B ((decide_eq_true (Or.inl hg21)).symm))), hS20o1⟩
    · have hb23 := Eq.trans rfl (congrArg B (decide_eq_false hg21))
      refine wpR_q 5 (by kernel_rfl) rfl (quietAt_g rfl rfl rfl rfl hb23 (q_move (v := I (signs)) rfl a19_1)) ?_
      refine wpR_q 6 (by kernel_rfl) rfl (quietAt_g rfl rfl rfl rfl hb23 (q_move (v := vl) rfl a19_2)) ?_
      refine wpR_q 8 (by kernel_rfl) rfl (quietAt_g rfl rfl rfl rfl hb23 (q_move (v := I (signs)) rfl a19_1)) ?_
      refine wpR_q 9 (by kernel_rfl) rfl (quietAt_g rfl rfl rfl rfl hb23 (q_move (v := vl) rfl a19_2)) ?_
      refine wpR_n [7] (by kernel_rfl) ?_
      refine List.forall_mem_cons.2 ⟨?_, List.forall_mem_nil _⟩
      refine exE_g rfl rfl rfl rfl hb23 ?_
      refine e_call rfl Try.call22 (arr2 (v0 := I (signs)) (v1 := vl) rfl rfl) (Text vl signs l (hS20o1.rdN 4 rfl)) ?_
      rintro _ H20o7 ⟨hxx, rfl⟩
      have hS20o7 : St H0 NoB NoB [blkE g14 (.cells #[I ((autoFault a).1), I ((autoFault a).2)] 24), blkE g1 (.cells #[I (a.Signs), vn, vt] 36), rdE vn (a.Next : List (List Int)), rdE vt (a.Takes : List Bool), rdE vl (l : List Int)] H20o7 := hS20o1.ext hxx
      refine ⟨Ext.mono hxx (fun _ h => h.elim), ?_⟩
      refine wpR_n [10] (by kernel_rfl) ?_
      refine List.forall_mem_cons.2 ⟨?_, List.forall_mem_nil _⟩
      refine exE_g rfl rfl rfl rfl hb23 ?_
      refine e_call rfl Try.call23 (arr2 (v0 := I (signs)) (v1 := vl) rfl rfl) (Text_R vl signs l (hS20o7.rdN 4 rfl)) ?_
      rintro _ H20o10 ⟨hxx, rfl⟩
      have hS20o10 : St H0 NoB NoB [blkE g14 (.cells #[I ((autoFault a).1), I ((autoFault a).2)] 24), blkE g1 (.cells #[I (a.Signs), vn, vt] 36), rdE vn (a.Next : List (List Int)), rdE vt (a.Takes : List Bool), rdE vl (l : List Int)] H20o10 := hS20o7.ext hxx
      refine ⟨Ext.mono hxx (fun _ h => h.elim), ?_⟩
      refine wpR_q 11 (by kernel_rfl) rfl (quietAt_g rfl rfl rfl rfl hb23 (q_neqF2 rfl Try.eqGuardType24 (fl24 _ _ _ _) rfl rfl)) ?_
      refine wpR_q 12 (by kernel_rfl) rfl (quietAt rfl rfl (q_pickF (v := B (decide (¬ (((textFault signs l).1) = ((textFault signs l).1) ∧ ((textFault signs l).2) = ((textFault signs l).2))))) rfl hb23 rfl)) ?_
      refine wpR_end (by kernel_rfl) ?_
      exact ⟨a19_2, a19_3, a19_7, (Eq.trans rfl (congrArg B (decide_congr_of ((Iff.rfl).trans (((or_iff_right hg21).trans Iff.rfl)).symm)))), hS20o10⟩
  rintro f24 H24 ⟨a24_2, a24_3, a24_7, a24_36, hS24⟩
  clear a19_1 a19_2 a19_3 a19_7
  refine wpF_condP a24_36 (fun hne => ?t108) (fun hne => ?e108)
  case t108 =>
    refine wpF_seq ?_
    refine wpF_cut (fun f H => f 6 = B (false) ∧ H24 = H) ?_ ?_
    · refine wpF_region ?_
      refine wpL_q (U := NoB) rfl (q_assign (v := B (false)) rfl rfl) ?_
      exact ⟨rfl, rfl⟩
    rintro f26 _ ⟨a26_6, rfl⟩
    clear a24_2 a24_3 a24_36 a24_7
    refine wpF_ret ?_
    refine ⟨_, resT a26_6 resN, hS24.frame, ?_⟩
    show (B (false)) = B true
    exfalso
    exact absurd hne (by simp)
  refine wpF_skip ?_
  refine wpF_seq ?_
  refine wpF_cut (fun f H => ∃ (g30 : Nat), f 2 = vl ∧ f 3 = PT g1 0 ∧ f 7 = PT g14 0 ∧ f 8 = B ((autoTakes a l).1) ∧ f 9 = PT g30 0 ∧ St H0 NoB NoB [blkE g30 (.cells #[I ((autoTakes a l).2.1), I ((autoTakes a l).2.2)] 24), blkE g14 (.cells #[I ((autoFault a).1), I ((autoFault a).2)] 24), blkE g1 (.cells #[I (a.Signs), vn, vt] 36), rdE vn (a.Next : List (List Int)), rdE vt (a.Takes : List Bool), rdE vl (l : List Int)] H) ?_ ?_
  · refine wpF_region ?_
    refine wpL_q (U := NoB) rfl (q_loadBlkA rfl a24_3 Try.isAgg36 Try.sizeOf36 rfl (hS24.blk 1 rfl) (fun h => h)) ?_
    refine wpL_q (U := NoB) rfl (q_move (v := vl) rfl a24_2) ?_
    refine wpL_o rfl ?_
    refine e_call rfl Try.call24 (arr2 (v0 := Value.agg #[I (a.Signs), vn, vt]) (v1 := vl) rfl rfl) (Takes vn vt vl a l (hS24.rdN 2 rfl) (hS24.rdN 3 rfl) hsg (hS24.rdN 4 rfl)) ?_
    rintro _ H27 ⟨hxx, rfl⟩
    have hS28 : St H0 NoB NoB [blkE g14 (.cells #[I ((autoFault a).1), I ((autoFault a).2)] 24), blkE g1 (.cells #[I (a.Signs), vn, vt] 36), rdE vn (a.Next : List (List Int)), rdE vt (a.Takes : List Bool), rdE vl (l : List Int)] H27 := hS24.ext hxx
    refine wpL_q (U := NoB) rfl (q_move (v := Value.tuple #[B ((autoTakes a l).1), Value.agg #[I ((autoTakes a l).2.1), I ((autoTakes a l).2.2)]]) rfl rfl) ?_
    refine wpL_q (U := NoB) rfl (q_extract (vs := #[B ((autoTakes a l).1), Value.agg #[I ((autoTakes a l).2.1), I ((autoTakes a l).2.2)]]) (v := B ((autoTakes a l).1)) rfl rfl rfl) ?_
    refine wpL_q (U := NoB) rfl (q_extract (vs := #[B ((autoTakes a l).1), Value.agg #[I ((autoTakes a l).2.1), I ((autoTakes a l).2.2)]]) (v := Value.agg #[I ((autoTakes a l).2.1), I ((autoTakes a l).2.2)]) rfl rfl rfl) ?_
    refine wpL_o rfl ?_
    refine e_alloc rfl Try.zeroValue24 hS28 (fun g30 H31 hS32 hxx => ?_)
    replace hS32 : St H0 NoB NoB [blkE g30 (.cells #[I (0), I (0)] 24), blkE g14 (.cells #[I ((autoFault a).1), I ((autoFault a).2)] 24), blkE g1 (.cells #[I (a.Signs), vn, vt] 36), rdE vn (a.Next : List (List Int)), rdE vt (a.Takes : List Bool), rdE vl (l : List Int)] H31 := hS32
    refine wpL_q (U := NoB) rfl (q_assign (v := B ((autoTakes a l).1)) rfl rfl) ?_
    refine wpL_o rfl ?_
    refine e_storeBlkA (cs' := #[I ((autoTakes a l).2.1), I ((autoTakes a l).2.2)]) rfl rfl rfl Try.sizeOf24 rfl rfl (List.forall_mem_cons.2 ⟨rfl, List.forall_mem_cons.2 ⟨rfl, List.forall_mem_nil _⟩⟩) hS32 (fun H33 hS34 hxx => ?_)
    replace hS34 : St H0 NoB NoB [blkE g30 (.cells #[I ((autoTakes a l).2.1), I ((autoTakes a l).2.2)] 24), blkE g14 (.cells #[I ((autoFault a).1), I ((autoFault a).2)] 24), blkE g1 (.cells #[I (a.Signs), vn, vt] 36), rdE vn (a.Next : List (List Int)), rdE vt (a.Takes : List Bool), rdE vl (l : List Int)] H33 := hS34
    exact ⟨g30, a24_2, a24_3, a24_7, rfl, rfl, hS34⟩
  rintro f35 H35 ⟨g30, a35_2, a35_3, a35_7, a35_8, a35_9, hS35⟩
  clear a24_2 a24_3 a24_36 a24_7
  refine wpF_seq ?_
  refine wpF_cut (fun f H => ∃ (r36 : Value), ∃ (r37 : Value), ∃ (g41 : Nat), ∃ (g44 : Nat), f 2 = vl ∧ f 3 = PT g1 0 ∧ f 7 = PT g14 0 ∧ f 8 = B ((autoTakes a l).1) ∧ f 9 = PT g30 0 ∧ f 10 = PT g41 0 ∧ f 11 = PT g44 0 ∧ St H0 NoB NoB [blkE g44 (.cells #[I ((autoNot a).2.1), I ((autoNot a).2.2)] 24), blkE g41 (.cells #[I ((autoNot a).1.Signs), r36, r37] 36), rdE r36 ((autoNot a).1.Next : List (List Int)), rdE r37 ((autoNot a).1.Takes : List Bool), blkE g30 (.cells #[I ((autoTakes a l).2.1), I ((autoTakes a l).2.2)] 24), blkE g14 (.cells #[I ((autoFault a).1), I ((autoFault a).2)] 24), blkE g1 (.cells #[I (a.Signs), vn, vt] 36), rdE vn (a.Next : List (List Int)), rdE vt (a.Takes : List Bool), rdE vl (l : List Int)] H) ?_ ?_
  · refine wpF_region ?_
    refine wpL_q (U := NoB) rfl (q_loadBlkA rfl a35_3 Try.isAgg36 Try.sizeOf36 rfl (hS35.blk 2 rfl) (fun h => h)) ?_
    refine wpL_o rfl ?_
    refine e_call rfl Try.call25 (arr1 (v0 := Value.agg #[I (a.Signs), vn, vt]) rfl) (Not vn vt a (hS35.rdS 3 rfl) (hS35.rdS 4 rfl) hsg) ?_
    rintro _ H38 ⟨hxx, r36, r37, rfl, hrr36, hrr37⟩
    have hS39 : St H0 NoB NoB [rdE r36 ((autoNot a).1.Next : List (List Int)), rdE r37 ((autoNot a).1.Takes : List Bool), blkE g30 (.cells #[I ((autoTakes a l).2.1), I ((autoTakes a l).2.2)] 24), blkE g14 (.cells #[I ((autoFault a).1), I ((autoFault a).2)] 24), blkE g1 (.cells #[I (a.Signs), vn, vt] 36), rdE vn (a.Next : List (List Int)), rdE vt (a.Takes : List Bool), rdE vl (l : List Int)] H38 := (hS35.res2 hxx hrr36 hrr37)
    refine wpL_q (U := NoB) rfl (q_move (v := Value.tuple #[Value.agg #[I ((autoNot a).1.Signs), r36, r37], Value.agg #[I ((autoNot a).2.1), I ((autoNot a).2.2)]]) rfl rfl) ?_
    refine wpL_q (U := NoB) rfl (q_extract (vs := #[Value.agg #[I ((autoNot a).1.Signs), r36, r37], Value.agg #[I ((autoNot a).2.1), I ((autoNot a).2.2)]]) (v := Value.agg #[I ((autoNot a).1.Signs), r36, r37]) rfl rfl rfl) ?_
    refine wpL_q (U := NoB) rfl (q_extract (vs := #[Value.agg #[I ((autoNot a).1.Signs), r36, r37], Value.agg #[I ((autoNot a).2.1), I ((autoNot a).2.2)]]) (v := Value.agg #[I ((autoNot a).2.1), I ((autoNot a).2.2)]) rfl rfl rfl) ?_
    refine wpL_o rfl ?_
    refine e_alloc rfl Try.zeroValue36 hS39 (fun g41 H42 hS43 hxx => ?_)
    replace hS43 : St H0 NoB NoB [blkE g41 (.cells #[I (0), (Value.slice none 0 0), (Value.slice none 0 0)] 36), rdE r36 ((autoNot a).1.Next : List (List Int)), rdE r37 ((autoNot a).1.Takes : List Bool), blkE g30 (.cells #[I ((autoTakes a l).2.1), I ((autoTakes a l).2.2)] 24), blkE g14 (.cells #[I ((autoFault a).1), I ((autoFault a).2)] 24), blkE g1 (.cells #[I (a.Signs), vn, vt] 36), rdE vn (a.Next : List (List Int)), rdE vt (a.Takes : List Bool), rdE vl (l : List Int)] H42 := hS43
    refine wpL_o rfl ?_
    refine e_alloc rfl Try.zeroValue24 hS43 (fun g44 H45 hS46 hxx => ?_)
    replace hS46 : St H0 NoB NoB [blkE g44 (.cells #[I (0), I (0)] 24), blkE g41 (.cells #[I (0), (Value.slice none 0 0), (Value.slice none 0 0)] 36), rdE r36 ((autoNot a).1.Next : List (List Int)), rdE r37 ((autoNot a).1.Takes : List Bool), blkE g30 (.cells #[I ((autoTakes a l).2.1), I ((autoTakes a l).2.2)] 24), blkE g14 (.cells #[I ((autoFault a).1), I ((autoFault a).2)] 24), blkE g1 (.cells #[I (a.Signs), vn, vt] 36), rdE vn (a.Next : List (List Int)), rdE vt (a.Takes : List Bool), rdE vl (l : List Int)] H45 := hS46
    refine wpL_o rfl ?_
    refine e_storeBlkA (cs' := #[I ((autoNot a).1.Signs), r36, r37]) rfl rfl rfl Try.sizeOf36 rfl rfl (List.forall_mem_cons.2 ⟨rfl, List.forall_mem_cons.2 ⟨(oneCell_rdL (hS46.rdl 2 rfl)), List.forall_mem_cons.2 ⟨(oneCell_rdL (hS46.rdl 3 rfl)), List.forall_mem_nil _⟩⟩⟩) (hS46.front 1 rfl) (fun H47 hS48 hxx => ?_)
    replace hS48 : St H0 NoB NoB [blkE g41 (.cells #[I ((autoNot a).1.Signs), r36, r37] 36), blkE g44 (.cells #[I (0), I (0)] 24), rdE r36 ((autoNot a).1.Next : List (List Int)), rdE r37 ((autoNot a).1.Takes : List Bool), blkE g30 (.cells #[I ((autoTakes a l).2.1), I ((autoTakes a l).2.2)] 24), blkE g14 (.cells #[I ((autoFault a).1), I ((autoFault a).2)] 24), blkE g1 (.cells #[I (a.Signs), vn, vt] 36), rdE vn (a.Next : List (List Int)), rdE vt (a.Takes : List Bool), rdE vl (l : List Int)] H47 := hS48
    refine wpL_o rfl ?_
    refine e_storeBlkA (cs' := #[I ((autoNot a).2.1), I ((autoNot a).2.2)]) rfl rfl rfl Try.sizeOf24 rfl rfl (List.forall_mem_cons.2 ⟨rfl, List.forall_mem_cons.2 ⟨rfl, List.forall_mem_nil _⟩⟩) (hS48.front 1 rfl) (fun H49 hS50 hxx => ?_)
    replace hS50 : St H0 NoB NoB [blkE g44 (.cells #[I ((autoNot a).2.1), I ((autoNot a).2.2)] 24), blkE g41 (.cells #[I ((autoNot a).1.Signs), r36, r37] 36), rdE r36 ((autoNot a).1.Next : List (List Int)), rdE r37 ((autoNot a).1.Takes : List Bool), blkE g30 (.cells #[I ((autoTakes a l).2.1), I ((autoTakes a l).2.2)] 24), blkE g14 (.cells #[I ((autoFault a).1), I ((autoFault a).2)] 24), blkE g1 (.cells #[I (a.Signs), vn, vt] 36), rdE vn (a.Next : List (List Int)), rdE vt (a.Takes : List Bool), rdE vl (l : List Int)] H49 := hS50
    exact ⟨r36, r37, g41, g44, a35_2, a35_3, a35_7, a35_8, a35_9, rfl, rfl, hS50⟩
  rintro f51 H51 ⟨r36, r37, g41, g44, a51_2, a51_3, a51_7, a51_8, a51_9, a51_10, a51_11, hS51⟩
  clear a35_2 a35_3 a35_7 a35_8 a35_9
  refine wpF_seq ?_
  refine wpF_seq ?_
  refine wpF_cut (fun f H => f 2 = vl ∧ f 3 = PT g1 0 ∧ f 7 = PT g14 0 ∧ f 8 = B ((autoTakes a l).1) ∧ f 9 = PT g30 0 ∧ f 10 = PT g41 0 ∧ f 11 = PT g44 0 ∧ f 50 = B (decide (((autoFault a).1) ≠ 0)) ∧ H51 = H) ?_ ?_
  · refine wpF_region ?_
    refine wpL_q (U := NoB) rfl (q_fieldAddr rfl Try.underlying24 rfl Try.sizeOf3 a51_7) ?_
    refine wpL_q (U := NoB) rfl (q_loadBlk rfl rfl Try.isAgg3 (hS51.blk 5 rfl) rfl (fun h => h)) ?_
    refine wpL_q (U := NoB) rfl (q_neq rfl rfl rfl) ?_
    exact ⟨a51_2, a51_3, a51_7, a51_8, a51_9, a51_10, a51_11, rfl, rfl⟩
  rintro f52 _ ⟨a52_2, a52_3, a52_7, a52_8, a52_9, a52_10, a52_11, a52_50, rfl⟩
  clear a51_10 a51_11 a51_2 a51_3 a51_7 a51_8 a51_9
  refine wpF_condP a52_50 (fun hw0 => ?t107) (fun hw0 => ?e107)
  case t107 =>
    refine wpF_seq ?_
    refine wpF_cut (fun f H => f 6 = B (decide ((((((autoTakes a l).2.1) = ((autoFault a).1) ∧ ((autoTakes a l).2.2) = ((autoFault a).2)) ∧ (((autoNot a).2.1) = ((autoFault a).1) ∧ ((autoNot a).2.2) = ((autoFault a).2))) ∧ ((!((autoTakes a l).1)) = true)) ∧ ((((autoNot a).1.Next).length : Int) = 0))) ∧ H51 = H) ?_ ?_
    · refine wpF_region ?_
      refine wpL_q (U := NoB) rfl (q_loadBlkA rfl a52_9 Try.isAgg24 Try.sizeOf24 rfl (hS51.blk 4 rfl) (fun h => h)) ?_
      refine wpL_q (U := NoB) rfl (q_loadBlkA rfl a52_7 Try.isAgg24 Try.sizeOf24 rfl (hS51.blk 5 rfl) (fun h => h)) ?_
      refine wpL_q (U := NoB) rfl (q_eqlF2 rfl Try.eqGuardType24 (fl24 _ _ _ _) rfl rfl) ?_
      refine wpL_q (U := NoB) rfl (q_move (v := B (decide (((autoTakes a l).2.1) = ((autoFault a).1) ∧ ((autoTakes a l).2.2) = ((autoFault a).2)))) rfl rfl) ?_
      by_cases hg54 : ((autoTakes a l).2.1) = ((autoFault a).1) ∧ ((autoTakes a l).2.2) = ((autoFault a).2)
      · have hb55 := Eq.trans rfl (congrArg B (decide_eq_true hg54))
        refine wpL_gq (U := NoB) rfl rfl rfl hb55 (q_loadBlkA rfl a52_11 Try.isAgg24 Try.sizeOf24 rfl (hS51.blk 0 rfl) (fun h => h)) ?_
        refine wpL_gq (U := NoB) rfl rfl rfl hb55 (q_loadBlkA rfl a52_7 Try.isAgg24 Try.sizeOf24 rfl (hS51.blk 5 rfl) (fun h => h)) ?_
        refine wpL_gq (U := NoB) rfl rfl rfl hb55 (q_eqlF2 rfl Try.eqGuardType24 (fl24 _ _ _ _) rfl rfl) ?_
        refine wpL_q (U := NoB) rfl (q_pickT (v := B (decide (((autoNot a).2.1) = ((autoFault a).1) ∧ ((autoNot a).2.2) = ((autoFault a).2)))) rfl hb55 rfl) ?_
        refine wpL_q (U := NoB) rfl (q_move (v := B (decide (((autoNot a).2.1) = ((autoFault a).1) ∧ ((autoNot a).2.2) = ((autoFault a).2)))) rfl rfl) ?_
        by_cases hg57 : ((autoNot a).2.1) = ((autoFault a).1) ∧ ((autoNot a).2.2) = ((autoFault a).2)
        · have hb58 := Eq.trans rfl (congrArg B (decide_eq_true hg57))
          refine wpL_gq (U := NoB) rfl rfl rfl hb58 (q_move (v := B ((autoTakes a l).1)) rfl a52_8) ?_
          refine wpL_gq (U := NoB) rfl rfl rfl hb58 (q_not rfl rfl) ?_
          refine wpL_q (U := NoB) rfl (q_pickT (v := B (!((autoTakes a l).1))) rfl hb58 rfl) ?_
          refine wpL_q (U := NoB) rfl (q_move (v := B (!((autoTakes a l).1))) rfl rfl) ?_
          by_cases hg60 : (!((autoTakes a l).1)) = true
          · have hb61 := Eq.trans rfl (congrArg B hg60)
            refine wpL_gq (U := NoB) rfl rfl rfl hb61 (q_fieldAddr rfl Try.underlying36 rfl Try.sizeOf27 a52_10) ?_
            refine wpL_gq (U := NoB) rfl rfl rfl hb61 (q_loadBlk rfl rfl Try.isAgg27 (hS51.blk 1 rfl) rfl (fun h => h)) ?_
            refine wpL_gq (U := NoB) rfl rfl rfl hb61 (q_lenRd rfl Try.underlying27 rfl (hS51.rdl 2 rfl)) ?_
            refine wpL_gq (U := NoB) rfl rfl rfl hb61 (q_eql rfl rfl rfl) ?_
            refine wpL_q (U := NoB) rfl (q_pickT (v := B (decide ((((autoNot a).1.Next).length : Int) = 0))) rfl hb61 rfl) ?_
            refine wpL_q (U := NoB) rfl (q_assign (v := B (decide ((((autoNot a).1.Next).length : Int) = 0))) rfl rfl) ?_
            exact ⟨(Eq.trans rfl (congrArg B (decide_congr_of ((Iff.rfl).trans (((and_iff_right ⟨⟨hg54, hg57⟩, hg60⟩).trans Iff.rfl)).symm)))), rfl⟩
          · have hb62 := Eq.trans rfl (congrArg B (Bool.eq_false_iff.2 hg60))
            refine wpL_gs rfl rfl rfl hb62 rfl ?_
            refine wpL_gs rfl rfl rfl hb62 rfl ?_
            refine wpL_gs rfl rfl rfl hb62 rfl ?_
            refine wpL_gs rfl rfl rfl hb62 rfl ?_
            refine wpL_q (U := NoB) rfl (q_pickF (v := B (false)) rfl hb62 rfl) ?_
            refine wpL_q (U := NoB) rfl (q_assign (v := B (false)) rfl rfl) ?_
            exact ⟨(Eq.trans rfl (congrArg B ((decide_eq_false (fun h => (fun h => hg60 h.2) h.1)).symm))), rfl⟩
        · have hb59 := Eq.trans rfl (congrArg B (decide_eq_false hg57))
          refine wpL_gs rfl rfl rfl hb59 rfl ?_
          refine wpL_gs rfl rfl rfl hb59 rfl ?_
          refine wpL_q (U := NoB) rfl (q_pickF (v := B (false)) rfl hb59 rfl) ?_
          refine wpL_q (U := NoB) rfl (q_move (v := B (false)) rfl rfl) ?_
          refine wpL_gs rfl rfl rfl rfl rfl ?_
          refine wpL_gs rfl rfl rfl rfl rfl ?_
          refine wpL_gs rfl rfl rfl rfl rfl ?_
          refine wpL_gs rfl rfl rfl rfl rfl ?_
          refine wpL_q (U := NoB) rfl (q_pickF (v := B (false)) rfl rfl rfl) ?_
          refine wpL_q (U := NoB) rfl (q_assign (v := B (false)) rfl rfl) ?_
          exact ⟨(Eq.trans rfl (congrArg B ((decide_eq_false (fun h => (fun h => (fun h => hg57 h.2) h.1) h.1)).symm))), rfl⟩
      · have hb56 := Eq.trans rfl (congrArg B (decide_eq_false hg54))
        refine wpL_gs rfl rfl rfl hb56 rfl ?_
        refine wpL_gs rfl rfl rfl hb56 rfl ?_
        refine wpL_gs rfl rfl rfl hb56 rfl ?_
        refine wpL_q (U := NoB) rfl (q_pickF (v := B (false)) rfl hb56 rfl) ?_
        refine wpL_q (U := NoB) rfl (q_move (v := B (false)) rfl rfl) ?_
        refine wpL_gs rfl rfl rfl rfl rfl ?_
        refine wpL_gs rfl rfl rfl rfl rfl ?_
        refine wpL_q (U := NoB) rfl (q_pickF (v := B (false)) rfl rfl rfl) ?_
        refine wpL_q (U := NoB) rfl (q_move (v := B (false)) rfl rfl) ?_
        refine wpL_gs rfl rfl rfl rfl rfl ?_
        refine wpL_gs rfl rfl rfl rfl rfl ?_
        refine wpL_gs rfl rfl rfl rfl rfl ?_
        refine wpL_gs rfl rfl rfl rfl rfl ?_
        refine wpL_q (U := NoB) rfl (q_pickF (v := B (false)) rfl rfl rfl) ?_
        refine wpL_q (U := NoB) rfl (q_assign (v := B (false)) rfl rfl) ?_
        exact ⟨(Eq.trans rfl (congrArg B ((decide_eq_false (fun h => (fun h => (fun h => hg54 h.1) h.1) h.1)).symm))), rfl⟩
    rintro f63 _ ⟨a63_6, rfl⟩
    clear a52_10 a52_11 a52_2 a52_3 a52_50 a52_7 a52_8 a52_9
    refine wpF_ret ?_
    refine ⟨_, resT a63_6 resN, hS51.frame, ?_⟩
    show (B (decide ((((((autoTakes a l).2.1) = ((autoFault a).1) ∧ ((autoTakes a l).2.2) = ((autoFault a).2)) ∧ (((autoNot a).2.1) = ((autoFault a).1) ∧ ((autoNot a).2.2) = ((autoFault a).2))) ∧ ((!((autoTakes a l).1)) = true)) ∧ ((((autoNot a).1.Next).length : Int) = 0)))) = B true
    exact congrArg B (decide_eq_true (by simp [autoTakes, autoNot, hw0]))
  have hz := Decidable.of_not_not hw0
  have hW := WF.of hz
  have hm := hW.takes
  have hm2 := hW.many
  have hN : autoNot a = (⟨a.Signs, a.Next, a.Takes.map (!·)⟩, 0, 0) := by rw [autoNot, if_neg hw0]
  refine wpF_skip ?_
  refine wpF_seq ?_
  refine wpF_seq ?_
  refine wpF_cut (fun f H => f 2 = vl ∧ f 3 = PT g1 0 ∧ f 7 = PT g14 0 ∧ f 8 = B ((autoTakes a l).1) ∧ f 9 = PT g30 0 ∧ f 10 = PT g41 0 ∧ f 95 = B (decide ((((((autoNot a).2.1) ≠ 0) ∨ (((autoNot a).1.Signs) ≠ a.Signs)) ∨ (¬ (a.Next = ((autoNot a).1.Next)))) ∨ ((((autoNot a).1.Takes).length : Int) ≠ (a.Takes.length : Int)))) ∧ St H0 NoB NoB [blkE g44 (.cells #[I ((autoNot a).2.1), I ((autoNot a).2.2)] 24), blkE g41 (.cells #[I ((autoNot a).1.Signs), r36, r37] 36), rdE r36 ((autoNot a).1.Next : List (List Int)), rdE r37 ((autoNot a).1.Takes : List Bool), blkE g30 (.cells #[I ((autoTakes a l).2.1), I ((autoTakes a l).2.2)] 24), blkE g14 (.cells #[I ((autoFault a).1), I ((autoFault a).2)] 24), blkE g1 (.cells #[I (a.Signs), vn, vt] 36), rdE vn (a.Next : List (List Int)), rdE vt (a.Takes : List Bool), rdE vl (l : List Int)] H) ?_ ?_
  · refine wpF_region ?_
    refine wpL_q (U := NoB) rfl (q_fieldAddr rfl Try.underlying24 rfl Try.sizeOf3 a52_11) ?_
    refine wpL_q (U := NoB) rfl (q_loadBlk rfl rfl Try.isAgg3 (hS51.blk 0 rfl) rfl (fun h => h)) ?_
    refine wpL_q (U := NoB) rfl (q_neq rfl rfl rfl) ?_
    refine wpL_q (U := NoB) rfl (q_move (v := B (decide (((autoNot a).2.1) ≠ 0))) rfl rfl) ?_
    by_cases hg64 : ((autoNot a).2.1) ≠ 0
    · have hb65 := Eq.trans rfl (congrArg B (decide_eq_true hg64))
      refine wpL_gs rfl rfl rfl hb65 rfl ?_
      refine wpL_gs rfl rfl rfl hb65 rfl ?_
      refine wpL_gs rfl rfl rfl hb65 rfl ?_
      refine wpL_gs rfl rfl rfl hb65 rfl ?_
      refine wpL_gs rfl rfl rfl hb65 rfl ?_
      refine wpL_q (U := NoB) rfl (q_pickT (v := B (true)) rfl hb65 rfl) ?_
      refine wpL_q (U := NoB) rfl (q_move (v := B (true)) rfl rfl) ?_
      refine wpL_gs rfl rfl rfl rfl rfl ?_
      refine wpL_gs rfl rfl rfl rfl rfl ?_
      refine wpL_gs rfl rfl rfl rfl rfl ?_
      refine wpL_gs rfl rfl rfl rfl rfl ?_
      refine wpL_gs rfl rfl rfl rfl rfl ?_
      refine wpL_gs rfl rfl rfl rfl rfl ?_
      refine wpL_q (U := NoB) rfl (q_pickT (v := B (true)) rfl rfl rfl) ?_
      refine wpL_q (U := NoB) rfl (q_move (v := B (true)) rfl rfl) ?_
      refine wpL_gs rfl rfl rfl rfl rfl ?_
      refine wpL_gs rfl rfl rfl rfl rfl ?_
      refine wpL_gs rfl rfl rfl rfl rfl ?_
      refine wpL_gs rfl rfl rfl rfl rfl ?_
      refine wpL_gs rfl rfl rfl rfl rfl ?_
      refine wpL_gs rfl rfl rfl rfl rfl ?_
      refine wpL_gs rfl rfl rfl rfl rfl ?_
      refine wpL_q (U := NoB) rfl (q_pickT (v := B (true)) rfl rfl rfl) ?_
      exact ⟨a52_2, a52_3, a52_7, a52_8, a52_9, a52_10, (Eq.trans rfl (congrArg B ((decide_eq_true (Or.inl (Or.inl (Or.inl hg64)))).symm))), hS51⟩
    · have hb66 := Eq.trans rfl (congrArg B (decide_eq_false hg64))
      refine wpL_gq (U := NoB) rfl rfl rfl hb66 (q_fieldAddr rfl Try.underlying36 rfl Try.sizeOf3 a52_10) ?_
      refine wpL_gq (U := NoB) rfl rfl rfl hb66 (q_loadBlk rfl rfl Try.isAgg3 (hS51.blk 1 rfl) rfl (fun h => h)) ?_
      refine wpL_gq (U := NoB) rfl rfl rfl hb66 (q_fieldAddr rfl Try.underlying36 rfl Try.sizeOf3 a52_3) ?_
      refine wpL_gq (U := NoB) rfl rfl rfl hb66 (q_loadBlk rfl rfl Try.isAgg3 (hS51.blk 6 rfl) rfl (fun h => h)) ?_
      refine wpL_gq (U := NoB) rfl rfl rfl hb66 (q_neq rfl rfl rfl) ?_
      refine wpL_q (U := NoB) rfl (q_pickF (v := B (decide (((autoNot a).1.Signs) ≠ a.Signs))) rfl hb66 rfl) ?_
      refine wpL_q (U := NoB) rfl (q_move (v := B (decide (((autoNot a).1.Signs) ≠ a.Signs))) rfl rfl) ?_
      by_cases hg67 : ((autoNot a).1.Signs) ≠ a.Signs
      · have hb68 := Eq.trans rfl (congrArg B (decide_eq_true hg67))
        refine wpL_gs rfl rfl rfl hb68 rfl ?_
        refine wpL_gs rfl rfl rfl hb68 rfl ?_
        refine wpL_gs rfl rfl rfl hb68 rfl ?_
        refine wpL_gs rfl rfl rfl hb68 rfl ?_
        refine wpL_gs rfl rfl rfl hb68 rfl ?_
        refine wpL_gs rfl rfl rfl hb68 rfl ?_
        refine wpL_q (U := NoB) rfl (q_pickT (v := B (true)) rfl hb68 rfl) ?_
        refine wpL_q (U := NoB) rfl (q_move (v := B (true)) rfl rfl) ?_
        refine wpL_gs rfl rfl rfl rfl rfl ?_
        refine wpL_gs rfl rfl rfl rfl rfl ?_
        refine wpL_gs rfl rfl rfl rfl rfl ?_
        refine wpL_gs rfl rfl rfl rfl rfl ?_
        refine wpL_gs rfl rfl rfl rfl rfl ?_
        refine wpL_gs rfl rfl rfl rfl rfl ?_
        refine wpL_gs rfl rfl rfl rfl rfl ?_
        refine wpL_q (U := NoB) rfl (q_pickT (v := B (true)) rfl rfl rfl) ?_
        exact ⟨a52_2, a52_3, a52_7, a52_8, a52_9, a52_10, (Eq.trans rfl (congrArg B ((decide_eq_true (Or.inl (Or.inl (Or.inr hg67)))).symm))), hS51⟩
      · have hb69 := Eq.trans rfl (congrArg B (decide_eq_false hg67))
        refine wpL_gq (U := NoB) rfl rfl rfl hb69 (q_fieldAddr rfl Try.underlying36 rfl Try.sizeOf27 a52_3) ?_
        refine wpL_gq (U := NoB) rfl rfl rfl hb69 (q_loadBlk rfl rfl Try.isAgg27 (hS51.blk 6 rfl) rfl (fun h => h)) ?_
        refine wpL_gq (U := NoB) rfl rfl rfl hb69 (q_fieldAddr rfl Try.underlying36 rfl Try.sizeOf27 a52_10) ?_
        refine wpL_gq (U := NoB) rfl rfl rfl hb69 (q_loadBlk rfl rfl Try.isAgg27 (hS51.blk 1 rfl) rfl (fun h => h)) ?_
        refine wpL_go rfl rfl rfl hb69 ?_
        refine e_call rfl Try.call19 (arr2 (v0 := vn) (v1 := r36) rfl rfl) (rows_L vn r36 _ _ (hS51.rdN 7 rfl) (hS51.rdN 2 rfl)) ?_
        rintro _ H70 ⟨hxx, rfl⟩
        have hS71 : St H0 NoB NoB [blkE g44 (.cells #[I ((autoNot a).2.1), I ((autoNot a).2.2)] 24), blkE g41 (.cells #[I ((autoNot a).1.Signs), r36, r37] 36), rdE r36 ((autoNot a).1.Next : List (List Int)), rdE r37 ((autoNot a).1.Takes : List Bool), blkE g30 (.cells #[I ((autoTakes a l).2.1), I ((autoTakes a l).2.2)] 24), blkE g14 (.cells #[I ((autoFault a).1), I ((autoFault a).2)] 24), blkE g1 (.cells #[I (a.Signs), vn, vt] 36), rdE vn (a.Next : List (List Int)), rdE vt (a.Takes : List Bool), rdE vl (l : List Int)] H70 := hS51.ext hxx
        refine wpL_gq (U := NoB) rfl rfl rfl hb69 (q_notP rfl rfl) ?_
        refine wpL_q (U := NoB) rfl (q_pickF (v := B (decide (¬ (a.Next = ((autoNot a).1.Next))))) rfl hb69 rfl) ?_
        refine wpL_q (U := NoB) rfl (q_move (v := B (decide (¬ (a.Next = ((autoNot a).1.Next))))) rfl rfl) ?_
        by_cases hg73 : ¬ (a.Next = ((autoNot a).1.Next))
        · have hb74 := Eq.trans rfl (congrArg B (decide_eq_true hg73))
          refine wpL_gs rfl rfl rfl hb74 rfl ?_
          refine wpL_gs rfl rfl rfl hb74 rfl ?_
          refine wpL_gs rfl rfl rfl hb74 rfl ?_
          refine wpL_gs rfl rfl rfl hb74 rfl ?_
          refine wpL_gs rfl rfl rfl hb74 rfl ?_
          refine wpL_gs rfl rfl rfl hb74 rfl ?_
          refine wpL_gs rfl rfl rfl hb74 rfl ?_
          refine wpL_q (U := NoB) rfl (q_pickT (v := B (true)) rfl hb74 rfl) ?_
          exact ⟨a52_2, a52_3, a52_7, a52_8, a52_9, a52_10, (Eq.trans rfl (congrArg B ((decide_eq_true (Or.inl (Or.inr hg73))).symm))), hS71⟩
        · have hb75 := Eq.trans rfl (congrArg B (decide_eq_false hg73))
          refine wpL_gq (U := NoB) rfl rfl rfl hb75 (q_fieldAddr rfl Try.underlying36 rfl Try.sizeOf32 a52_10) ?_
          refine wpL_gq (U := NoB) rfl rfl rfl hb75 (q_loadBlk rfl rfl Try.isAgg32 (hS71.blk 1 rfl) rfl (fun h => h)) ?_
          refine wpL_gq (U := NoB) rfl rfl rfl hb75 (q_lenRd rfl Try.underlying32 rfl (hS71.rdl 3 rfl)) ?_
          refine wpL_gq (U := NoB) rfl rfl rfl hb75 (q_fieldAddr rfl Try.underlying36 rfl Try.sizeOf32 a52_3) ?_
          refine wpL_gq (U := NoB) rfl rfl rfl hb75 (q_loadBlk rfl rfl Try.isAgg32 (hS71.blk 6 rfl) rfl (fun h => h)) ?_
          refine wpL_gq (U := NoB) rfl rfl rfl hb75 (q_lenRd rfl Try.underlying32 rfl (hS71.rdl 8 rfl)) ?_
          refine wpL_gq (U := NoB) rfl rfl rfl hb75 (q_neq rfl rfl rfl) ?_
          refine wpL_q (U := NoB) rfl (q_pickF (v := B (decide ((((autoNot a).1.Takes).length : Int) ≠ (a.Takes.length : Int)))) rfl hb75 rfl) ?_
          exact ⟨a52_2, a52_3, a52_7, a52_8, a52_9, a52_10, (Eq.trans rfl (congrArg B (decide_congr_of ((Iff.rfl).trans (((or_iff_right (not_or.2 ⟨(not_or.2 ⟨hg64, hg67⟩), hg73⟩)).trans Iff.rfl)).symm)))), hS71⟩
  rintro f76 H76 ⟨a76_2, a76_3, a76_7, a76_8, a76_9, a76_10, a76_95, hS76⟩
  clear a52_10 a52_11 a52_2 a52_3 a52_50 a52_7 a52_8 a52_9
  refine wpF_condP a76_95 (fun hno => ?t106) (fun hno => ?e106)
  case t106 =>
    refine wpF_seq ?_
    refine wpF_cut (fun f H => f 6 = B (false) ∧ H76 = H) ?_ ?_
    · refine wpF_region ?_
      refine wpL_q (U := NoB) rfl (q_assign (v := B (false)) rfl rfl) ?_
      exact ⟨rfl, rfl⟩
    rintro f78 _ ⟨a78_6, rfl⟩
    clear a76_10 a76_2 a76_3 a76_7 a76_8 a76_9 a76_95
    refine wpF_ret ?_
    refine ⟨_, resT a78_6 resN, hS76.frame, ?_⟩
    show (B (false)) = B true
    exfalso
    rw [hN] at hno
    simp at hno
  refine wpF_skip ?_
  refine wpF_seq ?_
  refine wpF_seq ?_
  refine wpF_cut (fun f H => f 2 = vl ∧ f 3 = PT g1 0 ∧ f 7 = PT g14 0 ∧ f 8 = B ((autoTakes a l).1) ∧ f 9 = PT g30 0 ∧ f 10 = PT g41 0 ∧ f 12 = I (0) ∧ H76 = H) ?_ ?_
  · refine wpF_region ?_
    refine wpL_q (U := NoB) rfl (q_assign (v := I (0)) rfl rfl) ?_
    exact ⟨a76_2, a76_3, a76_7, a76_8, a76_9, a76_10, rfl, rfl⟩
  rintro f79 _ ⟨a79_2, a79_3, a79_7, a79_8, a79_9, a79_10, a79_12, rfl⟩
  clear a76_10 a76_2 a76_3 a76_7 a76_8 a76_9 a76_95
  refine wpF_block ?_
  refine wpF_loop (fun mz f H => ∃ (k : Nat), mz = a.Takes.length - k ∧ (k ≤ a.Takes.length) ∧ f 2 = vl ∧ f 3 = PT g1 0 ∧ f 7 = PT g14 0 ∧ f 8 = B ((autoTakes a l).1) ∧ f 9 = PT g30 0 ∧ f 10 = PT g41 0 ∧ f 12 = I ((k : Int)) ∧ H76 = H) (a.Takes.length - 0) ?_ ?_
  · exact ⟨0, rfl, Nat.zero_le _, a79_2, a79_3, a79_7, a79_8, a79_9, a79_10, (Eq.trans a79_12 (congrArg I (by omega))), rfl⟩
  intro m80 f80 H80 hI80
  obtain ⟨k, hm80, hk, a80_2, a80_3, a80_7, a80_8, a80_9, a80_10, a80_12, rfl⟩ := hI80
  clear a79_10 a79_12 a79_2 a79_3 a79_7 a79_8 a79_9
  refine wpF_seq ?_
  refine wpF_seq ?_
  refine wpF_cut (fun f H => f 2 = vl ∧ f 3 = PT g1 0 ∧ f 7 = PT g14 0 ∧ f 8 = B ((autoTakes a l).1) ∧ f 9 = PT g30 0 ∧ f 10 = PT g41 0 ∧ f 12 = I ((k : Int)) ∧ f 100 = B (decide ((k : Int) < (a.Takes.length : Int))) ∧ H76 = H) ?_ ?_
  · refine wpF_region ?_
    refine wpL_q (U := NoB) rfl (q_move (v := I ((k : Int))) rfl a80_12) ?_
    refine wpL_q (U := NoB) rfl (q_fieldAddr rfl Try.underlying36 rfl Try.sizeOf32 a80_3) ?_
    refine wpL_q (U := NoB) rfl (q_loadBlk rfl rfl Try.isAgg32 (hS76.blk 6 rfl) rfl (fun h => h)) ?_
    refine wpL_q (U := NoB) rfl (q_lenRd rfl Try.underlying32 rfl (hS76.rdl 8 rfl)) ?_
    refine wpL_q (U := NoB) rfl (q_lss rfl rfl rfl) ?_
    exact ⟨a80_2, a80_3, a80_7, a80_8, a80_9, a80_10, a80_12, rfl, rfl⟩
  rintro f81 _ ⟨a81_2, a81_3, a81_7, a81_8, a81_9, a81_10, a81_12, a81_100, rfl⟩
  clear a80_10 a80_12 a80_2 a80_3 a80_7 a80_8 a80_9
  refine wpF_condP a81_100 (fun hlt => ?t105) (fun hlt => ?e105)
  case t105 =>
    refine wpF_skip ?_
    refine wpF_seq ?_
    refine wpF_block ?_
    refine wpF_seq ?_
    refine wpF_cut (fun f H => f 2 = vl ∧ f 3 = PT g1 0 ∧ f 7 = PT g14 0 ∧ f 8 = B ((autoTakes a l).1) ∧ f 9 = PT g30 0 ∧ f 10 = PT g41 0 ∧ f 12 = I ((k : Int)) ∧ f 113 = B (decide ((nth a.Takes k) = (nth ((autoNot a).1.Takes) k))) ∧ H76 = H) ?_ ?_
    · refine wpF_drawn [] [] (fun _ _ => False) (by kernel_rfl) (by kernel_rfl) ?_
      refine wpR_q 0 (by kernel_rfl) rfl (quietAt rfl rfl (q_fieldAddr rfl Try.underlying36 rfl Try.sizeOf32 a81_3)) ?_
      refine wpR_q 1 (by kernel_rfl) rfl (quietAt rfl rfl (q_loadBlk rfl rfl Try.isAgg32 (hS76.blk 6 rfl) rfl (labU_not [] rfl (List.forall_mem_nil _)))) ?_
      refine wpR_q 2 (by kernel_rfl) rfl (quietAt rfl rfl (q_move (v := I ((k : Int))) rfl a81_12)) ?_
      refine wpR_q 3 (by kernel_rfl) rfl (quietAt rfl rfl (q_indexRd (k := k) rfl Try.underlying32 el_Bool_4 rfl rfl (hS76.rdl 8 rfl) (by omega) (by omega))) ?_
      refine wpR_q 4 (by kernel_rfl) rfl (quietAt rfl rfl (q_loadBool (k := k) rfl rfl el_Bool_4 (hS76.rdl 8 rfl) (by omega) (labU_sub [] rfl (List.forall_mem_nil _)))) ?_
      refine wpR_q 5 (by kernel_rfl) rfl (quietAt rfl rfl (q_fieldAddr rfl Try.underlying36 rfl Try.sizeOf32 a81_10)) ?_
      refine wpR_q 6 (by kernel_rfl) rfl (quietAt rfl rfl (q_loadBlk rfl rfl Try.isAgg32 (hS76.blk 1 rfl) rfl (labU_not [] rfl (List.forall_mem_nil _)))) ?_
      refine wpR_q 7 (by kernel_rfl) rfl (quietAt rfl rfl (q_move (v := I ((k : Int))) rfl a81_12)) ?_
      refine wpR_q 8 (by kernel_rfl) rfl (quietAt rfl rfl (q_indexRd (k := k) rfl Try.underlying32 el_Bool_4 rfl rfl (hS76.rdl 3 rfl) (by omega) (by omega))) ?_
      refine wpR_q 9 (by kernel_rfl) rfl (quietAt rfl rfl (q_loadBool (k := k) rfl rfl el_Bool_4 (hS76.rdl 3 rfl) (by omega) (labU_sub [] rfl (List.forall_mem_nil _)))) ?_
      refine wpR_q 10 (by kernel_rfl) rfl (quietAt rfl rfl (q_eqlB rfl Try.underlying4 rfl rfl)) ?_
      refine wpR_end (by kernel_rfl) ?_
      exact ⟨a81_2, a81_3, a81_7, a81_8, a81_9, a81_10, a81_12, rfl, rfl⟩
    rintro f84 _ ⟨a84_2, a84_3, a84_7, a84_8, a84_9, a84_10, a84_12, a84_113, rfl⟩
    clear a81_10 a81_100 a81_12 a81_2 a81_3 a81_7 a81_8 a81_9
    refine wpF_condP a84_113 (fun heq => ?t88) (fun heq => ?e88)
    case e88 =>
      refine wpF_skip ?_
      refine wpF_cut (fun f H => f 2 = vl ∧ f 3 = PT g1 0 ∧ f 7 = PT g14 0 ∧ f 8 = B ((autoTakes a l).1) ∧ f 9 = PT g30 0 ∧ f 10 = PT g41 0 ∧ f 12 = I ((k : Int) + 1) ∧ H76 = H) ?_ ?_
      · refine wpF_region ?_
        refine wpL_q (U := NoB) rfl (q_move (v := I ((k : Int))) rfl a84_12) ?_
        refine wpL_q (U := NoB) rfl (q_add rfl rfl rfl (by constructor <;> omega)) ?_
        refine wpL_q (U := NoB) rfl (q_assign (v := I ((k : Int) + 1)) rfl rfl) ?_
        exact ⟨a84_2, a84_3, a84_7, a84_8, a84_9, a84_10, rfl, rfl⟩
      rintro f87 _ ⟨a87_2, a87_3, a87_7, a87_8, a87_9, a87_10, a87_12, rfl⟩
      clear a84_10 a84_113 a84_12 a84_2 a84_3 a84_7 a84_8 a84_9
      refine ⟨_, ?_, k + 1, rfl, (by omega), a87_2, a87_3, a87_7, a87_8, a87_9, a87_10, (Eq.trans a87_12 (congrArg I (by omega))), rfl⟩
      omega
    refine wpF_seq ?_
    refine wpF_cut (fun f H => f 6 = B (false) ∧ H76 = H) ?_ ?_
    · refine wpF_region ?_
      refine wpL_q (U := NoB) rfl (q_assign (v := B (false)) rfl rfl) ?_
      exact ⟨rfl, rfl⟩
    rintro f86 _ ⟨a86_6, rfl⟩
    clear a84_10 a84_113 a84_12 a84_2 a84_3 a84_7 a84_8 a84_9
    refine wpF_ret ?_
    refine ⟨_, resT a86_6 resN, hS76.frame, ?_⟩
    show (B (false)) = B true
    exfalso
    simp only [hN] at heq
    rw [nth_map_not (by omega)] at heq
    simp at heq
  refine wpF_exit ?_
  refine atX_here ?_
  refine wpF_seq ?_
  refine wpF_cut (fun f H => f 2 = vl ∧ f 3 = PT g1 0 ∧ f 7 = PT g14 0 ∧ f 8 = B ((autoTakes a l).1) ∧ f 9 = PT g30 0 ∧ St H0 NoB NoB [blkE g14 (.cells #[I ((textFault a.Signs l).1), I ((textFault a.Signs l).2)] 24), blkE g44 (.cells #[I ((autoNot a).2.1), I ((autoNot a).2.2)] 24), blkE g41 (.cells #[I ((autoNot a).1.Signs), r36, r37] 36), rdE r36 ((autoNot a).1.Next : List (List Int)), rdE r37 ((autoNot a).1.Takes : List Bool), blkE g30 (.cells #[I ((autoTakes a l).2.1), I ((autoTakes a l).2.2)] 24), blkE g1 (.cells #[I (a.Signs), vn, vt] 36), rdE vn (a.Next : List (List Int)), rdE vt (a.Takes : List Bool), rdE vl (l : List Int)] H) ?_ ?_
  · refine wpF_region ?_
    refine wpL_q (U := NoB) rfl (q_fieldAddr rfl Try.underlying36 rfl Try.sizeOf3 a81_3) ?_
    refine wpL_q (U := NoB) rfl (q_loadBlk rfl rfl Try.isAgg3 (hS76.blk 6 rfl) rfl (fun h => h)) ?_
    refine wpL_q (U := NoB) rfl (q_move (v := vl) rfl a81_2) ?_
    refine wpL_o rfl ?_
    refine e_call rfl Try.call23 (arr2 (v0 := I (a.Signs)) (v1 := vl) rfl rfl) (Text_R vl a.Signs l (hS76.rdN 9 rfl)) ?_
    rintro _ H89 ⟨hxx, rfl⟩
    have hS90 : St H0 NoB NoB [blkE g44 (.cells #[I ((autoNot a).2.1), I ((autoNot a).2.2)] 24), blkE g41 (.cells #[I ((autoNot a).1.Signs), r36, r37] 36), rdE r36 ((autoNot a).1.Next : List (List Int)), rdE r37 ((autoNot a).1.Takes : List Bool), blkE g30 (.cells #[I ((autoTakes a l).2.1), I ((autoTakes a l).2.2)] 24), blkE g14 (.cells #[I ((autoFault a).1), I ((autoFault a).2)] 24), blkE g1 (.cells #[I (a.Signs), vn, vt] 36), rdE vn (a.Next : List (List Int)), rdE vt (a.Takes : List Bool), rdE vl (l : List Int)] H89 := hS76.ext hxx
    refine wpL_o rfl ?_
    refine e_storeBlkA (cs' := #[I ((textFault a.Signs l).1), I ((textFault a.Signs l).2)]) rfl a81_7 rfl Try.sizeOf24 rfl rfl (List.forall_mem_cons.2 ⟨rfl, List.forall_mem_cons.2 ⟨rfl, List.forall_mem_nil _⟩⟩) (hS90.front 5 rfl) (fun H92 hS93 hxx => ?_)
    replace hS93 : St H0 NoB NoB [blkE g14 (.cells #[I ((textFault a.Signs l).1), I ((textFault a.Signs l).2)] 24), blkE g44 (.cells #[I ((autoNot a).2.1), I ((autoNot a).2.2)] 24), blkE g41 (.cells #[I ((autoNot a).1.Signs), r36, r37] 36), rdE r36 ((autoNot a).1.Next : List (List Int)), rdE r37 ((autoNot a).1.Takes : List Bool), blkE g30 (.cells #[I ((autoTakes a l).2.1), I ((autoTakes a l).2.2)] 24), blkE g1 (.cells #[I (a.Signs), vn, vt] 36), rdE vn (a.Next : List (List Int)), rdE vt (a.Takes : List Bool), rdE vl (l : List Int)] H92 := hS93
    exact ⟨a81_2, a81_3, a81_7, a81_8, a81_9, hS93⟩
  rintro f94 H94 ⟨a94_2, a94_3, a94_7, a94_8, a94_9, hS94⟩
  clear a81_10 a81_100 a81_12 a81_2 a81_3 a81_7 a81_8 a81_9
  refine wpF_seq ?_
  refine wpF_cut (fun f H => f 6 = B (true) ∧ St H0 NoB NoB [blkE g14 (.cells #[I ((textFault a.Signs l).1), I ((textFault a.Signs l).2)] 24), blkE g44 (.cells #[I ((autoNot a).2.1), I ((autoNot a).2.2)] 24), blkE g41 (.cells #[I ((autoNot a).1.Signs), r36, r37] 36), rdE r36 ((autoNot a).1.Next : List (List Int)), rdE r37 ((autoNot a).1.Takes : List Bool), blkE g30 (.cells #[I ((autoTakes a l).2.1), I ((autoTakes a l).2.2)] 24), blkE g1 (.cells #[I (a.Signs), vn, vt] 36), rdE vn (a.Next : List (List Int)), rdE vt (a.Takes : List Bool), rdE vl (l : List Int)] H) ?_ ?_
  · refine wpF_region ?_
    refine wpL_q (U := NoB) rfl (q_loadBlkA rfl a94_9 Try.isAgg24 Try.sizeOf24 rfl (hS94.blk 5 rfl) (fun h => h)) ?_
    refine wpL_q (U := NoB) rfl (q_loadBlkA rfl a94_7 Try.isAgg24 Try.sizeOf24 rfl (hS94.blk 0 rfl) (fun h => h)) ?_
    refine wpL_q (U := NoB) rfl (q_eqlF2 rfl Try.eqGuardType24 (fl24 _ _ _ _) rfl rfl) ?_
    refine wpL_q (U := NoB) rfl (q_move (v := B (decide (((autoTakes a l).2.1) = ((textFault a.Signs l).1) ∧ ((autoTakes a l).2.2) = ((textFault a.Signs l).2)))) rfl rfl) ?_
    by_cases hg95 : ((autoTakes a l).2.1) = ((textFault a.Signs l).1) ∧ ((autoTakes a l).2.2) = ((textFault a.Signs l).2)
    · have hb96 := Eq.trans rfl (congrArg B (decide_eq_true hg95))
      refine wpL_gq (U := NoB) rfl rfl rfl hb96 (q_move (v := B ((autoTakes a l).1)) rfl a94_8) ?_
      refine wpL_gq (U := NoB) rfl rfl rfl hb96 (q_fieldAddr rfl Try.underlying24 rfl Try.sizeOf3 a94_7) ?_
      refine wpL_gq (U := NoB) rfl rfl rfl hb96 (q_loadBlk rfl rfl Try.isAgg3 (hS94.blk 0 rfl) rfl (fun h => h)) ?_
      refine wpL_gq (U := NoB) rfl rfl rfl hb96 (q_eql rfl rfl rfl) ?_
      refine wpL_gq (U := NoB) rfl rfl rfl hb96 (q_move (v := B (decide (((textFault a.Signs l).1) = 0))) rfl rfl) ?_
      by_cases hg98 : ((textFault a.Signs l).1) = 0
      · have hb99 := Eq.trans rfl (congrArg B (decide_eq_true hg98))
        refine wpL_gq (U := NoB) rfl rfl rfl hb99 (q_loadBlkA rfl a94_3 Try.isAgg36 Try.sizeOf36 rfl (hS94.blk 6 rfl) (fun h => h)) ?_
        refine wpL_gq (U := NoB) rfl rfl rfl hb99 (q_move (v := vl) rfl a94_2) ?_
        refine wpL_go rfl rfl rfl hb99 ?_
        refine e_call rfl Try.call26 (arr3 (v0 := Value.agg #[I (a.Signs), vn, vt]) (v1 := I (0)) (v2 := vl) rfl rfl rfl) (Takes_R _ vn vt vl a 0 l (hS94.rdN 7 rfl) (hS94.rdN 8 rfl) hsg (hS94.rdN 9 rfl) hW (by omega) (textFault_code (by assumption)).2.2 rfl) ?_
        rintro _ H101 ⟨hxx, rfl⟩
        have hS102 : St H0 NoB NoB [blkE g14 (.cells #[I ((textFault a.Signs l).1), I ((textFault a.Signs l).2)] 24), blkE g44 (.cells #[I ((autoNot a).2.1), I ((autoNot a).2.2)] 24), blkE g41 (.cells #[I ((autoNot a).1.Signs), r36, r37] 36), rdE r36 ((autoNot a).1.Next : List (List Int)), rdE r37 ((autoNot a).1.Takes : List Bool), blkE g30 (.cells #[I ((autoTakes a l).2.1), I ((autoTakes a l).2.2)] 24), blkE g1 (.cells #[I (a.Signs), vn, vt] 36), rdE vn (a.Next : List (List Int)), rdE vt (a.Takes : List Bool), rdE vl (l : List Int)] H101 := hS94.ext hxx
        refine wpL_gq (U := NoB) rfl rfl rfl hb96 (q_pickT (v := B (takesA a 0 l)) rfl hb99 rfl) ?_
        refine wpL_gq (U := NoB) rfl rfl rfl hb96 (q_eqlB rfl Try.underlying4 rfl rfl) ?_
        refine wpL_q (U := NoB) rfl (q_pickT (v := B (decide (((autoTakes a l).1) = (takesA a 0 l)))) rfl hb96 rfl) ?_
        refine wpL_q (U := NoB) rfl (q_assign (v := B (decide (((autoTakes a l).1) = (takesA a 0 l)))) rfl rfl) ?_
        exact ⟨(Eq.trans rfl (congrArg B (decide_eq_true (autoTakes_yes hz (by assumption))))), hS102⟩
      · have hb100 := Eq.trans rfl (congrArg B (decide_eq_false hg98))
        refine wpL_gs rfl rfl rfl hb100 rfl ?_
        refine wpL_gs rfl rfl rfl hb100 rfl ?_
        refine wpL_gs rfl rfl rfl hb100 rfl ?_
        refine wpL_gq (U := NoB) rfl rfl rfl hb96 (q_pickF (v := B (false)) rfl hb100 rfl) ?_
        refine wpL_gq (U := NoB) rfl rfl rfl hb96 (q_eqlB rfl Try.underlying4 rfl rfl) ?_
        refine wpL_q (U := NoB) rfl (q_pickT (v := B (decide (((autoTakes a l).1) = false))) rfl hb96 rfl) ?_
        refine wpL_q (U := NoB) rfl (q_assign (v := B (decide (((autoTakes a l).1) = false))) rfl rfl) ?_
        exact ⟨(Eq.trans rfl (congrArg B (decide_eq_true (autoTakes_no hz (by assumption))))), hS94⟩
    · have hb97 := Eq.trans rfl (congrArg B (decide_eq_false hg95))
      refine wpL_gs rfl rfl rfl hb97 rfl ?_
      refine wpL_gs rfl rfl rfl hb97 rfl ?_
      refine wpL_gs rfl rfl rfl hb97 rfl ?_
      refine wpL_gs rfl rfl rfl hb97 rfl ?_
      refine wpL_gs rfl rfl rfl hb97 rfl ?_
      refine wpL_gs' rfl rfl rfl rfl ?_
      refine wpL_gs' rfl rfl rfl rfl ?_
      refine wpL_gs' rfl rfl rfl rfl ?_
      refine wpL_gs rfl rfl rfl hb97 rfl ?_
      refine wpL_gs rfl rfl rfl hb97 rfl ?_
      refine wpL_q (U := NoB) rfl (q_pickF (v := B (false)) rfl hb97 rfl) ?_
      refine wpL_q (U := NoB) rfl (q_assign (v := B (false)) rfl rfl) ?_
      exact ⟨(Eq.trans rfl (congrArg B (absurd (⟨by rw [autoTakes_snd hz], by rw [autoTakes_snd hz]⟩) hg95))), hS94⟩
  rintro f104 H104 ⟨a104_6, hS104⟩
  clear a94_2 a94_3 a94_7 a94_8 a94_9
  refine wpF_ret ?_
  refine ⟨_, resT a104_6 resN, hS104.frame, ?_⟩
  show (B (true)) = B true
  rfl

end Go.Um
