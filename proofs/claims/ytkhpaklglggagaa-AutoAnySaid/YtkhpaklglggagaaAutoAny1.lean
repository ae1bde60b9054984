import Derived.Test.YtkhpaklglggagaaProg
import Derived.Test.YtkhpaklglggagaaAutoA3
namespace Go.Um
open Go.Proofs
open GoT (sz ag rdc)
open KeyT (kv)



set_option maxRecDepth 100000 in
theorem AutoAny_L {H0 : Heap} (vn vt vl : Value) (a : Auto) (l : List Int) (rn : Rd NoB H0 vn a.Next) (rt : Rd NoB H0 vt a.Takes) (hsg : In64 a.Signs) (rl : Rd NoB H0 vl l) : CallsH Try.prog 5 #[Value.agg #[I (a.Signs), vn, vt], vl] H0 (fun rv_ H' => Ext NoB H0 H' ∧ rv_ = B true) := by
  have hsn := (Rd.list.1 rn).small
  have hst := (Rd.list.1 rt).small
  have hsl := (Rd.list.1 rl).small
  have hS0 : St H0 NoB NoB [rdE vn (a.Next : List (List Int)), rdE vt (a.Takes : List Bool), rdE vl (l : List Int)] H0 := St.arg (St.arg (St.arg (St.start (fun _ h => h.elim)) (Bl0.nil) rl (fun _ h => h)) (Bl0.cons (Bl0.nil)) rt (fun _ h => h)) (Bl0.cons (Bl0.cons (Bl0.nil))) rn (fun _ h => h)
  refine callsH_of_wpF (args := [Value.agg #[I (a.Signs), vn, vt], vl]) (rs := [.tmp 4]) Try.func5 rfl Try.ntmps5 Try.results5 (by kernel_rfl) (Nat.le_of_ble_eq_true rfl) ?_
  have a0_0 : argF [Value.agg #[I (a.Signs), vn, vt], vl] 0 = Value.agg #[I (a.Signs), vn, vt] := rfl
  have a0_1 : argF [Value.agg #[I (a.Signs), vn, vt], vl] 1 = vl := rfl
  generalize argF [Value.agg #[I (a.Signs), vn, vt], vl] = f0 at *
  refine wpF_seq ?_
  refine wpF_cut (fun f H => ∃ (g1 : Nat), f 1 = vl ∧ f 2 = PT g1 0 ∧ St H0 NoB NoB [blkE g1 (.cells #[I (a.Signs), vn, vt] 36), rdE vn (a.Next : List (List Int)), rdE vt (a.Takes : List Bool), rdE vl (l : List Int)] H) ?_ ?_
  · refine wpF_region ?_
    refine wpL_o rfl ?_
    refine e_box (v := Value.agg #[I (a.Signs), vn, vt]) rfl a0_0 hS0 (fun g1 H2 hS3 hxx => ?_)
    replace hS3 : St H0 NoB NoB [blkE g1 (.cells #[I (a.Signs), vn, vt] 36), rdE vn (a.Next : List (List Int)), rdE vt (a.Takes : List Bool), rdE vl (l : List Int)] H2 := hS3
    refine wpL_q (U := NoB) rfl (q_assign (v := B (false)) rfl rfl) ?_
    exact ⟨g1, a0_1, rfl, hS3⟩
  rintro f4 H4 ⟨g1, a4_1, a4_2, hS4⟩
  clear a0_0 a0_1
  refine wpF_seq ?_
  refine wpF_cut (fun f H => f 1 = vl ∧ f 2 = PT g1 0 ∧ f 5 = B (true) ∧ St H0 NoB NoB [blkE g1 (.cells #[I (a.Signs), vn, vt] 36), rdE vn (a.Next : List (List Int)), rdE vt (a.Takes : List Bool), rdE vl (l : List Int)] H) ?_ ?_
  · refine wpF_region ?_
    refine wpL_o rfl ?_
    refine e_call rfl Try.call27 arr0 (autoFact) ?_
    rintro _ H5 ⟨hxx, rfl⟩
    have hS6 : St H0 NoB NoB [blkE g1 (.cells #[I (a.Signs), vn, vt] 36), rdE vn (a.Next : List (List Int)), rdE vt (a.Takes : List Bool), rdE vl (l : List Int)] H5 := hS4.ext hxx
    refine wpL_q (U := NoB) rfl (q_assign (v := B (true)) rfl rfl) ?_
    exact ⟨a4_1, a4_2, rfl, hS6⟩
  rintro f8 H8 ⟨a8_1, a8_2, a8_5, hS8⟩
  clear a4_1 a4_2
  refine wpF_seq ?_
  refine wpF_seq ?_
  refine wpF_cut (fun f H => f 1 = vl ∧ f 2 = PT g1 0 ∧ f 14 = B (false) ∧ H8 = H) ?_ ?_
  · refine wpF_region ?_
    refine wpL_q (U := NoB) rfl (q_move (v := B (true)) rfl a8_5) ?_
    refine wpL_q (U := NoB) rfl (q_not rfl rfl) ?_
    exact ⟨a8_1, a8_2, rfl, rfl⟩
  rintro f9 _ ⟨a9_1, a9_2, a9_14, rfl⟩
  clear a8_1 a8_2 a8_5
  refine wpF_condF a9_14 ?_
  refine wpF_skip ?_
  refine wpF_seq ?_
  refine wpF_cut (fun f H => ∃ (r10 : Value), ∃ (r10m : List Int), ∃ (r10i : Bool), ∃ (g14 : Nat), (AnyOk a r10m r10i) ∧ f 1 = vl ∧ f 2 = PT g1 0 ∧ f 6 = r10 ∧ f 7 = B (r10i) ∧ f 8 = PT g14 0 ∧ St H0 NoB NoB [blkE g14 (.cells #[I ((autoFault a).1), I ((autoFault a).2)] 24), rdE r10 (r10m : List Int), blkE g1 (.cells #[I (a.Signs), vn, vt] 36), rdE vn (a.Next : List (List Int)), rdE vt (a.Takes : List Bool), rdE vl (l : List Int)] H) ?_ ?_
  · refine wpF_region ?_
    refine wpL_q (U := NoB) rfl (q_loadBlkA rfl a9_2 Try.isAgg36 Try.sizeOf36 rfl (hS8.blk 0 rfl) (fun h => h)) ?_
    refine wpL_o rfl ?_
    refine e_call rfl Try.call28 (arr1 (v0 := Value.agg #[I (a.Signs), vn, vt]) rfl) (Any vn vt a (hS8.rdS 1 rfl) (hS8.rdS 2 rfl) hsg) ?_
    rintro _ H11 ⟨hxx, r10, r10m, r10i, rfl, hrr10, hAr10⟩
    have hS12 : St H0 NoB NoB [rdE r10 (r10m : List Int), blkE g1 (.cells #[I (a.Signs), vn, vt] 36), rdE vn (a.Next : List (List Int)), rdE vt (a.Takes : List Bool), rdE vl (l : List Int)] H11 := (hS8.res hxx hrr10)
    refine wpL_q (U := NoB) rfl (q_move (v := Value.tuple #[r10, B (r10i), Value.agg #[I ((autoFault a).1), I ((autoFault a).2)]]) rfl rfl) ?_
    refine wpL_q (U := NoB) rfl (q_extract (vs := #[r10, B (r10i), Value.agg #[I ((autoFault a).1), I ((autoFault a).2)]]) (v := r10) rfl rfl rfl) ?_
    refine wpL_q (U := NoB) rfl (q_extract (vs := #[r10, B (r10i), Value.agg #[I ((autoFault a).1), I ((autoFault a).2)]]) (v := B (r10i)) rfl rfl rfl) ?_
    refine wpL_q (U := NoB) rfl (q_extract (vs := #[r10, B (r10i), Value.agg #[I ((autoFault a).1), I ((autoFault a).2)]]) (v := Value.agg #[I ((autoFault a).1), I ((autoFault a).2)]) rfl rfl rfl) ?_
    refine wpL_o rfl ?_
    refine e_alloc rfl Try.zeroValue24 hS12 (fun g14 H15 hS16 hxx => ?_)
    replace hS16 : St H0 NoB NoB [blkE g14 (.cells #[I (0), I (0)] 24), rdE r10 (r10m : List Int), blkE g1 (.cells #[I (a.Signs), vn, vt] 36), rdE vn (a.Next : List (List Int)), rdE vt (a.Takes : List Bool), rdE vl (l : List Int)] H15 := hS16
    refine wpL_q (U := NoB) rfl (q_assign (v := r10) rfl rfl) ?_
    refine wpL_q (U := NoB) rfl (q_assign (v := B (r10i)) rfl rfl) ?_
    refine wpL_o rfl ?_
    refine e_storeBlkA (cs' := #[I ((autoFault a).1), I ((autoFault a).2)]) rfl rfl rfl Try.sizeOf24 rfl rfl (List.forall_mem_cons.2 ⟨rfl, List.forall_mem_cons.2 ⟨rfl, List.forall_mem_nil _⟩⟩) hS16 (fun H17 hS18 hxx => ?_)
    replace hS18 : St H0 NoB NoB [blkE g14 (.cells #[I ((autoFault a).1), I ((autoFault a).2)] 24), rdE r10 (r10m : List Int), blkE g1 (.cells #[I (a.Signs), vn, vt] 36), rdE vn (a.Next : List (List Int)), rdE vt (a.Takes : List Bool), rdE vl (l : List Int)] H17 := hS18
    exact ⟨r10, r10m, r10i, g14, hAr10, a9_1, a9_2, rfl, rfl, rfl, hS18⟩
  rintro f19 H19 ⟨r10, r10m, r10i, g14, hAr10, a19_1, a19_2, a19_6, a19_7, a19_8, hS19⟩
  clear a9_1 a9_14 a9_2
  have hA := hAr10
  refine wpF_seq ?_
  refine wpF_seq ?_
  refine wpF_cut (fun f H => f 1 = vl ∧ f 2 = PT g1 0 ∧ f 6 = r10 ∧ f 7 = B (r10i) ∧ f 8 = PT g14 0 ∧ f 23 = B (decide (((autoFault a).1) ≠ 0)) ∧ H19 = H) ?_ ?_
  · refine wpF_region ?_
    refine wpL_q (U := NoB) rfl (q_fieldAddr rfl Try.underlying24 rfl Try.sizeOf3 a19_8) ?_
    refine wpL_q (U := NoB) rfl (q_loadBlk rfl rfl Try.isAgg3 (hS19.blk 0 rfl) rfl (fun h => h)) ?_
    refine wpL_q (U := NoB) rfl (q_neq rfl rfl rfl) ?_
    exact ⟨a19_1, a19_2, a19_6, a19_7, a19_8, rfl, rfl⟩
  rintro f20 _ ⟨a20_1, a20_2, a20_6, a20_7, a20_8, a20_23, rfl⟩
  clear a19_1 a19_2 a19_6 a19_7 a19_8
  refine wpF_condP a20_23 (fun h1 => ?t88) (fun h1 => ?e88)
  case t88 =>
    refine wpF_seq ?_
    refine wpF_cut (fun f H => f 4 = B (decide (((r10m.length : Int) = 0) ∧ ((!r10i) = true))) ∧ H19 = H) ?_ ?_
    · refine wpF_region ?_
      refine wpL_q (U := NoB) rfl (q_move (v := r10) rfl a20_6) ?_
      refine wpL_q (U := NoB) rfl (q_lenRd rfl Try.underlying22 rfl (hS19.rdl 1 rfl)) ?_
      refine wpL_q (U := NoB) rfl (q_eql rfl rfl rfl) ?_
      refine wpL_q (U := NoB) rfl (q_move (v := B (decide ((r10m.length : Int) = 0))) rfl rfl) ?_
      by_cases hg22 : (r10m.length : Int) = 0
      · have hb23 := Eq.trans rfl (congrArg B (decide_eq_true hg22))
        refine wpL_gq (U := NoB) rfl rfl rfl hb23 (q_move (v := B (r10i)) rfl a20_7) ?_
        refine wpL_gq (U := NoB) rfl rfl rfl hb23 (q_not rfl rfl) ?_
        refine wpL_q (U := NoB) rfl (q_pickT (v := B (!r10i)) rfl hb23 rfl) ?_
        refine wpL_q (U := NoB) rfl (q_assign (v := B (!r10i)) rfl rfl) ?_
        exact ⟨(Eq.trans rfl (congrArg B (bool_congr_of ((Iff.rfl).trans (((and_iff_right hg22).trans Iff.rfl)).symm)))), rfl⟩
      · have hb24 := Eq.trans rfl (congrArg B (decide_eq_false hg22))
        refine wpL_gs rfl rfl rfl hb24 rfl ?_
        refine wpL_gs rfl rfl rfl hb24 rfl ?_
        refine wpL_q (U := NoB) rfl (q_pickF (v := B (false)) rfl hb24 rfl) ?_
        refine wpL_q (U := NoB) rfl (q_assign (v := B (false)) rfl rfl) ?_
        exact ⟨(Eq.trans rfl (congrArg B ((decide_eq_false (fun h => hg22 h.1)).symm))), rfl⟩
    rintro f25 _ ⟨a25_4, rfl⟩
    clear a20_1 a20_2 a20_23 a20_6 a20_7 a20_8
    refine wpF_ret ?_
    refine ⟨_, resT a25_4 resN, hS19.frame, ?_⟩
    show (B (decide (((r10m.length : Int) = 0) ∧ ((!r10i) = true)))) = B true
    obtain ⟨e1, e2⟩ := hA.bad h1
    exact congrArg B (decide_eq_true (by simp [e1, e2]))
  have hz := Decidable.of_not_not h1
  have hA2 := hA.is hz
  refine wpF_skip ?_
  refine wpF_seq ?_
  refine wpF_cut (fun f H => f 1 = vl ∧ f 2 = PT g1 0 ∧ f 6 = r10 ∧ f 7 = B (r10i) ∧ f 8 = PT g14 0 ∧ f 9 = B ((autoTakes a l).1) ∧ St H0 NoB NoB [blkE g14 (.cells #[I ((autoTakes a l).2.1), I ((autoTakes a l).2.2)] 24), rdE r10 (r10m : List Int), blkE g1 (.cells #[I (a.Signs), vn, vt] 36), rdE vn (a.Next : List (List Int)), rdE vt (a.Takes : List Bool), rdE vl (l : List Int)] H) ?_ ?_
  · refine wpF_region ?_
    refine wpL_q (U := NoB) rfl (q_loadBlkA rfl a20_2 Try.isAgg36 Try.sizeOf36 rfl (hS19.blk 2 rfl) (fun h => h)) ?_
    refine wpL_q (U := NoB) rfl (q_move (v := vl) rfl a20_1) ?_
    refine wpL_o rfl ?_
    refine e_call rfl Try.call24 (arr2 (v0 := Value.agg #[I (a.Signs), vn, vt]) (v1 := vl) rfl rfl) (Takes vn vt vl a l (hS19.rdN 3 rfl) (hS19.rdN 4 rfl) hsg (hS19.rdN 5 rfl)) ?_
    rintro _ H26 ⟨hxx, rfl⟩
    have hS27 : St H0 NoB NoB [blkE g14 (.cells #[I ((autoFault a).1), I ((autoFault a).2)] 24), rdE r10 (r10m : List Int), blkE g1 (.cells #[I (a.Signs), vn, vt] 36), rdE vn (a.Next : List (List Int)), rdE vt (a.Takes : List Bool), rdE vl (l : List Int)] H26 := hS19.ext hxx
    refine wpL_q (U := NoB) rfl (q_move (v := Value.tuple #[B ((autoTakes a l).1), Value.agg #[I ((autoTakes a l).2.1), I ((autoTakes a l).2.2)]]) rfl rfl) ?_
    refine wpL_q (U := NoB) rfl (q_extract (vs := #[B ((autoTakes a l).1), Value.agg #[I ((autoTakes a l).2.1), I ((autoTakes a l).2.2)]]) (v := B ((autoTakes a l).1)) rfl rfl rfl) ?_
    refine wpL_q (U := NoB) rfl (q_extract (vs := #[B ((autoTakes a l).1), Value.agg #[I ((autoTakes a l).2.1), I ((autoTakes a l).2.2)]]) (v := Value.agg #[I ((autoTakes a l).2.1), I ((autoTakes a l).2.2)]) rfl rfl rfl) ?_
    refine wpL_q (U := NoB) rfl (q_assign (v := B ((autoTakes a l).1)) rfl rfl) ?_
    refine wpL_o rfl ?_
    refine e_storeBlkA (cs' := #[I ((autoTakes a l).2.1), I ((autoTakes a l).2.2)]) rfl a20_8 rfl Try.sizeOf24 rfl rfl (List.forall_mem_cons.2 ⟨rfl, List.forall_mem_cons.2 ⟨rfl, List.forall_mem_nil _⟩⟩) hS27 (fun H29 hS30 hxx => ?_)
    replace hS30 : St H0 NoB NoB [blkE g14 (.cells #[I ((autoTakes a l).2.1), I ((autoTakes a l).2.2)] 24), rdE r10 (r10m : List Int), blkE g1 (.cells #[I (a.Signs), vn, vt] 36), rdE vn (a.Next : List (List Int)), rdE vt (a.Takes : List Bool), rdE vl (l : List Int)] H29 := hS30
    exact ⟨a20_1, a20_2, a20_6, a20_7, a20_8, rfl, hS30⟩
  rintro f31 H31 ⟨a31_1, a31_2, a31_6, a31_7, a31_8, a31_9, hS31⟩
  clear a20_1 a20_2 a20_23 a20_6 a20_7 a20_8
  refine wpF_seq ?_
  refine wpF_seq ?_
  refine wpF_cut (fun f H => f 1 = vl ∧ f 2 = PT g1 0 ∧ f 6 = r10 ∧ f 7 = B (r10i) ∧ f 9 = B ((autoTakes a l).1) ∧ f 39 = B (decide (((autoTakes a l).2.1) ≠ 0)) ∧ H31 = H) ?_ ?_
  · refine wpF_region ?_
    refine wpL_q (U := NoB) rfl (q_fieldAddr rfl Try.underlying24 rfl Try.sizeOf3 a31_8) ?_
    refine wpL_q (U := NoB) rfl (q_loadBlk rfl rfl Try.isAgg3 (hS31.blk 0 rfl) rfl (fun h => h)) ?_
    refine wpL_q (U := NoB) rfl (q_neq rfl rfl rfl) ?_
    exact ⟨a31_1, a31_2, a31_6, a31_7, a31_9, rfl, rfl⟩
  rintro f32 _ ⟨a32_1, a32_2, a32_6, a32_7, a32_9, a32_39, rfl⟩
  clear a31_1 a31_2 a31_6 a31_7 a31_8 a31_9
  refine wpF_condP a32_39 (fun h2 => ?t87) (fun h2 => ?e87)
  case t87 =>
    refine wpF_seq ?_
    refine wpF_cut (fun f H => f 4 = B (true) ∧ H31 = H) ?_ ?_
    · refine wpF_region ?_
      refine wpL_q (U := NoB) rfl (q_assign (v := B (true)) rfl rfl) ?_
      exact ⟨rfl, rfl⟩
    rintro f34 _ ⟨a34_4, rfl⟩
    clear a32_1 a32_2 a32_39 a32_6 a32_7 a32_9
    refine wpF_ret ?_
    refine ⟨_, resT a34_4 resN, hS31.frame, ?_⟩
    show (B (true)) = B true
    rfl
  have htf : (textFault a.Signs l).1 = 0 := by rw [autoTakes_snd hz] at h2; exact Decidable.of_not_not h2
  have hv := (textFault_code htf).2.2
  refine wpF_skip ?_
  refine wpF_seq ?_
  refine wpF_seq ?_
  refine wpF_cut (fun f H => f 1 = vl ∧ f 2 = PT g1 0 ∧ f 6 = r10 ∧ f 9 = B ((autoTakes a l).1) ∧ f 41 = B (!r10i) ∧ H31 = H) ?_ ?_
  · refine wpF_region ?_
    refine wpL_q (U := NoB) rfl (q_move (v := B (r10i)) rfl a32_7) ?_
    refine wpL_q (U := NoB) rfl (q_not rfl rfl) ?_
    exact ⟨a32_1, a32_2, a32_6, a32_9, rfl, rfl⟩
  rintro f35 _ ⟨a35_1, a35_2, a35_6, a35_9, a35_41, rfl⟩
  clear a32_1 a32_2 a32_39 a32_6 a32_7 a32_9
  refine wpF_cond a35_41 (fun h3 => ?t86) (fun h3 => ?e86)
  case t86 =>
    refine wpF_seq ?_
    refine wpF_cut (fun f H => f 4 = B (decide (((!((autoTakes a l).1)) = true) ∧ ((r10m.length : Int) = 0))) ∧ H31 = H) ?_ ?_
    · refine wpF_region ?_
      refine wpL_q (U := NoB) rfl (q_move (v := B ((autoTakes a l).1)) rfl a35_9) ?_
      refine wpL_q (U := NoB) rfl (q_not rfl rfl) ?_
      refine wpL_q (U := NoB) rfl (q_move (v := B (!((autoTakes a l).1))) rfl rfl) ?_
      by_cases hg37 : (!((autoTakes a l).1)) = true
      · have hb38 := Eq.trans rfl (congrArg B hg37)
        refine wpL_gq (U := NoB) rfl rfl rfl hb38 (q_move (v := r10) rfl a35_6) ?_
        refine wpL_gq (U := NoB) rfl rfl rfl hb38 (q_lenRd rfl Try.underlying22 rfl (hS31.rdl 1 rfl)) ?_
        refine wpL_gq (U := NoB) rfl rfl rfl hb38 (q_eql rfl rfl rfl) ?_
        refine wpL_q (U := NoB) rfl (q_pickT (v := B (decide ((r10m.length : Int) = 0))) rfl hb38 rfl) ?_
        refine wpL_q (U := NoB) rfl (q_assign (v := B (decide ((r10m.length : Int) = 0))) rfl rfl) ?_
        exact ⟨(Eq.trans rfl (congrArg B (decide_congr_of ((Iff.rfl).trans (((and_iff_right hg37).trans Iff.rfl)).symm)))), rfl⟩
      · have hb39 := Eq.trans rfl (congrArg B (Bool.eq_false_iff.2 hg37))
        refine wpL_gs rfl rfl rfl hb39 rfl ?_
        refine wpL_gs rfl rfl rfl hb39 rfl ?_
        refine wpL_gs rfl rfl rfl hb39 rfl ?_
        refine wpL_q (U := NoB) rfl (q_pickF (v := B (false)) rfl hb39 rfl) ?_
        refine wpL_q (U := NoB) rfl (q_assign (v := B (false)) rfl rfl) ?_
        exact ⟨(Eq.trans rfl (congrArg B ((decide_eq_false (fun h => hg37 h.1)).symm))), rfl⟩
    rintro f40 _ ⟨a40_4, rfl⟩
    clear a35_1 a35_2 a35_41 a35_6 a35_9
    refine wpF_ret ?_
    refine ⟨_, resT a40_4 resN, hS31.frame, ?_⟩
    show (B (decide (((!((autoTakes a l).1)) = true) ∧ ((r10m.length : Int) = 0)))) = B true
    exact congrArg B (decide_eq_true ⟨by rw [autoTakes_yes hz htf]; rcases hA2 with ⟨e, _⟩ | ⟨_, _, e⟩; rw [e] at h3; cases h3; simp [e l hv], by rcases hA2 with ⟨e, _⟩ | ⟨_, e, _⟩; rw [e] at h3; cases h3; simp [e]⟩)
  refine wpF_skip ?_
  refine wpF_seq ?_
  refine wpF_seq ?_
  refine wpF_cut (fun f H => f 1 = vl ∧ f 2 = PT g1 0 ∧ f 6 = r10 ∧ f 9 = B ((autoTakes a l).1) ∧ f 51 = B (decide ((r10m.length : Int) ≤ 30)) ∧ H31 = H) ?_ ?_
  · refine wpF_region ?_
    refine wpL_q (U := NoB) rfl (q_move (v := r10) rfl a35_6) ?_
    refine wpL_q (U := NoB) rfl (q_lenRd rfl Try.underlying22 rfl (hS31.rdl 1 rfl)) ?_
    refine wpL_q (U := NoB) rfl (q_leq rfl rfl rfl) ?_
    exact ⟨a35_1, a35_2, a35_6, a35_9, rfl, rfl⟩
  rintro f41 _ ⟨a41_1, a41_2, a41_6, a41_9, a41_51, rfl⟩
  clear a35_1 a35_2 a35_41 a35_6 a35_9
  refine wpF_condP a41_51 (fun h4 => ?t85) (fun h4 => ?e85)
  case e85 =>
    refine wpF_skip ?_
    refine wpF_seq ?_
    refine wpF_cut (fun f H => f 4 = B (decide ((((!((autoTakes a l).1)) = true) ∨ ((r10m.length : Int) < (l.length : Int))) ∨ (((l.length : Int) = (r10m.length : Int)) ∧ ((!(lessL l r10m)) = true)))) ∧ St H0 NoB NoB [blkE g14 (.cells #[I ((autoTakes a l).2.1), I ((autoTakes a l).2.2)] 24), blkE g1 (.cells #[I (a.Signs), vn, vt] 36), rdE vn (a.Next : List (List Int)), rdE vt (a.Takes : List Bool), rdE vl (l : List Int)] H) ?_ ?_
    · refine wpF_region ?_
      refine wpL_q (U := NoB) rfl (q_move (v := B ((autoTakes a l).1)) rfl a41_9) ?_
      refine wpL_q (U := NoB) rfl (q_not rfl rfl) ?_
      refine wpL_q (U := NoB) rfl (q_move (v := B (!((autoTakes a l).1))) rfl rfl) ?_
      by_cases hg72 : (!((autoTakes a l).1)) = true
      · have hb73 := Eq.trans rfl (congrArg B hg72)
        refine wpL_gs rfl rfl rfl hb73 rfl ?_
        refine wpL_gs rfl rfl rfl hb73 rfl ?_
        refine wpL_gs rfl rfl rfl hb73 rfl ?_
        refine wpL_gs rfl rfl rfl hb73 rfl ?_
        refine wpL_gs rfl rfl rfl hb73 rfl ?_
        refine wpL_q (U := NoB) rfl (q_pickT (v := B (true)) rfl hb73 rfl) ?_
        refine wpL_q (U := NoB) rfl (q_move (v := B (true)) rfl rfl) ?_
        refine wpL_gs rfl rfl rfl rfl rfl ?_
        refine wpL_gs rfl rfl rfl rfl rfl ?_
        refine wpL_gs rfl rfl rfl rfl rfl ?_
        refine wpL_gs rfl rfl rfl rfl rfl ?_
        refine wpL_gs rfl rfl rfl rfl rfl ?_
        refine wpL_gs rfl rfl rfl rfl rfl ?_
        refine wpL_gs' rfl rfl rfl rfl ?_
        refine wpL_gs' rfl rfl rfl rfl ?_
        refine wpL_gs' rfl rfl rfl rfl ?_
        refine wpL_gs' rfl rfl rfl rfl ?_
        refine wpL_gs rfl rfl rfl rfl rfl ?_
        refine wpL_q (U := NoB) rfl (q_pickT (v := B (true)) rfl rfl rfl) ?_
        refine wpL_q (U := NoB) rfl (q_assign (v := B (true)) rfl rfl) ?_
        exact ⟨(Eq.trans rfl (congrArg B ((decide_eq_true (Or.inl (Or.inl hg72))).symm))), (hS31.drop (List.Sublist.cons_cons _ (List.Sublist.cons _ (List.Sublist.cons_cons _ (List.Sublist.cons_cons _ (List.Sublist.cons_cons _ (List.Sublist.cons_cons _ (List.Sublist.slnil))))))))⟩
      · have hb74 := Eq.trans rfl (congrArg B (Bool.eq_false_iff.2 hg72))
        refine wpL_gq (U := NoB) rfl rfl rfl hb74 (q_move (v := vl) rfl a41_1) ?_
        refine wpL_gq (U := NoB) rfl rfl rfl hb74 (q_lenRd rfl Try.underlying22 rfl (hS31.rdl 5 rfl)) ?_
        refine wpL_gq (U := NoB) rfl rfl rfl hb74 (q_move (v := r10) rfl a41_6) ?_
        refine wpL_gq (U := NoB) rfl rfl rfl hb74 (q_lenRd rfl Try.underlying22 rfl (hS31.rdl 1 rfl)) ?_
        refine wpL_gq (U := NoB) rfl rfl rfl hb74 (q_gtr rfl rfl rfl) ?_
        refine wpL_q (U := NoB) rfl (q_pickF (v := B (decide ((r10m.length : Int) < (l.length : Int)))) rfl hb74 rfl) ?_
        refine wpL_q (U := NoB) rfl (q_move (v := B (decide ((r10m.length : Int) < (l.length : Int)))) rfl rfl) ?_
        by_cases hg75 : (r10m.length : Int) < (l.length : Int)
        · have hb76 := Eq.trans rfl (congrArg B (decide_eq_true hg75))
          refine wpL_gs rfl rfl rfl hb76 rfl ?_
          refine wpL_gs rfl rfl rfl hb76 rfl ?_
          refine wpL_gs rfl rfl rfl hb76 rfl ?_
          refine wpL_gs rfl rfl rfl hb76 rfl ?_
          refine wpL_gs rfl rfl rfl hb76 rfl ?_
          refine wpL_gs rfl rfl rfl hb76 rfl ?_
          refine wpL_gs' rfl rfl rfl rfl ?_
          refine wpL_gs' rfl rfl rfl rfl ?_
          refine wpL_gs' rfl rfl rfl rfl ?_
          refine wpL_gs' rfl rfl rfl rfl ?_
          refine wpL_gs rfl rfl rfl hb76 rfl ?_
          refine wpL_q (U := NoB) rfl (q_pickT (v := B (true)) rfl hb76 rfl) ?_
          refine wpL_q (U := NoB) rfl (q_assign (v := B (true)) rfl rfl) ?_
          exact ⟨(Eq.trans rfl (congrArg B ((decide_eq_true (Or.inl (Or.inr hg75))).symm))), (hS31.drop (List.Sublist.cons_cons _ (List.Sublist.cons _ (List.Sublist.cons_cons _ (List.Sublist.cons_cons _ (List.Sublist.cons_cons _ (List.Sublist.cons_cons _ (List.Sublist.slnil))))))))⟩
        · have hb77 := Eq.trans rfl (congrArg B (decide_eq_false hg75))
          refine wpL_gq (U := NoB) rfl rfl rfl hb77 (q_move (v := vl) rfl a41_1) ?_
          refine wpL_gq (U := NoB) rfl rfl rfl hb77 (q_lenRd rfl Try.underlying22 rfl (hS31.rdl 5 rfl)) ?_
          refine wpL_gq (U := NoB) rfl rfl rfl hb77 (q_move (v := r10) rfl a41_6) ?_
          refine wpL_gq (U := NoB) rfl rfl rfl hb77 (q_lenRd rfl Try.underlying22 rfl (hS31.rdl 1 rfl)) ?_
          refine wpL_gq (U := NoB) rfl rfl rfl hb77 (q_eql rfl rfl rfl) ?_
          refine wpL_gq (U := NoB) rfl rfl rfl hb77 (q_move (v := B (decide ((l.length : Int) = (r10m.length : Int)))) rfl rfl) ?_
          by_cases hg78 : (l.length : Int) = (r10m.length : Int)
          · have hb79 := Eq.trans rfl (congrArg B (decide_eq_true hg78))
            refine wpL_gq (U := NoB) rfl rfl rfl hb79 (q_move (v := vl) rfl a41_1) ?_
            refine wpL_gq (U := NoB) rfl rfl rfl hb79 (q_move (v := r10) rfl a41_6) ?_
            refine wpL_go rfl rfl rfl hb79 ?_
            refine e_call rfl Try.call29 (arr2 (v0 := vl) (v1 := r10) rfl rfl) (Less_R vl r10 _ _ (hS31.rdN 5 rfl) (hS31.rdN 1 rfl)) ?_
            rintro _ H81 ⟨hxx, rfl⟩
            have hS82 : St H0 NoB NoB [blkE g14 (.cells #[I ((autoTakes a l).2.1), I ((autoTakes a l).2.2)] 24), rdE r10 (r10m : List Int), blkE g1 (.cells #[I (a.Signs), vn, vt] 36), rdE vn (a.Next : List (List Int)), rdE vt (a.Takes : List Bool), rdE vl (l : List Int)] H81 := hS31.ext hxx
            refine wpL_gq (U := NoB) rfl rfl rfl hb79 (q_not rfl rfl) ?_
            refine wpL_gq (U := NoB) rfl rfl rfl hb77 (q_pickT (v := B (!(lessL l r10m))) rfl hb79 rfl) ?_
            refine wpL_q (U := NoB) rfl (q_pickF (v := B (!(lessL l r10m))) rfl hb77 rfl) ?_
            refine wpL_q (U := NoB) rfl (q_assign (v := B (!(lessL l r10m))) rfl rfl) ?_
            exact ⟨(Eq.trans rfl (congrArg B (bool_congr_of ((Iff.rfl).trans (((or_iff_right (not_or.2 ⟨hg72, hg75⟩)).trans ((and_iff_right hg78).trans Iff.rfl))).symm)))), (hS82.drop (List.Sublist.cons_cons _ (List.Sublist.cons _ (List.Sublist.cons_cons _ (List.Sublist.cons_cons _ (List.Sublist.cons_cons _ (List.Sublist.cons_cons _ (List.Sublist.slnil))))))))⟩
          · have hb80 := Eq.trans rfl (congrArg B (decide_eq_false hg78))
            refine wpL_gs rfl rfl rfl hb80 rfl ?_
            refine wpL_gs rfl rfl rfl hb80 rfl ?_
            refine wpL_gs rfl rfl rfl hb80 rfl ?_
            refine wpL_gs rfl rfl rfl hb80 rfl ?_
            refine wpL_gq (U := NoB) rfl rfl rfl hb77 (q_pickF (v := B (false)) rfl hb80 rfl) ?_
            refine wpL_q (U := NoB) rfl (q_pickF (v := B (false)) rfl hb77 rfl) ?_
            refine wpL_q (U := NoB) rfl (q_assign (v := B (false)) rfl rfl) ?_
            exact ⟨(Eq.trans rfl (congrArg B ((decide_eq_false (not_or.2 ⟨(not_or.2 ⟨hg72, hg75⟩), (fun h => hg78 h.1)⟩)).symm))), (hS31.drop (List.Sublist.cons_cons _ (List.Sublist.cons _ (List.Sublist.cons_cons _ (List.Sublist.cons_cons _ (List.Sublist.cons_cons _ (List.Sublist.cons_cons _ (List.Sublist.slnil))))))))⟩
    rintro f84 H84 ⟨a84_4, hS84⟩
    clear a41_1 a41_2 a41_51 a41_6 a41_9
    refine wpF_ret ?_
    refine ⟨_, resT a84_4 resN, hS84.frame, ?_⟩
    show (B (decide ((((!((autoTakes a l).1)) = true) ∨ ((r10m.length : Int) < (l.length : Int))) ∨ (((l.length : Int) = (r10m.length : Int)) ∧ ((!(lessL l r10m)) = true))))) = B true
    exact congrArg B (decide_eq_true (anyLaw_p hz hA2 (by simpa using h3) htf hv))
  refine wpF_seq ?_
  refine wpF_cut (fun f H => ∃ (g46 : Nat), f 1 = vl ∧ f 6 = r10 ∧ f 9 = B ((autoTakes a l).1) ∧ f 10 = B ((autoTakes a r10m).1) ∧ f 11 = PT g46 0 ∧ St H0 NoB NoB [blkE g46 (.cells #[I ((autoTakes a r10m).2.1), I ((autoTakes a r10m).2.2)] 24), blkE g14 (.cells #[I ((autoTakes a l).2.1), I ((autoTakes a l).2.2)] 24), rdE r10 (r10m : List Int), blkE g1 (.cells #[I (a.Signs), vn, vt] 36), rdE vn (a.Next : List (List Int)), rdE vt (a.Takes : List Bool), rdE vl (l : List Int)] H) ?_ ?_
  · refine wpF_region ?_
    refine wpL_q (U := NoB) rfl (q_loadBlkA rfl a41_2 Try.isAgg36 Try.sizeOf36 rfl (hS31.blk 2 rfl) (fun h => h)) ?_
    refine wpL_q (U := NoB) rfl (q_move (v := r10) rfl a41_6) ?_
    refine wpL_o rfl ?_
    refine e_call rfl Try.call24 (arr2 (v0 := Value.agg #[I (a.Signs), vn, vt]) (v1 := r10) rfl rfl) (Takes vn vt r10 a r10m (hS31.rdN 3 rfl) (hS31.rdN 4 rfl) hsg (hS31.rdN 1 rfl)) ?_
    rintro _ H43 ⟨hxx, rfl⟩
    have hS44 : St H0 NoB NoB [blkE g14 (.cells #[I ((autoTakes a l).2.1), I ((autoTakes a l).2.2)] 24), rdE r10 (r10m : List Int), blkE g1 (.cells #[I (a.Signs), vn, vt] 36), rdE vn (a.Next : List (List Int)), rdE vt (a.Takes : List Bool), rdE vl (l : List Int)] H43 := hS31.ext hxx
    refine wpL_q (U := NoB) rfl (q_move (v := Value.tuple #[B ((autoTakes a r10m).1), Value.agg #[I ((autoTakes a r10m).2.1), I ((autoTakes a r10m).2.2)]]) rfl rfl) ?_
    refine wpL_q (U := NoB) rfl (q_extract (vs := #[B ((autoTakes a r10m).1), Value.agg #[I ((autoTakes a r10m).2.1), I ((autoTakes a r10m).2.2)]]) (v := B ((autoTakes a r10m).1)) rfl rfl rfl) ?_
    refine wpL_q (U := NoB) rfl (q_extract (vs := #[B ((autoTakes a r10m).1), Value.agg #[I ((autoTakes a r10m).2.1), I ((autoTakes a r10m).2.2)]]) (v := Value.agg #[I ((autoTakes a r10m).2.1), I ((autoTakes a r10m).2.2)]) rfl rfl rfl) ?_
    refine wpL_o rfl ?_
    refine e_alloc rfl Try.zeroValue24 hS44 (fun g46 H47 hS48 hxx => ?_)
    replace hS48 : St H0 NoB NoB [blkE g46 (.cells #[I (0), I (0)] 24), blkE g14 (.cells #[I ((autoTakes a l).2.1), I ((autoTakes a l).2.2)] 24), rdE r10 (r10m : List Int), blkE g1 (.cells #[I (a.Signs), vn, vt] 36), rdE vn (a.Next : List (List Int)), rdE vt (a.Takes : List Bool), rdE vl (l : List Int)] H47 := hS48
    refine wpL_q (U := NoB) rfl (q_assign (v := B ((autoTakes a r10m).1)) rfl rfl) ?_
    refine wpL_o rfl ?_
    refine e_storeBlkA (cs' := #[I ((autoTakes a r10m).2.1), I ((autoTakes a r10m).2.2)]) rfl rfl rfl Try.sizeOf24 rfl rfl (List.forall_mem_cons.2 ⟨rfl, List.forall_mem_cons.2 ⟨rfl, List.forall_mem_nil _⟩⟩) hS48 (fun H49 hS50 hxx => ?_)
    replace hS50 : St H0 NoB NoB [blkE g46 (.cells #[I ((autoTakes a r10m).2.1), I ((autoTakes a r10m).2.2)] 24), blkE g14 (.cells #[I ((autoTakes a l).2.1), I ((autoTakes a l).2.2)] 24), rdE r10 (r10m : List Int), blkE g1 (.cells #[I (a.Signs), vn, vt] 36), rdE vn (a.Next : List (List Int)), rdE vt (a.Takes : List Bool), rdE vl (l : List Int)] H49 := hS50
    exact ⟨g46, a41_1, a41_6, a41_9, rfl, rfl, hS50⟩
  rintro f51 H51 ⟨g46, a51_1, a51_6, a51_9, a51_10, a51_11, hS51⟩
  clear a41_1 a41_2 a41_51 a41_6 a41_9
  refine wpF_seq ?_
  refine wpF_cut (fun f H => f 1 = vl ∧ f 6 = r10 ∧ f 9 = B ((autoTakes a l).1) ∧ f 64 = B (decide ((((autoTakes a r10m).2.1) ≠ 0) ∨ ((!((autoTakes a r10m).1)) = true))) ∧ H51 = H) ?_ ?_
  · refine wpF_region ?_
    refine wpL_q (U := NoB) rfl (q_fieldAddr rfl Try.underlying24 rfl Try.sizeOf3 a51_11) ?_
    refine wpL_q (U := NoB) rfl (q_loadBlk rfl rfl Try.isAgg3 (hS51.blk 0 rfl) rfl (fun h => h)) ?_
    refine wpL_q (U := NoB) rfl (q_neq rfl rfl rfl) ?_
    refine wpL_q (U := NoB) rfl (q_move (v := B (decide (((autoTakes a r10m).2.1) ≠ 0))) rfl rfl) ?_
    by_cases hg52 : ((autoTakes a r10m).2.1) ≠ 0
    · have hb53 := Eq.trans rfl (congrArg B (decide_eq_true hg52))
      refine wpL_gs rfl rfl rfl hb53 rfl ?_
      refine wpL_gs rfl rfl rfl hb53 rfl ?_
      refine wpL_q (U := NoB) rfl (q_pickT (v := B (true)) rfl hb53 rfl) ?_
      exact ⟨a51_1, a51_6, a51_9, (Eq.trans rfl (congrArg B ((decide_eq_true (Or.inl hg52)).symm))), rfl⟩
    · have hb54 := Eq.trans rfl (congrArg B (decide_eq_false hg52))
      refine wpL_gq (U := NoB) rfl rfl rfl hb54 (q_move (v := B ((autoTakes a r10m).1)) rfl a51_10) ?_
      refine wpL_gq (U := NoB) rfl rfl rfl hb54 (q_not rfl rfl) ?_
      refine wpL_q (U := NoB) rfl (q_pickF (v := B (!((autoTakes a r10m).1))) rfl hb54 rfl) ?_
      exact ⟨a51_1, a51_6, a51_9, (Eq.trans rfl (congrArg B (bool_congr_of ((Iff.rfl).trans (((or_iff_right hg52).trans Iff.rfl)).symm)))), rfl⟩
  rintro f55 _ ⟨a55_1, a55_6, a55_9, a55_64, rfl⟩
  clear a51_1 a51_10 a51_11 a51_6 a51_9
  refine wpF_condP a55_64 (fun h5 => ?t71) (fun h5 => ?e71)
  case t71 =>
    refine wpF_seq ?_
    refine wpF_cut (fun f H => f 4 = B (false) ∧ H51 = H) ?_ ?_
    · refine wpF_region ?_
      refine wpL_q (U := NoB) rfl (q_assign (v := B (false)) rfl rfl) ?_
      exact ⟨rfl, rfl⟩
    rintro f57 _ ⟨a57_4, rfl⟩
    clear a55_1 a55_6 a55_64 a55_9
    refine wpF_ret ?_
    refine ⟨_, resT a57_4 resN, hS51.frame, ?_⟩
    show (B (false)) = B true
    exfalso
    exact anyLaw_q hz hA2 (by simpa using h3) (by omega) h5
  refine wpF_skip ?_
  refine wpF_seq ?_
  refine wpF_cut (fun f H => f 4 = B (decide ((((!((autoTakes a l).1)) = true) ∨ ((r10m.length : Int) < (l.length : Int))) ∨ (((l.length : Int) = (r10m.length : Int)) ∧ ((!(lessL l r10m)) = true)))) ∧ St H0 NoB NoB [blkE g46 (.cells #[I ((autoTakes a r10m).2.1), I ((autoTakes a r10m).2.2)] 24), blkE g14 (.cells #[I ((autoTakes a l).2.1), I ((autoTakes a l).2.2)] 24), rdE r10 (r10m : List Int), blkE g1 (.cells #[I (a.Signs), vn, vt] 36), rdE vn (a.Next : List (List Int)), rdE vt (a.Takes : List Bool), rdE vl (l : List Int)] H) ?_ ?_
  · refine wpF_region ?_
    refine wpL_q (U := NoB) rfl (q_move (v := B ((autoTakes a l).1)) rfl a55_9) ?_
    refine wpL_q (U := NoB) rfl (q_not rfl rfl) ?_
    refine wpL_q (U := NoB) rfl (q_move (v := B (!((autoTakes a l).1))) rfl rfl) ?_
    by_cases hg58 : (!((autoTakes a l).1)) = true
    · have hb59 := Eq.trans rfl (congrArg B hg58)
      refine wpL_gs rfl rfl rfl hb59 rfl ?_
      refine wpL_gs rfl rfl rfl hb59 rfl ?_
      refine wpL_gs rfl rfl rfl hb59 rfl ?_
      refine wpL_gs rfl rfl rfl hb59 rfl ?_
      refine wpL_gs rfl rfl rfl hb59 rfl ?_
      refine wpL_q (U := NoB) rfl (q_pickT (v := B (true)) rfl hb59 rfl) ?_
      refine wpL_q (U := NoB) rfl (q_move (v := B (true)) rfl rfl) ?_
      refine wpL_gs rfl rfl rfl rfl rfl ?_
      refine wpL_gs rfl rfl rfl rfl rfl ?_
      refine wpL_gs rfl rfl rfl rfl rfl ?_
      refine wpL_gs rfl rfl rfl rfl rfl ?_
      refine wpL_gs rfl rfl rfl rfl rfl ?_
      refine wpL_gs rfl rfl rfl rfl rfl ?_
      refine wpL_gs' rfl rfl rfl rfl ?_
      refine wpL_gs' rfl rfl rfl rfl ?_
      refine wpL_gs' rfl rfl rfl rfl ?_
      refine wpL_gs' rfl rfl rfl rfl ?_
      refine wpL_gs rfl rfl rfl rfl rfl ?_
      refine wpL_q (U := NoB) rfl (q_pickT (v := B (true)) rfl rfl rfl) ?_
      refine wpL_q (U := NoB) rfl (q_assign (v := B (true)) rfl rfl) ?_
      exact ⟨(Eq.trans rfl (congrArg B ((decide_eq_true (Or.inl (Or.inl hg58))).symm))), hS51⟩
    · have hb60 := Eq.trans rfl (congrArg B (Bool.eq_false_iff.2 hg58))
      refine wpL_gq (U := NoB) rfl rfl rfl hb60 (q_move (v := vl) rfl a55_1) ?_
      refine wpL_gq (U := NoB) rfl rfl rfl hb60 (q_lenRd rfl Try.underlying22 rfl (hS51.rdl 6 rfl)) ?_
      refine wpL_gq (U := NoB) rfl rfl rfl hb60 (q_move (v := r10) rfl a55_6) ?_
      refine wpL_gq (U := NoB) rfl rfl rfl hb60 (q_lenRd rfl Try.underlying22 rfl (hS51.rdl 2 rfl)) ?_
      refine wpL_gq (U := NoB) rfl rfl rfl hb60 (q_gtr rfl rfl rfl) ?_
      refine wpL_q (U := NoB) rfl (q_pickF (v := B (decide ((r10m.length : Int) < (l.length : Int)))) rfl hb60 rfl) ?_
      refine wpL_q (U := NoB) rfl (q_move (v := B (decide ((r10m.length : Int) < (l.length : Int)))) rfl rfl) ?_
      by_cases hg61 : (r10m.length : Int) < (l.length : Int)
      · have hb62 := Eq.trans rfl (congrArg B (decide_eq_true hg61))
        refine wpL_gs rfl rfl rfl hb62 rfl ?_
        refine wpL_gs rfl rfl rfl hb62 rfl ?_
        refine wpL_gs rfl rfl rfl hb62 rfl ?_
        refine wpL_gs rfl rfl rfl hb62 rfl ?_
        refine wpL_gs rfl rfl rfl hb62 rfl ?_
        refine wpL_gs rfl rfl rfl hb62 rfl ?_
        refine wpL_gs' rfl rfl rfl rfl ?_
        refine wpL_gs' rfl rfl rfl rfl ?_
        refine wpL_gs' rfl rfl rfl rfl ?_
        refine wpL_gs' rfl rfl rfl rfl ?_
        refine wpL_gs rfl rfl rfl hb62 rfl ?_
        refine wpL_q (U := NoB) rfl (q_pickT (v := B (true)) rfl hb62 rfl) ?_
        refine wpL_q (U := NoB) rfl (q_assign (v := B (true)) rfl rfl) ?_
        exact ⟨(Eq.trans rfl (congrArg B ((decide_eq_true (Or.inl (Or.inr hg61))).symm))), hS51⟩
      · have hb63 := Eq.trans rfl (congrArg B (decide_eq_false hg61))
        refine wpL_gq (U := NoB) rfl rfl rfl hb63 (q_move (v := vl) rfl a55_1) ?_
        refine wpL_gq (U := NoB) rfl rfl rfl hb63 (q_lenRd rfl Try.underlying22 rfl (hS51.rdl 6 rfl)) ?_
        refine wpL_gq (U := NoB) rfl rfl rfl hb63 (q_move (v := r10) rfl a55_6) ?_
        refine wpL_gq (U := NoB) rfl rfl rfl hb63 (q_lenRd rfl Try.underlying22 rfl (hS51.rdl 2 rfl)) ?_
        refine wpL_gq (U := NoB) rfl rfl rfl hb63 (q_eql rfl rfl rfl) ?_
        refine wpL_gq (U := NoB) rfl rfl rfl hb63 (q_move (v := B (decide ((l.length : Int) = (r10m.length : Int)))) rfl rfl) ?_
        by_cases hg64 : (l.length : Int) = (r10m.length : Int)
        · have hb65 := Eq.trans rfl (congrArg B (decide_eq_true hg64))
          refine wpL_gq (U := NoB) rfl rfl rfl hb65 (q_move (v := vl) rfl a55_1) ?_
          refine wpL_gq (U := NoB) rfl rfl rfl hb65 (q_move (v := r10) rfl a55_6) ?_
          refine wpL_go rfl rfl rfl hb65 ?_
          refine e_call rfl Try.call29 (arr2 (v0 := vl) (v1 := r10) rfl rfl) (Less_R vl r10 _ _ (hS51.rdN 6 rfl) (hS51.rdN 2 rfl)) ?_
          rintro _ H67 ⟨hxx, rfl⟩
          have hS68 : St H0 NoB NoB [blkE g46 (.cells #[I ((autoTakes a r10m).2.1), I ((autoTakes a r10m).2.2)] 24), blkE g14 (.cells #[I ((autoTakes a l).2.1), I ((autoTakes a l).2.2)] 24), rdE r10 (r10m : List Int), blkE g1 (.cells #[I (a.Signs), vn, vt] 36), rdE vn (a.Next : List (List Int)), rdE vt (a.Takes : List Bool), rdE vl (l : List Int)] H67 := hS51.ext hxx
          refine wpL_gq (U := NoB) rfl rfl rfl hb65 (q_not rfl rfl) ?_
          refine wpL_gq (U := NoB) rfl rfl rfl hb63 (q_pickT (v := B (!(lessL l r10m))) rfl hb65 rfl) ?_
          refine wpL_q (U := NoB) rfl (q_pickF (v := B (!(lessL l r10m))) rfl hb63 rfl) ?_
          refine wpL_q (U := NoB) rfl (q_assign (v := B (!(lessL l r10m))) rfl rfl) ?_
          exact ⟨(Eq.trans rfl (congrArg B (bool_congr_of ((Iff.rfl).trans (((or_iff_right (not_or.2 ⟨hg58, hg61⟩)).trans ((and_iff_right hg64).trans Iff.rfl))).symm)))), hS68⟩
        · have hb66 := Eq.trans rfl (congrArg B (decide_eq_false hg64))
          refine wpL_gs rfl rfl rfl hb66 rfl ?_
          refine wpL_gs rfl rfl rfl hb66 rfl ?_
          refine wpL_gs rfl rfl rfl hb66 rfl ?_
          refine wpL_gs rfl rfl rfl hb66 rfl ?_
          refine wpL_gq (U := NoB) rfl rfl rfl hb63 (q_pickF (v := B (false)) rfl hb66 rfl) ?_
          refine wpL_q (U := NoB) rfl (q_pickF (v := B (false)) rfl hb63 rfl) ?_
          refine wpL_q (U := NoB) rfl (q_assign (v := B (false)) rfl rfl) ?_
          exact ⟨(Eq.trans rfl (congrArg B ((decide_eq_false (not_or.2 ⟨(not_or.2 ⟨hg58, hg61⟩), (fun h => hg64 h.1)⟩)).symm))), hS51⟩
  rintro f70 H70 ⟨a70_4, hS70⟩
  clear a55_1 a55_6 a55_64 a55_9
  refine wpF_ret ?_
  refine ⟨_, resT a70_4 resN, hS70.frame, ?_⟩
  show (B (decide ((((!((autoTakes a l).1)) = true) ∨ ((r10m.length : Int) < (l.length : Int))) ∨ (((l.length : Int) = (r10m.length : Int)) ∧ ((!(lessL l r10m)) = true))))) = B true
  exact congrArg B (decide_eq_true (anyLaw_p hz hA2 (by simpa using h3) htf hv))

end Go.Um
