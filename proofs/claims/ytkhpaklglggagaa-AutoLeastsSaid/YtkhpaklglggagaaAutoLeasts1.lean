import Derived.Test.YtkhpaklglggagaaProg
import Derived.Test.YtkhpaklglggagaaAutoQ2
import Derived.Test.YtkhpaklglggagaaAutoQ4
import Derived.Test.YtkhpaklglggagaaAutoN1
import Derived.Test.YtkhpaklglggagaaAutoL3
import Derived.Test.YtkhpaklglggagaaUmSub
namespace Go.Um
open Go.Proofs
open GoT (sz ag rdc)
open KeyT (kv)

theorem fl24_AutoLeasts1 (a b c d : Int) (w : World) : (Op.equalIn 10000 24 (.agg #[I a, I b]) (.agg #[I c, I d])).run Try.prog w = .ok (decide (a = c ∧ b = d)) w := eq2_run Try.underlying24 Try.underlying3 Try.underlying3 (by decide) (by decide) rfl rfl Try.isAgg3 Try.isAgg3 Try.stoodInHeld24 a b c d w

set_option maxHeartbeats 8000000 in
set_option maxRecDepth 100000 in
theorem AutoLeasts_L {H0 : Heap} (vn vt : Value) (a : Auto) (rn : Rd NoB H0 vn a.Next) (rt : Rd NoB H0 vt a.Takes) (hsg : In64 a.Signs) : CallsH Try.prog 9 #[Value.agg #[I (a.Signs), vn, vt]] H0 (fun rv_ H' => Ext NoB H0 H' ∧ rv_ = B true) := by
  have hsn := (Rd.list.1 rn).small
  have hst := (Rd.list.1 rt).small
  have g1 : In64 (leastR a).1.Signs := leastR_sg hsg
  have g5 : In64 (leastA a).Signs := least_sg2 hsg
  have hS0 : St H0 NoB NoB [rdE vn a.Next, rdE vt a.Takes] H0 := St.arg (St.arg (St.start (fun _ h => h.elim)) (Bl0.nil) rt (fun _ h => h)) (Bl0.cons (Bl0.nil)) rn (fun _ h => h)
  refine callsH_of_wpF (args := [Value.agg #[I (a.Signs), vn, vt]]) (rs := [.tmp 2]) Try.func9 rfl Try.ntmps9 Try.results9 (by kernel_rfl) (Nat.le_of_ble_eq_true rfl) ?_
  have a0_0 : argF [Value.agg #[I (a.Signs), vn, vt]] 0 = Value.agg #[I (a.Signs), vn, vt] := rfl
  generalize argF [Value.agg #[I (a.Signs), vn, vt]] = f0 at *
  refine wpF_seq ?_
  refine wpF_cut (fun f H => ∃ (g1 : Nat), f 1 = PT g1 0 ∧ St H0 NoB NoB [blkE g1 (.cells #[I (a.Signs), vn, vt] 36), rdE vn a.Next, rdE vt a.Takes] H) ?_ ?_
  · refine wpF_region ?_
    refine wpL_o rfl ?_
    refine e_box (v := Value.agg #[I (a.Signs), vn, vt]) rfl a0_0 hS0 (fun g1 H2 hS3 hxx => ?_)
    replace hS3 : St H0 NoB NoB [blkE g1 (.cells #[I (a.Signs), vn, vt] 36), rdE vn a.Next, rdE vt a.Takes] H2 := hS3
    refine wpL_q (U := NoB) rfl (q_assign (v := B (false)) rfl rfl) ?_
    exact ⟨g1, rfl, hS3⟩
  rintro f4 H4 ⟨g1, a4_1, hS4⟩
  clear a0_0
  refine wpF_seq ?_
  refine wpF_seq ?_
  refine wpF_cut (fun f H => f 1 = PT g1 0 ∧ f 14 = B (decide (60 < (a.Next.length : Int))) ∧ H4 = H) ?_ ?_
  · refine wpF_region ?_
    refine wpL_q (U := NoB) rfl (q_fieldAddr rfl Try.underlying36 rfl Try.sizeOf27 a4_1) ?_
    refine wpL_q (U := NoB) rfl (q_loadBlk rfl rfl Try.isAgg27 (hS4.blk 0 rfl) rfl (fun h => h)) ?_
    refine wpL_q (U := NoB) rfl (q_lenRd rfl Try.underlying27 rfl (hS4.rdl 1 rfl)) ?_
    refine wpL_q (U := NoB) rfl (q_gtr rfl rfl rfl) ?_
    exact ⟨a4_1, rfl, rfl⟩
  rintro f5 _ ⟨a5_1, a5_14, rfl⟩
  clear a4_1
  refine wpF_condP a5_14 (fun h14 => ?t78) (fun h14 => ?e78)
  case t78 =>
    refine wpF_seq ?_
    refine wpF_cut (fun f H => f 2 = B (true) ∧ H4 = H) ?_ ?_
    · refine wpF_region ?_
      refine wpL_q (U := NoB) rfl (q_assign (v := B (true)) rfl rfl) ?_
      exact ⟨rfl, rfl⟩
    rintro f7 _ ⟨a7_2, rfl⟩
    clear a5_1 a5_14
    refine wpF_ret ?_
    refine ⟨_, resT a7_2 resN, hS4.frame, ?_⟩
    show (B (true)) = B true
    rfl
  refine wpF_skip ?_
  refine wpF_seq ?_
  refine wpF_cut (fun f H => ∃ (g11 : Nat), f 1 = PT g1 0 ∧ f 3 = PT g11 0 ∧ St H0 NoB NoB [blkE g11 (.cells #[I ((autoFault a).1), I ((autoFault a).2)] 24), blkE g1 (.cells #[I (a.Signs), vn, vt] 36), rdE vn a.Next, rdE vt a.Takes] H) ?_ ?_
  · refine wpF_region ?_
    refine wpL_q (U := NoB) rfl (q_loadBlkA rfl a5_1 Try.isAgg36 Try.sizeOf36 rfl (hS4.blk 0 rfl) (fun h => h)) ?_
    refine wpL_o rfl ?_
    refine e_call rfl Try.call20 (arr1 (v0 := Value.agg #[I (a.Signs), vn, vt]) rfl) (Auto_R vn vt a (hS4.rdN 1 rfl) (hS4.rdN 2 rfl) hsg) ?_
    rintro _ H8 ⟨hxx, rfl⟩
    have hS9 : St H0 NoB NoB [blkE g1 (.cells #[I (a.Signs), vn, vt] 36), rdE vn a.Next, rdE vt a.Takes] H8 := hS4.ext hxx
    refine wpL_o rfl ?_
    refine e_alloc rfl Try.zeroValue24 hS9 (fun g11 H12 hS13 hxx => ?_)
    replace hS13 : St H0 NoB NoB [blkE g11 (.cells #[I (0), I (0)] 24), blkE g1 (.cells #[I (a.Signs), vn, vt] 36), rdE vn a.Next, rdE vt a.Takes] H12 := hS13
    refine wpL_o rfl ?_
    refine e_storeBlkA (cs' := #[I ((autoFault a).1), I ((autoFault a).2)]) rfl rfl rfl Try.sizeOf24 rfl rfl (List.forall_mem_cons.2 ⟨rfl, List.forall_mem_cons.2 ⟨rfl, List.forall_mem_nil _⟩⟩) hS13 (fun H14 hS15 hxx => ?_)
    replace hS15 : St H0 NoB NoB [blkE g11 (.cells #[I ((autoFault a).1), I ((autoFault a).2)] 24), blkE g1 (.cells #[I (a.Signs), vn, vt] 36), rdE vn a.Next, rdE vt a.Takes] H14 := hS15
    exact ⟨g11, a5_1, rfl, hS15⟩
  rintro f16 H16 ⟨g11, a16_1, a16_3, hS16⟩
  clear a5_1 a5_14
  refine wpF_seq ?_
  refine wpF_cut (fun f H => ∃ (r17 : Value), ∃ (r18 : Value), ∃ (g22 : Nat), ∃ (g25 : Nat), f 1 = PT g1 0 ∧ f 3 = PT g11 0 ∧ f 4 = PT g22 0 ∧ f 5 = PT g25 0 ∧ St H0 NoB NoB [blkE g25 (.cells #[I ((leastR a).2.1), I ((leastR a).2.2)] 24), blkE g22 (.cells #[I ((leastR a).1.Signs), r17, r18] 36), rdE r17 ((leastR a).1.Next), rdE r18 ((leastR a).1.Takes), blkE g11 (.cells #[I ((autoFault a).1), I ((autoFault a).2)] 24), blkE g1 (.cells #[I (a.Signs), vn, vt] 36), rdE vn a.Next, rdE vt a.Takes] H) ?_ ?_
  · refine wpF_region ?_
    refine wpL_q (U := NoB) rfl (q_loadBlkA rfl a16_1 Try.isAgg36 Try.sizeOf36 rfl (hS16.blk 1 rfl) (fun h => h)) ?_
    refine wpL_o rfl ?_
    refine e_call rfl Try.call40 (arr1 (v0 := Value.agg #[I (a.Signs), vn, vt]) rfl) (Least_L vn vt a (hS16.rdS 2 rfl) (hS16.rdS 3 rfl) hsg) ?_
    rintro _ H19 ⟨hxx, r17, r18, rfl, hrr17, hrr18⟩
    have hS20 : St H0 NoB NoB [rdE r17 ((leastR a).1.Next), rdE r18 ((leastR a).1.Takes), blkE g11 (.cells #[I ((autoFault a).1), I ((autoFault a).2)] 24), blkE g1 (.cells #[I (a.Signs), vn, vt] 36), rdE vn a.Next, rdE vt a.Takes] H19 := (hS16.res2 hxx hrr17 hrr18)
    refine wpL_q (U := NoB) rfl (q_move (v := Value.tuple #[Value.agg #[I ((leastR a).1.Signs), r17, r18], Value.agg #[I ((leastR a).2.1), I ((leastR a).2.2)]]) rfl rfl) ?_
    refine wpL_q (U := NoB) rfl (q_extract (vs := #[Value.agg #[I ((leastR a).1.Signs), r17, r18], Value.agg #[I ((leastR a).2.1), I ((leastR a).2.2)]]) (v := Value.agg #[I ((leastR a).1.Signs), r17, r18]) rfl rfl rfl) ?_
    refine wpL_q (U := NoB) rfl (q_extract (vs := #[Value.agg #[I ((leastR a).1.Signs), r17, r18], Value.agg #[I ((leastR a).2.1), I ((leastR a).2.2)]]) (v := Value.agg #[I ((leastR a).2.1), I ((leastR a).2.2)]) rfl rfl rfl) ?_
    refine wpL_o rfl ?_
    refine e_alloc rfl Try.zeroValue36 hS20 (fun g22 H23 hS24 hxx => ?_)
    replace hS24 : St H0 NoB NoB [blkE g22 (.cells #[I (0), (Value.slice none 0 0), (Value.slice none 0 0)] 36), rdE r17 ((leastR a).1.Next), rdE r18 ((leastR a).1.Takes), blkE g11 (.cells #[I ((autoFault a).1), I ((autoFault a).2)] 24), blkE g1 (.cells #[I (a.Signs), vn, vt] 36), rdE vn a.Next, rdE vt a.Takes] H23 := hS24
    refine wpL_o rfl ?_
    refine e_alloc rfl Try.zeroValue24 hS24 (fun g25 H26 hS27 hxx => ?_)
    replace hS27 : St H0 NoB NoB [blkE g25 (.cells #[I (0), I (0)] 24), blkE g22 (.cells #[I (0), (Value.slice none 0 0), (Value.slice none 0 0)] 36), rdE r17 ((leastR a).1.Next), rdE r18 ((leastR a).1.Takes), blkE g11 (.cells #[I ((autoFault a).1), I ((autoFault a).2)] 24), blkE g1 (.cells #[I (a.Signs), vn, vt] 36), rdE vn a.Next, rdE vt a.Takes] H26 := hS27
    refine wpL_o rfl ?_
    refine e_storeBlkA (cs' := #[I ((leastR a).1.Signs), r17, r18]) rfl rfl rfl Try.sizeOf36 rfl rfl (List.forall_mem_cons.2 ⟨rfl, List.forall_mem_cons.2 ⟨(oneCell_rdL (hS27.rdl 2 rfl)), List.forall_mem_cons.2 ⟨(oneCell_rdL (hS27.rdl 3 rfl)), List.forall_mem_nil _⟩⟩⟩) (hS27.front 1 rfl) (fun H28 hS29 hxx => ?_)
    replace hS29 : St H0 NoB NoB [blkE g22 (.cells #[I ((leastR a).1.Signs), r17, r18] 36), blkE g25 (.cells #[I (0), I (0)] 24), rdE r17 ((leastR a).1.Next), rdE r18 ((leastR a).1.Takes), blkE g11 (.cells #[I ((autoFault a).1), I ((autoFault a).2)] 24), blkE g1 (.cells #[I (a.Signs), vn, vt] 36), rdE vn a.Next, rdE vt a.Takes] H28 := hS29
    refine wpL_o rfl ?_
    refine e_storeBlkA (cs' := #[I ((leastR a).2.1), I ((leastR a).2.2)]) rfl rfl rfl Try.sizeOf24 rfl rfl (List.forall_mem_cons.2 ⟨rfl, List.forall_mem_cons.2 ⟨rfl, List.forall_mem_nil _⟩⟩) (hS29.front 1 rfl) (fun H30 hS31 hxx => ?_)
    replace hS31 : St H0 NoB NoB [blkE g25 (.cells #[I ((leastR a).2.1), I ((leastR a).2.2)] 24), blkE g22 (.cells #[I ((leastR a).1.Signs), r17, r18] 36), rdE r17 ((leastR a).1.Next), rdE r18 ((leastR a).1.Takes), blkE g11 (.cells #[I ((autoFault a).1), I ((autoFault a).2)] 24), blkE g1 (.cells #[I (a.Signs), vn, vt] 36), rdE vn a.Next, rdE vt a.Takes] H30 := hS31
    exact ⟨r17, r18, g22, g25, a16_1, a16_3, rfl, rfl, hS31⟩
  rintro f32 H32 ⟨r17, r18, g22, g25, a32_1, a32_3, a32_4, a32_5, hS32⟩
  clear a16_1 a16_3
  refine wpF_seq ?_
  refine wpF_cut (fun f H => ∃ (r33 : Value), ∃ (r33m : List Int), ∃ (r33i : Bool), ∃ (g37 : Nat), (AnyOk a r33m r33i) ∧ f 1 = PT g1 0 ∧ f 3 = PT g11 0 ∧ f 4 = PT g22 0 ∧ f 5 = PT g25 0 ∧ f 6 = r33 ∧ f 7 = B (r33i) ∧ f 8 = PT g37 0 ∧ St H0 NoB NoB [blkE g37 (.cells #[I ((autoFault a).1), I ((autoFault a).2)] 24), rdE r33 r33m, blkE g25 (.cells #[I ((leastR a).2.1), I ((leastR a).2.2)] 24), blkE g22 (.cells #[I ((leastR a).1.Signs), r17, r18] 36), rdE r17 ((leastR a).1.Next), rdE r18 ((leastR a).1.Takes), blkE g11 (.cells #[I ((autoFault a).1), I ((autoFault a).2)] 24), blkE g1 (.cells #[I (a.Signs), vn, vt] 36), rdE vn a.Next, rdE vt a.Takes] H) ?_ ?_
  · refine wpF_region ?_
    refine wpL_q (U := NoB) rfl (q_loadBlkA rfl a32_1 Try.isAgg36 Try.sizeOf36 rfl (hS32.blk 5 rfl) (fun h => h)) ?_
    refine wpL_o rfl ?_
    refine e_call rfl Try.call28 (arr1 (v0 := Value.agg #[I (a.Signs), vn, vt]) rfl) (Any vn vt a (hS32.rdS 6 rfl) (hS32.rdS 7 rfl) hsg) ?_
    rintro _ H34 ⟨hxx, r33, r33m, r33i, rfl, hrr33, hAr33⟩
    have hS35 : St H0 NoB NoB [rdE r33 r33m, blkE g25 (.cells #[I ((leastR a).2.1), I ((leastR a).2.2)] 24), blkE g22 (.cells #[I ((leastR a).1.Signs), r17, r18] 36), rdE r17 ((leastR a).1.Next), rdE r18 ((leastR a).1.Takes), blkE g11 (.cells #[I ((autoFault a).1), I ((autoFault a).2)] 24), blkE g1 (.cells #[I (a.Signs), vn, vt] 36), rdE vn a.Next, rdE vt a.Takes] H34 := (hS32.res hxx hrr33)
    refine wpL_q (U := NoB) rfl (q_move (v := Value.tuple #[r33, B (r33i), Value.agg #[I ((autoFault a).1), I ((autoFault a).2)]]) rfl rfl) ?_
    refine wpL_q (U := NoB) rfl (q_extract (vs := #[r33, B (r33i), Value.agg #[I ((autoFault a).1), I ((autoFault a).2)]]) (v := r33) rfl rfl rfl) ?_
    refine wpL_q (U := NoB) rfl (q_extract (vs := #[r33, B (r33i), Value.agg #[I ((autoFault a).1), I ((autoFault a).2)]]) (v := B (r33i)) rfl rfl rfl) ?_
    refine wpL_q (U := NoB) rfl (q_extract (vs := #[r33, B (r33i), Value.agg #[I ((autoFault a).1), I ((autoFault a).2)]]) (v := Value.agg #[I ((autoFault a).1), I ((autoFault a).2)]) rfl rfl rfl) ?_
    refine wpL_o rfl ?_
    refine e_alloc rfl Try.zeroValue24 hS35 (fun g37 H38 hS39 hxx => ?_)
    replace hS39 : St H0 NoB NoB [blkE g37 (.cells #[I (0), I (0)] 24), rdE r33 r33m, blkE g25 (.cells #[I ((leastR a).2.1), I ((leastR a).2.2)] 24), blkE g22 (.cells #[I ((leastR a).1.Signs), r17, r18] 36), rdE r17 ((leastR a).1.Next), rdE r18 ((leastR a).1.Takes), blkE g11 (.cells #[I ((autoFault a).1), I ((autoFault a).2)] 24), blkE g1 (.cells #[I (a.Signs), vn, vt] 36), rdE vn a.Next, rdE vt a.Takes] H38 := hS39
    refine wpL_q (U := NoB) rfl (q_assign (v := r33) rfl rfl) ?_
    refine wpL_q (U := NoB) rfl (q_assign (v := B (r33i)) rfl rfl) ?_
    refine wpL_o rfl ?_
    refine e_storeBlkA (cs' := #[I ((autoFault a).1), I ((autoFault a).2)]) rfl rfl rfl Try.sizeOf24 rfl rfl (List.forall_mem_cons.2 ⟨rfl, List.forall_mem_cons.2 ⟨rfl, List.forall_mem_nil _⟩⟩) hS39 (fun H40 hS41 hxx => ?_)
    replace hS41 : St H0 NoB NoB [blkE g37 (.cells #[I ((autoFault a).1), I ((autoFault a).2)] 24), rdE r33 r33m, blkE g25 (.cells #[I ((leastR a).2.1), I ((leastR a).2.2)] 24), blkE g22 (.cells #[I ((leastR a).1.Signs), r17, r18] 36), rdE r17 ((leastR a).1.Next), rdE r18 ((leastR a).1.Takes), blkE g11 (.cells #[I ((autoFault a).1), I ((autoFault a).2)] 24), blkE g1 (.cells #[I (a.Signs), vn, vt] 36), rdE vn a.Next, rdE vt a.Takes] H40 := hS41
    exact ⟨r33, r33m, r33i, g37, hAr33, a32_1, a32_3, a32_4, a32_5, rfl, rfl, rfl, hS41⟩
  rintro f42 H42 ⟨r33, r33m, r33i, g37, hAr33, a42_1, a42_3, a42_4, a42_5, a42_6, a42_7, a42_8, hS42⟩
  clear a32_1 a32_3 a32_4 a32_5
  have hA := hAr33
  refine wpF_seq ?_
  refine wpF_seq ?_
  refine wpF_cut (fun f H => f 1 = PT g1 0 ∧ f 3 = PT g11 0 ∧ f 4 = PT g22 0 ∧ f 5 = PT g25 0 ∧ f 6 = r33 ∧ f 7 = B (r33i) ∧ f 8 = PT g37 0 ∧ f 30 = B (decide (((autoFault a).1) ≠ 0)) ∧ H42 = H) ?_ ?_
  · refine wpF_region ?_
    refine wpL_q (U := NoB) rfl (q_fieldAddr rfl Try.underlying24 rfl Try.sizeOf3 a42_3) ?_
    refine wpL_q (U := NoB) rfl (q_loadBlk rfl rfl Try.isAgg3 (hS42.blk 6 rfl) rfl (fun h => h)) ?_
    refine wpL_q (U := NoB) rfl (q_neq rfl rfl rfl) ?_
    exact ⟨a42_1, a42_3, a42_4, a42_5, a42_6, a42_7, a42_8, rfl, rfl⟩
  rintro f43 _ ⟨a43_1, a43_3, a43_4, a43_5, a43_6, a43_7, a43_8, a43_30, rfl⟩
  clear a42_1 a42_3 a42_4 a42_5 a42_6 a42_7 a42_8
  refine wpF_condP a43_30 (fun h30 => ?t77) (fun h30 => ?e77)
  case t77 =>
    obtain ⟨hb1, hb2⟩ := hA.bad h30
    refine wpF_seq ?_
    refine wpF_cut (fun f H => f 2 = B (decide (((((((leastR a).2.1) = ((autoFault a).1) ∧ ((leastR a).2.2) = ((autoFault a).2)) ∧ (((autoFault a).1) = ((autoFault a).1) ∧ ((autoFault a).2) = ((autoFault a).2))) ∧ ((((leastR a).1.Next).length : Int) = 0)) ∧ ((r33m.length : Int) = 0)) ∧ ((!r33i) = true))) ∧ H42 = H) ?_ ?_
    · refine wpF_region ?_
      refine wpL_q (U := NoB) rfl (q_loadBlkA rfl a43_5 Try.isAgg24 Try.sizeOf24 rfl (hS42.blk 2 rfl) (fun h => h)) ?_
      refine wpL_q (U := NoB) rfl (q_loadBlkA rfl a43_3 Try.isAgg24 Try.sizeOf24 rfl (hS42.blk 6 rfl) (fun h => h)) ?_
      refine wpL_q (U := NoB) rfl (q_eqlF2 rfl Try.eqGuardType24 (fl24_AutoLeasts1 _ _ _ _) rfl rfl) ?_
      refine wpL_q (U := NoB) rfl (q_move (v := B (decide (((leastR a).2.1) = ((autoFault a).1) ∧ ((leastR a).2.2) = ((autoFault a).2)))) rfl rfl) ?_
      by_cases hg45 : ((leastR a).2.1) = ((autoFault a).1) ∧ ((leastR a).2.2) = ((autoFault a).2)
      · have hb46 := Eq.trans rfl (congrArg B (decide_eq_true hg45))
        refine wpL_gq (U := NoB) rfl rfl rfl hb46 (q_loadBlkA rfl a43_8 Try.isAgg24 Try.sizeOf24 rfl (hS42.blk 0 rfl) (fun h => h)) ?_
        refine wpL_gq (U := NoB) rfl rfl rfl hb46 (q_loadBlkA rfl a43_3 Try.isAgg24 Try.sizeOf24 rfl (hS42.blk 6 rfl) (fun h => h)) ?_
        refine wpL_gq (U := NoB) rfl rfl rfl hb46 (q_eqlF2 rfl Try.eqGuardType24 (fl24_AutoLeasts1 _ _ _ _) rfl rfl) ?_
        refine wpL_q (U := NoB) rfl (q_pickT (v := B (decide (((autoFault a).1) = ((autoFault a).1) ∧ ((autoFault a).2) = ((autoFault a).2)))) rfl hb46 rfl) ?_
        refine wpL_q (U := NoB) rfl (q_move (v := B (decide (((autoFault a).1) = ((autoFault a).1) ∧ ((autoFault a).2) = ((autoFault a).2)))) rfl rfl) ?_
        by_cases hg48 : ((autoFault a).1) = ((autoFault a).1) ∧ ((autoFault a).2) = ((autoFault a).2)
        · have hb49 := Eq.trans rfl (congrArg B (decide_eq_true hg48))
          refine wpL_gq (U := NoB) rfl rfl rfl hb49 (q_fieldAddr rfl Try.underlying36 rfl Try.sizeOf27 a43_4) ?_
          refine wpL_gq (U := NoB) rfl rfl rfl hb49 (q_loadBlk rfl rfl Try.isAgg27 (hS42.blk 3 rfl) rfl (fun h => h)) ?_
          refine wpL_gq (U := NoB) rfl rfl rfl hb49 (q_lenRd rfl Try.underlying27 rfl (hS42.rdl 4 rfl)) ?_
          refine wpL_gq (U := NoB) rfl rfl rfl hb49 (q_eql rfl rfl rfl) ?_
          refine wpL_q (U := NoB) rfl (q_pickT (v := B (decide ((((leastR a).1.Next).length : Int) = 0))) rfl hb49 rfl) ?_
          refine wpL_q (U := NoB) rfl (q_move (v := B (decide ((((leastR a).1.Next).length : Int) = 0))) rfl rfl) ?_
          by_cases hg51 : (((leastR a).1.Next).length : Int) = 0
          · have hb52 := Eq.trans rfl (congrArg B (decide_eq_true hg51))
            refine wpL_gq (U := NoB) rfl rfl rfl hb52 (q_move (v := r33) rfl a43_6) ?_
            refine wpL_gq (U := NoB) rfl rfl rfl hb52 (q_lenRd rfl Try.underlying22 rfl (hS42.rdl 1 rfl)) ?_
            refine wpL_gq (U := NoB) rfl rfl rfl hb52 (q_eql rfl rfl rfl) ?_
            refine wpL_q (U := NoB) rfl (q_pickT (v := B (decide ((r33m.length : Int) = 0))) rfl hb52 rfl) ?_
            refine wpL_q (U := NoB) rfl (q_move (v := B (decide ((r33m.length : Int) = 0))) rfl rfl) ?_
            by_cases hg54 : (r33m.length : Int) = 0
            · have hb55 := Eq.trans rfl (congrArg B (decide_eq_true hg54))
              refine wpL_gq (U := NoB) rfl rfl rfl hb55 (q_move (v := B (r33i)) rfl a43_7) ?_
              refine wpL_gq (U := NoB) rfl rfl rfl hb55 (q_not rfl rfl) ?_
              refine wpL_q (U := NoB) rfl (q_pickT (v := B (!r33i)) rfl hb55 rfl) ?_
              refine wpL_q (U := NoB) rfl (q_assign (v := B (!r33i)) rfl rfl) ?_
              exact ⟨(Eq.trans rfl (congrArg B (bool_congr_of ((Iff.rfl).trans (((and_iff_right ⟨⟨⟨hg45, hg48⟩, hg51⟩, hg54⟩).trans Iff.rfl)).symm)))), rfl⟩
            · have hb56 := Eq.trans rfl (congrArg B (decide_eq_false hg54))
              refine wpL_gs rfl rfl rfl hb56 rfl ?_
              refine wpL_gs rfl rfl rfl hb56 rfl ?_
              refine wpL_q (U := NoB) rfl (q_pickF (v := B (false)) rfl hb56 rfl) ?_
              refine wpL_q (U := NoB) rfl (q_assign (v := B (false)) rfl rfl) ?_
              exact ⟨(Eq.trans rfl (congrArg B ((decide_eq_false (fun h => (fun h => hg54 h.2) h.1)).symm))), rfl⟩
          · have hb53 := Eq.trans rfl (congrArg B (decide_eq_false hg51))
            refine wpL_gs rfl rfl rfl hb53 rfl ?_
            refine wpL_gs rfl rfl rfl hb53 rfl ?_
            refine wpL_gs rfl rfl rfl hb53 rfl ?_
            refine wpL_q (U := NoB) rfl (q_pickF (v := B (false)) rfl hb53 rfl) ?_
            refine wpL_q (U := NoB) rfl (q_move (v := B (false)) rfl rfl) ?_
            refine wpL_gs rfl rfl rfl rfl rfl ?_
            refine wpL_gs rfl rfl rfl rfl rfl ?_
            refine wpL_q (U := NoB) rfl (q_pickF (v := B (false)) rfl rfl rfl) ?_
            refine wpL_q (U := NoB) rfl (q_assign (v := B (false)) rfl rfl) ?_
            exact ⟨(Eq.trans rfl (congrArg B ((decide_eq_false (fun h => (fun h => (fun h => hg51 h.2) h.1) h.1)).symm))), rfl⟩
        · have hb50 := Eq.trans rfl (congrArg B (decide_eq_false hg48))
          refine wpL_gs rfl rfl rfl hb50 rfl ?_
          refine wpL_gs rfl rfl rfl hb50 rfl ?_
          refine wpL_gs rfl rfl rfl hb50 rfl ?_
          refine wpL_gs rfl rfl rfl hb50 rfl ?_
          refine wpL_q (U := NoB) rfl (q_pickF (v := B (false)) rfl hb50 rfl) ?_
          refine wpL_q (U := NoB) rfl (q_move (v := B (false)) rfl rfl) ?_
          refine wpL_gs rfl rfl rfl rfl rfl ?_
          refine wpL_gs rfl rfl rfl rfl rfl ?_
          refine wpL_gs rfl rfl rfl rfl rfl ?_
          refine wpL_q (U := NoB) rfl (q_pickF (v := B (false)) rfl rfl rfl) ?_
          refine wpL_q (U := NoB) rfl (q_move (v := B (false)) rfl rfl) ?_
          refine wpL_gs rfl rfl rfl rfl rfl ?_
          refine wpL_gs rfl rfl rfl rfl rfl ?_
          refine wpL_q (U := NoB) rfl (q_pickF (v := B (false)) rfl rfl rfl) ?_
          refine wpL_q (U := NoB) rfl (q_assign (v := B (false)) rfl rfl) ?_
          exact ⟨(Eq.trans rfl (congrArg B ((decide_eq_false (fun h => (fun h => (fun h => (fun h => hg48 h.2) h.1) h.1) h.1)).symm))), rfl⟩
      · have hb47 := Eq.trans rfl (congrArg B (decide_eq_false hg45))
        refine wpL_gs rfl rfl rfl hb47 rfl ?_
        refine wpL_gs rfl rfl rfl hb47 rfl ?_
        refine wpL_gs rfl rfl rfl hb47 rfl ?_
        refine wpL_q (U := NoB) rfl (q_pickF (v := B (false)) rfl hb47 rfl) ?_
        refine wpL_q (U := NoB) rfl (q_move (v := B (false)) rfl rfl) ?_
        refine wpL_gs rfl rfl rfl rfl rfl ?_
        refine wpL_gs rfl rfl rfl rfl rfl ?_
        refine wpL_gs rfl rfl rfl rfl rfl ?_
        refine wpL_gs rfl rfl rfl rfl rfl ?_
        refine wpL_q (U := NoB) rfl (q_pickF (v := B (false)) rfl rfl rfl) ?_
        refine wpL_q (U := NoB) rfl (q_move (v := B (false)) rfl rfl) ?_
        refine wpL_gs rfl rfl rfl rfl rfl ?_
        refine wpL_gs rfl rfl rfl rfl rfl ?_
        refine wpL_gs rfl rfl rfl rfl rfl ?_
        refine wpL_q (U := NoB) rfl (q_pickF (v := B (false)) rfl rfl rfl) ?_
        refine wpL_q (U := NoB) rfl (q_move (v := B (false)) rfl rfl) ?_
        refine wpL_gs rfl rfl rfl rfl rfl ?_
        refine wpL_gs rfl rfl rfl rfl rfl ?_
        refine wpL_q (U := NoB) rfl (q_pickF (v := B (false)) rfl rfl rfl) ?_
        refine wpL_q (U := NoB) rfl (q_assign (v := B (false)) rfl rfl) ?_
        exact ⟨(Eq.trans rfl (congrArg B ((decide_eq_false (fun h => (fun h => (fun h => (fun h => hg45 h.1) h.1) h.1) h.1)).symm))), rfl⟩
    rintro f57 _ ⟨a57_2, rfl⟩
    clear a43_1 a43_3 a43_30 a43_4 a43_5 a43_6 a43_7 a43_8
    refine wpF_ret ?_
    refine ⟨_, resT a57_2 resN, hS42.frame, ?_⟩
    show (B (decide (((((((leastR a).2.1) = ((autoFault a).1) ∧ ((leastR a).2.2) = ((autoFault a).2)) ∧ (((autoFault a).1) = ((autoFault a).1) ∧ ((autoFault a).2) = ((autoFault a).2))) ∧ ((((leastR a).1.Next).length : Int) = 0)) ∧ ((r33m.length : Int) = 0)) ∧ ((!r33i) = true)))) = B true
    have hbd := leastR_bad h30
    exact congrArg B (decide_eq_true (by rw [hbd, hb1, hb2]; simp))
  have hz := Decidable.of_not_not h30
  have hW := WF.of hz
  have hm := hW.takes
  have hm2 := hW.many
  have hqa := leastR_ok hW
  have hfz := hW.fault
  refine wpF_skip ?_
  refine wpF_seq ?_
  refine wpF_cut (fun f H => ∃ (r58 : Value), ∃ (r58m : List Int), ∃ (r58i : Bool), (AnyIs a r58m r58i) ∧ f 1 = PT g1 0 ∧ f 4 = PT g22 0 ∧ f 5 = PT g25 0 ∧ f 6 = r33 ∧ f 7 = B (r33i) ∧ f 8 = PT g37 0 ∧ f 9 = r58 ∧ f 10 = B (r58i) ∧ St H0 NoB NoB [rdE r58 r58m, blkE g37 (.cells #[I ((autoFault a).1), I ((autoFault a).2)] 24), rdE r33 r33m, blkE g25 (.cells #[I ((leastR a).2.1), I ((leastR a).2.2)] 24), blkE g22 (.cells #[I ((leastR a).1.Signs), r17, r18] 36), rdE r17 ((leastR a).1.Next), rdE r18 ((leastR a).1.Takes), blkE g11 (.cells #[I ((autoFault a).1), I ((autoFault a).2)] 24), blkE g1 (.cells #[I (a.Signs), vn, vt] 36), rdE vn a.Next, rdE vt a.Takes] H) ?_ ?_
  · refine wpF_region ?_
    refine wpL_q (U := NoB) rfl (q_loadBlkA rfl a43_1 Try.isAgg36 Try.sizeOf36 rfl (hS42.blk 7 rfl) (fun h => h)) ?_
    refine wpL_o rfl ?_
    refine e_call rfl Try.call42 (arr1 (v0 := Value.agg #[I (a.Signs), vn, vt]) rfl) (Shortest_R vn vt a (hS42.rdS 8 rfl) (hS42.rdS 9 rfl) hsg hW) ?_
    rintro _ H59 ⟨hxx, r58, r58m, r58i, rfl, hrr58, hQr58⟩
    have hS60 : St H0 NoB NoB [rdE r58 r58m, blkE g37 (.cells #[I ((autoFault a).1), I ((autoFault a).2)] 24), rdE r33 r33m, blkE g25 (.cells #[I ((leastR a).2.1), I ((leastR a).2.2)] 24), blkE g22 (.cells #[I ((leastR a).1.Signs), r17, r18] 36), rdE r17 ((leastR a).1.Next), rdE r18 ((leastR a).1.Takes), blkE g11 (.cells #[I ((autoFault a).1), I ((autoFault a).2)] 24), blkE g1 (.cells #[I (a.Signs), vn, vt] 36), rdE vn a.Next, rdE vt a.Takes] H59 := (hS42.res hxx hrr58)
    refine wpL_q (U := NoB) rfl (q_move (v := Value.tuple #[r58, B (r58i)]) rfl rfl) ?_
    refine wpL_q (U := NoB) rfl (q_extract (vs := #[r58, B (r58i)]) (v := r58) rfl rfl rfl) ?_
    refine wpL_q (U := NoB) rfl (q_extract (vs := #[r58, B (r58i)]) (v := B (r58i)) rfl rfl rfl) ?_
    refine wpL_q (U := NoB) rfl (q_assign (v := r58) rfl rfl) ?_
    refine wpL_q (U := NoB) rfl (q_assign (v := B (r58i)) rfl rfl) ?_
    exact ⟨r58, r58m, r58i, hQr58, a43_1, a43_4, a43_5, a43_6, a43_7, a43_8, rfl, rfl, hS60⟩
  rintro f62 H62 ⟨r58, r58m, r58i, hQr58, a62_1, a62_4, a62_5, a62_6, a62_7, a62_8, a62_9, a62_10, hS62⟩
  clear a43_1 a43_3 a43_30 a43_4 a43_5 a43_6 a43_7 a43_8
  obtain ⟨hu1, hu2⟩ := AnyIs.uniq (hA.is hz) hQr58
  refine wpF_seq ?_
  refine wpF_cut (fun f H => f 2 = B (decide (((((((leastR a).2.1) = 0) ∧ (((autoFault a).1) = 0)) ∧ ((leastR a).1 = (leastA a))) ∧ (r33i = r58i)) ∧ (r33m = r58m))) ∧ St H0 NoB NoB [rdE r58 r58m, blkE g37 (.cells #[I ((autoFault a).1), I ((autoFault a).2)] 24), rdE r33 r33m, blkE g25 (.cells #[I ((leastR a).2.1), I ((leastR a).2.2)] 24), blkE g22 (.cells #[I ((leastR a).1.Signs), r17, r18] 36), rdE r17 ((leastR a).1.Next), rdE r18 ((leastR a).1.Takes), blkE g11 (.cells #[I ((autoFault a).1), I ((autoFault a).2)] 24), blkE g1 (.cells #[I (a.Signs), vn, vt] 36), rdE vn a.Next, rdE vt a.Takes] H) ?_ ?_
  · refine wpF_drawn [] [] (fun _ _ => False) (by kernel_rfl) (by kernel_rfl) ?_
    refine wpR_q 0 (by kernel_rfl) rfl (quietAt rfl rfl (q_fieldAddr rfl Try.underlying24 rfl Try.sizeOf3 a62_5)) ?_
    refine wpR_q 1 (by kernel_rfl) rfl (quietAt rfl rfl (q_loadBlk rfl rfl Try.isAgg3 (hS62.blk 3 rfl) rfl (labU_not [] rfl (List.forall_mem_nil _)))) ?_
    refine wpR_q 2 (by kernel_rfl) rfl (quietAt rfl rfl (q_eql rfl rfl rfl)) ?_
    refine wpR_q 3 (by kernel_rfl) rfl (quietAt rfl rfl (q_move (v := B (decide (((leastR a).2.1) = 0))) rfl rfl)) ?_
    by_cases hg64 : ((leastR a).2.1) = 0
    · have hb65 := Eq.trans rfl (congrArg B (decide_eq_true hg64))
      refine wpR_q 4 (by kernel_rfl) rfl (quietAt_g rfl rfl rfl rfl hb65 (q_fieldAddr rfl Try.underlying24 rfl Try.sizeOf3 a62_8)) ?_
      refine wpR_q 5 (by kernel_rfl) rfl (quietAt_g rfl rfl rfl rfl hb65 (q_loadBlk rfl rfl Try.isAgg3 (hS62.blk 1 rfl) rfl (labU_not [] rfl (List.forall_mem_nil _)))) ?_
      refine wpR_q 6 (by kernel_rfl) rfl (quietAt_g rfl rfl rfl rfl hb65 (q_eql rfl rfl rfl)) ?_
      refine wpR_q 7 (by kernel_rfl) rfl (quietAt rfl rfl (q_pickT (v := B (decide (((autoFault a).1) = 0))) rfl hb65 rfl)) ?_
      refine wpR_q 8 (by kernel_rfl) rfl (quietAt rfl rfl (q_move (v := B (decide (((autoFault a).1) = 0))) rfl rfl)) ?_
      by_cases hg67 : ((autoFault a).1) = 0
      · have hb68 := Eq.trans rfl (congrArg B (decide_eq_true hg67))
        refine wpR_q 9 (by kernel_rfl) rfl (quietAt_g rfl rfl rfl rfl hb68 (q_loadBlkA rfl a62_4 Try.isAgg36 Try.sizeOf36 rfl (hS62.blk 4 rfl) (labU_not [] rfl (List.forall_mem_nil _)))) ?_
        refine wpR_q 10 (by kernel_rfl) rfl (quietAt_g rfl rfl rfl rfl hb68 (q_loadBlkA rfl a62_1 Try.isAgg36 Try.sizeOf36 rfl (hS62.blk 8 rfl) (labU_not [] rfl (List.forall_mem_nil _)))) ?_
        refine wpR_n [11] (by kernel_rfl) ?_
        refine List.forall_mem_cons.2 ⟨?_, List.forall_mem_nil _⟩
        refine exE_g rfl rfl rfl rfl hb68 ?_
        refine e_call rfl Try.call37 (arr1 (v0 := Value.agg #[I (a.Signs), vn, vt]) rfl) (Least_R vn vt a (hS62.rdS 9 rfl) (hS62.rdS 10 rfl) hsg hW) ?_
        rintro _ H63o11 ⟨hxx, r63o11, r63o11x2, rfl, hrr63o11, hrr63o11x2⟩
        have hS63o11 : St H0 NoB NoB [rdE r63o11 ((leastA a).Next), rdE r63o11x2 ((leastA a).Takes), rdE r58 r58m, blkE g37 (.cells #[I ((autoFault a).1), I ((autoFault a).2)] 24), rdE r33 r33m, blkE g25 (.cells #[I ((leastR a).2.1), I ((leastR a).2.2)] 24), blkE g22 (.cells #[I ((leastR a).1.Signs), r17, r18] 36), rdE r17 ((leastR a).1.Next), rdE r18 ((leastR a).1.Takes), blkE g11 (.cells #[I ((autoFault a).1), I ((autoFault a).2)] 24), blkE g1 (.cells #[I (a.Signs), vn, vt] 36), rdE vn a.Next, rdE vt a.Takes] H63o11 := (hS62.res2 hxx hrr63o11 hrr63o11x2)
        refine ⟨Ext.mono hxx (fun _ h => h.elim), ?_⟩
        refine wpR_n [12] (by kernel_rfl) ?_
        refine List.forall_mem_cons.2 ⟨?_, List.forall_mem_nil _⟩
        refine exE_g rfl rfl rfl rfl hb68 ?_
        refine e_call rfl Try.call36 (arr2 (v0 := Value.agg #[I ((leastR a).1.Signs), r17, r18]) (v1 := Value.agg #[I ((leastA a).Signs), r63o11, r63o11x2]) rfl rfl) (SameAuto_R r17 r18 r63o11 r63o11x2 (leastR a).1 (leastA a) (hS63o11.rdN 7 rfl) (hS63o11.rdN 8 rfl) (by assumption) (hS63o11.rdN 0 rfl) (hS63o11.rdN 1 rfl) (by assumption)) ?_
        rintro _ H63o12 ⟨hxx, rfl⟩
        have hS63o12 : St H0 NoB NoB [rdE r63o11 ((leastA a).Next), rdE r63o11x2 ((leastA a).Takes), rdE r58 r58m, blkE g37 (.cells #[I ((autoFault a).1), I ((autoFault a).2)] 24), rdE r33 r33m, blkE g25 (.cells #[I ((leastR a).2.1), I ((leastR a).2.2)] 24), blkE g22 (.cells #[I ((leastR a).1.Signs), r17, r18] 36), rdE r17 ((leastR a).1.Next), rdE r18 ((leastR a).1.Takes), blkE g11 (.cells #[I ((autoFault a).1), I ((autoFault a).2)] 24), blkE g1 (.cells #[I (a.Signs), vn, vt] 36), rdE vn a.Next, rdE vt a.Takes] H63o12 := hS63o11.ext hxx
        refine ⟨Ext.mono hxx (fun _ h => h.elim), ?_⟩
        refine wpR_q 13 (by kernel_rfl) rfl (quietAt rfl rfl (q_pickT (v := B (decide ((leastR a).1 = (leastA a)))) rfl hb68 rfl)) ?_
        refine wpR_q 14 (by kernel_rfl) rfl (quietAt rfl rfl (q_move (v := B (decide ((leastR a).1 = (leastA a)))) rfl rfl)) ?_
        by_cases hg70 : (leastR a).1 = (leastA a)
        · have hb71 := Eq.trans rfl (congrArg B (decide_eq_true hg70))
          refine wpR_q 15 (by kernel_rfl) rfl (quietAt_g rfl rfl rfl rfl hb71 (q_move (v := B (r33i)) rfl a62_7)) ?_
          refine wpR_q 16 (by kernel_rfl) rfl (quietAt_g rfl rfl rfl rfl hb71 (q_move (v := B (r58i)) rfl a62_10)) ?_
          refine wpR_q 17 (by kernel_rfl) rfl (quietAt_g rfl rfl rfl rfl hb71 (q_eqlB rfl Try.underlying4 rfl rfl)) ?_
          refine wpR_q 18 (by kernel_rfl) rfl (quietAt rfl rfl (q_pickT (v := B (decide (r33i = r58i))) rfl hb71 rfl)) ?_
          refine wpR_q 19 (by kernel_rfl) rfl (quietAt rfl rfl (q_move (v := B (decide (r33i = r58i))) rfl rfl)) ?_
          by_cases hg73 : r33i = r58i
          · have hb74 := Eq.trans rfl (congrArg B (decide_eq_true hg73))
            refine wpR_q 20 (by kernel_rfl) rfl (quietAt_g rfl rfl rfl rfl hb74 (q_move (v := r33) rfl a62_6)) ?_
            refine wpR_q 21 (by kernel_rfl) rfl (quietAt_g rfl rfl rfl rfl hb74 (q_move (v := r58) rfl a62_9)) ?_
            refine wpR_n [22] (by kernel_rfl) ?_
            refine List.forall_mem_cons.2 ⟨?_, List.forall_mem_nil _⟩
            refine exE_g rfl rfl rfl rfl hb74 ?_
            refine e_call rfl Try.call32 (arr2 (v0 := r33) (v1 := r58) rfl rfl) (Ints r33 r58 _ _ (hS63o12.rdN 4 rfl) (hS63o12.rdN 2 rfl)) ?_
            rintro _ H63o22 ⟨hxx, rfl⟩
            have hS63o22 : St H0 NoB NoB [rdE r63o11 ((leastA a).Next), rdE r63o11x2 ((leastA a).Takes), rdE r58 r58m, blkE g37 (.cells #[I ((autoFault a).1), I ((autoFault a).2)] 24), rdE r33 r33m, blkE g25 (.cells #[I ((leastR a).2.1), I ((leastR a).2.2)] 24), blkE g22 (.cells #[I ((leastR a).1.Signs), r17, r18] 36), rdE r17 ((leastR a).1.Next), rdE r18 ((leastR a).1.Takes), blkE g11 (.cells #[I ((autoFault a).1), I ((autoFault a).2)] 24), blkE g1 (.cells #[I (a.Signs), vn, vt] 36), rdE vn a.Next, rdE vt a.Takes] H63o22 := hS63o12.ext hxx
            refine ⟨Ext.mono hxx (fun _ h => h.elim), ?_⟩
            refine wpR_q 23 (by kernel_rfl) rfl (quietAt rfl rfl (q_pickT (v := B (decide (r33m = r58m))) rfl hb74 rfl)) ?_
            refine wpR_q 24 (by kernel_rfl) rfl (quietAt rfl rfl (q_assign (v := B (decide (r33m = r58m))) rfl rfl)) ?_
            refine wpR_end (by kernel_rfl) ?_
            exact ⟨(Eq.trans rfl (congrArg B (decide_congr_of ((Iff.rfl).trans (((and_iff_right ⟨⟨⟨hg64, hg67⟩, hg70⟩, hg73⟩).trans Iff.rfl)).symm)))), (hS63o22.drop (sn (sn (sk (sk (sk (sk (sk (sk (sk (sk (sk (sk (sk (List.Sublist.slnil)))))))))))))))⟩
          · have hb75 := Eq.trans rfl (congrArg B (decide_eq_false hg73))
            refine wpR_q 20 (by kernel_rfl) rfl (quietAt_s rfl rfl rfl rfl hb75 rfl) ?_
            refine wpR_q 21 (by kernel_rfl) rfl (quietAt_s rfl rfl rfl rfl hb75 rfl) ?_
            refine wpR_q 22 (by kernel_rfl) rfl (quietAt_s rfl rfl rfl rfl hb75 rfl) ?_
            refine wpR_q 23 (by kernel_rfl) rfl (quietAt rfl rfl (q_pickF (v := B (false)) rfl hb75 rfl)) ?_
            refine wpR_q 24 (by kernel_rfl) rfl (quietAt rfl rfl (q_assign (v := B (false)) rfl rfl)) ?_
            refine wpR_end (by kernel_rfl) ?_
            exact ⟨(Eq.trans rfl (congrArg B ((decide_eq_false (fun h => (fun h => hg73 h.2) h.1)).symm))), (hS63o12.drop (sn (sn (sk (sk (sk (sk (sk (sk (sk (sk (sk (sk (sk (List.Sublist.slnil)))))))))))))))⟩
        · have hb72 := Eq.trans rfl (congrArg B (decide_eq_false hg70))
          refine wpR_q 15 (by kernel_rfl) rfl (quietAt_s rfl rfl rfl rfl hb72 rfl) ?_
          refine wpR_q 16 (by kernel_rfl) rfl (quietAt_s rfl rfl rfl rfl hb72 rfl) ?_
          refine wpR_q 17 (by kernel_rfl) rfl (quietAt_s rfl rfl rfl rfl hb72 rfl) ?_
          refine wpR_q 18 (by kernel_rfl) rfl (quietAt rfl rfl (q_pickF (v := B (false)) rfl hb72 rfl)) ?_
          refine wpR_q 19 (by kernel_rfl) rfl (quietAt rfl rfl (q_move (v := B (false)) rfl rfl)) ?_
          refine wpR_q 20 (by kernel_rfl) rfl (quietAt_s rfl rfl rfl rfl rfl rfl) ?_
          refine wpR_q 21 (by kernel_rfl) rfl (quietAt_s rfl rfl rfl rfl rfl rfl) ?_
          refine wpR_q 22 (by kernel_rfl) rfl (quietAt_s rfl rfl rfl rfl rfl rfl) ?_
          refine wpR_q 23 (by kernel_rfl) rfl (quietAt rfl rfl (q_pickF (v := B (false)) rfl rfl rfl)) ?_
          refine wpR_q 24 (by kernel_rfl) rfl (quietAt rfl rfl (q_assign (v := B (false)) rfl rfl)) ?_
          refine wpR_end (by kernel_rfl) ?_
          exact ⟨(Eq.trans rfl (congrArg B ((decide_eq_false (fun h => (fun h => (fun h => hg70 h.2) h.1) h.1)).symm))), (hS63o12.drop (sn (sn (sk (sk (sk (sk (sk (sk (sk (sk (sk (sk (sk (List.Sublist.slnil)))))))))))))))⟩
      · have hb69 := Eq.trans rfl (congrArg B (decide_eq_false hg67))
        refine wpR_q 9 (by kernel_rfl) rfl (quietAt_s rfl rfl rfl rfl hb69 rfl) ?_
        refine wpR_q 10 (by kernel_rfl) rfl (quietAt_s rfl rfl rfl rfl hb69 rfl) ?_
        refine wpR_q 11 (by kernel_rfl) rfl (quietAt_s rfl rfl rfl rfl hb69 rfl) ?_
        refine wpR_q 12 (by kernel_rfl) rfl (quietAt_s rfl rfl rfl rfl hb69 rfl) ?_
        refine wpR_q 13 (by kernel_rfl) rfl (quietAt rfl rfl (q_pickF (v := B (false)) rfl hb69 rfl)) ?_
        refine wpR_q 14 (by kernel_rfl) rfl (quietAt rfl rfl (q_move (v := B (false)) rfl rfl)) ?_
        refine wpR_q 15 (by kernel_rfl) rfl (quietAt_s rfl rfl rfl rfl rfl rfl) ?_
        refine wpR_q 16 (by kernel_rfl) rfl (quietAt_s rfl rfl rfl rfl rfl rfl) ?_
        refine wpR_q 17 (by kernel_rfl) rfl (quietAt_s rfl rfl rfl rfl rfl rfl) ?_
        refine wpR_q 18 (by kernel_rfl) rfl (quietAt rfl rfl (q_pickF (v := B (false)) rfl rfl rfl)) ?_
        refine wpR_q 19 (by kernel_rfl) rfl (quietAt rfl rfl (q_move (v := B (false)) rfl rfl)) ?_
        refine wpR_q 20 (by kernel_rfl) rfl (quietAt_s rfl rfl rfl rfl rfl rfl) ?_
        refine wpR_q 21 (by kernel_rfl) rfl (quietAt_s rfl rfl rfl rfl rfl rfl) ?_
        refine wpR_q 22 (by kernel_rfl) rfl (quietAt_s rfl rfl rfl rfl rfl rfl) ?_
        refine wpR_q 23 (by kernel_rfl) rfl (quietAt rfl rfl (q_pickF (v := B (false)) rfl rfl rfl)) ?_
        refine wpR_q 24 (by kernel_rfl) rfl (quietAt rfl rfl (q_assign (v := B (false)) rfl rfl)) ?_
        refine wpR_end (by kernel_rfl) ?_
        exact ⟨(Eq.trans rfl (congrArg B ((decide_eq_false (fun h => (fun h => (fun h => (fun h => hg67 h.2) h.1) h.1) h.1)).symm))), hS62⟩
    · have hb66 := Eq.trans rfl (congrArg B (decide_eq_false hg64))
      refine wpR_q 4 (by kernel_rfl) rfl (quietAt_s rfl rfl rfl rfl hb66 rfl) ?_
      refine wpR_q 5 (by kernel_rfl) rfl (quietAt_s rfl rfl rfl rfl hb66 rfl) ?_
      refine wpR_q 6 (by kernel_rfl) rfl (quietAt_s rfl rfl rfl rfl hb66 rfl) ?_
      refine wpR_q 7 (by kernel_rfl) rfl (quietAt rfl rfl (q_pickF (v := B (false)) rfl hb66 rfl)) ?_
      refine wpR_q 8 (by kernel_rfl) rfl (quietAt rfl rfl (q_move (v := B (false)) rfl rfl)) ?_
      refine wpR_q 9 (by kernel_rfl) rfl (quietAt_s rfl rfl rfl rfl rfl rfl) ?_
      refine wpR_q 10 (by kernel_rfl) rfl (quietAt_s rfl rfl rfl rfl rfl rfl) ?_
      refine wpR_q 11 (by kernel_rfl) rfl (quietAt_s rfl rfl rfl rfl rfl rfl) ?_
      refine wpR_q 12 (by kernel_rfl) rfl (quietAt_s rfl rfl rfl rfl rfl rfl) ?_
      refine wpR_q 13 (by kernel_rfl) rfl (quietAt rfl rfl (q_pickF (v := B (false)) rfl rfl rfl)) ?_
      refine wpR_q 14 (by kernel_rfl) rfl (quietAt rfl rfl (q_move (v := B (false)) rfl rfl)) ?_
      refine wpR_q 15 (by kernel_rfl) rfl (quietAt_s rfl rfl rfl rfl rfl rfl) ?_
      refine wpR_q 16 (by kernel_rfl) rfl (quietAt_s rfl rfl rfl rfl rfl rfl) ?_
      refine wpR_q 17 (by kernel_rfl) rfl (quietAt_s rfl rfl rfl rfl rfl rfl) ?_
      refine wpR_q 18 (by kernel_rfl) rfl (quietAt rfl rfl (q_pickF (v := B (false)) rfl rfl rfl)) ?_
      refine wpR_q 19 (by kernel_rfl) rfl (quietAt rfl rfl (q_move (v := B (false)) rfl rfl)) ?_
      refine wpR_q 20 (by kernel_rfl) rfl (quietAt_s rfl rfl rfl rfl rfl rfl) ?_
      refine wpR_q 21 (by kernel_rfl) rfl (quietAt_s rfl rfl rfl rfl rfl rfl) ?_
      refine wpR_q 22 (by kernel_rfl) rfl (quietAt_s rfl rfl rfl rfl rfl rfl) ?_
      refine wpR_q 23 (by kernel_rfl) rfl (quietAt rfl rfl (q_pickF (v := B (false)) rfl rfl rfl)) ?_
      refine wpR_q 24 (by kernel_rfl) rfl (quietAt rfl rfl (q_assign (v := B (false)) rfl rfl)) ?_
      refine wpR_end (by kernel_rfl) ?_
      exact ⟨(Eq.trans rfl (congrArg B ((decide_eq_false (fun h => (fun h => (fun h => (fun h => hg64 h.1) h.1) h.1) h.1)).symm))), hS62⟩
  rintro f76 H76 ⟨a76_2, hS76⟩
  clear a62_1 a62_10 a62_4 a62_5 a62_6 a62_7 a62_8 a62_9
  refine wpF_ret ?_
  refine ⟨_, resT a76_2 resN, hS76.frame, ?_⟩
  show (B (decide (((((((leastR a).2.1) = 0) ∧ (((autoFault a).1) = 0)) ∧ ((leastR a).1 = (leastA a))) ∧ (r33i = r58i)) ∧ (r33m = r58m)))) = B true
  exact congrArg B (decide_eq_true (by rw [hqa, hfz, hu1, hu2]; simp))

end Go.Um
