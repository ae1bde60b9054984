import Derived.Test.YtkhpaklglggagaaProg
import Derived.Test.YtkhpaklglggagaaAutoP5
import Derived.Test.YtkhpaklglggagaaAutoLang
namespace Go.Um
open Go.Proofs
open GoT (sz ag rdc)
open KeyT (kv)



set_option maxHeartbeats 2000000 in
set_option maxRecDepth 100000 in
theorem AutoMorgan_L {H0 : Heap} (vn vt wn wt : Value) (a b : Auto) (rn : Rd NoB H0 vn a.Next) (rt : Rd NoB H0 vt a.Takes) (hsg : In64 a.Signs) (sn : Rd NoB H0 wn b.Next) (st : Rd NoB H0 wt b.Takes) (hsgb : In64 b.Signs) : CallsH Try.prog 12 #[Value.agg #[I (a.Signs), vn, vt], Value.agg #[I (b.Signs), wn, wt]] H0 (fun rv_ H' => Ext NoB H0 H' ∧ rv_ = B true) := by
  have hga : In64 (andR a b).1.Signs := bothR_sg hsg
  have hgo : In64 (orR a b).1.Signs := bothR_sg hsg
  have hgn : In64 (autoNot a).1.Signs := not_sg hsg
  have hgm : In64 (autoNot b).1.Signs := not_sg hsgb
  have hgna : In64 (autoNot (andR a b).1).1.Signs := not_sg hga
  have hgor : In64 (orR (autoNot a).1 (autoNot b).1).1.Signs := bothR_sg hgn
  have hS0 : St H0 NoB NoB [rdE vn (a.Next : List (List Int)), rdE vt (a.Takes : List Bool), rdE wn (b.Next : List (List Int)), rdE wt (b.Takes : List Bool)] H0 := St.arg (St.arg (St.arg (St.arg (St.start (fun _ h => h.elim)) (Bl0.nil) st (fun _ h => h)) (Bl0.cons (Bl0.nil)) sn (fun _ h => h)) (Bl0.cons (Bl0.cons (Bl0.nil))) rt (fun _ h => h)) (Bl0.cons (Bl0.cons (Bl0.cons (Bl0.nil)))) rn (fun _ h => h)
  refine callsH_of_wpF (args := [Value.agg #[I (a.Signs), vn, vt], Value.agg #[I (b.Signs), wn, wt]]) (rs := [.tmp 4]) Try.func12 rfl Try.ntmps12 Try.results12 (by kernel_rfl) (Nat.le_of_ble_eq_true rfl) ?_
  have a0_0 : argF [Value.agg #[I (a.Signs), vn, vt], Value.agg #[I (b.Signs), wn, wt]] 0 = Value.agg #[I (a.Signs), vn, vt] := rfl
  have a0_1 : argF [Value.agg #[I (a.Signs), vn, vt], Value.agg #[I (b.Signs), wn, wt]] 1 = Value.agg #[I (b.Signs), wn, wt] := rfl
  generalize argF [Value.agg #[I (a.Signs), vn, vt], Value.agg #[I (b.Signs), wn, wt]] = f0 at *
  refine wpF_seq ?_
  refine wpF_cut (fun f H => ∃ (g1 : Nat), ∃ (g4 : Nat), f 2 = PT g1 0 ∧ f 3 = PT g4 0 ∧ St H0 NoB NoB [blkE g4 (.cells #[I (b.Signs), wn, wt] 36), blkE g1 (.cells #[I (a.Signs), vn, vt] 36), rdE vn (a.Next : List (List Int)), rdE vt (a.Takes : List Bool), rdE wn (b.Next : List (List Int)), rdE wt (b.Takes : List Bool)] H) ?_ ?_
  · refine wpF_region ?_
    refine wpL_o rfl ?_
    refine e_box (v := Value.agg #[I (a.Signs), vn, vt]) rfl a0_0 hS0 (fun g1 H2 hS3 hxx => ?_)
    replace hS3 : St H0 NoB NoB [blkE g1 (.cells #[I (a.Signs), vn, vt] 36), rdE vn (a.Next : List (List Int)), rdE vt (a.Takes : List Bool), rdE wn (b.Next : List (List Int)), rdE wt (b.Takes : List Bool)] H2 := hS3
    refine wpL_o rfl ?_
    refine e_box (v := Value.agg #[I (b.Signs), wn, wt]) rfl a0_1 hS3 (fun g4 H5 hS6 hxx => ?_)
    replace hS6 : St H0 NoB NoB [blkE g4 (.cells #[I (b.Signs), wn, wt] 36), blkE g1 (.cells #[I (a.Signs), vn, vt] 36), rdE vn (a.Next : List (List Int)), rdE vt (a.Takes : List Bool), rdE wn (b.Next : List (List Int)), rdE wt (b.Takes : List Bool)] H5 := hS6
    refine wpL_q (U := NoB) rfl (q_assign (v := B (false)) rfl rfl) ?_
    exact ⟨g1, g4, rfl, rfl, hS6⟩
  rintro f7 H7 ⟨g1, g4, a7_2, a7_3, hS7⟩
  clear a0_0 a0_1
  refine wpF_seq ?_
  refine wpF_cut (fun f H => f 2 = PT g1 0 ∧ f 3 = PT g4 0 ∧ f 5 = B (true) ∧ St H0 NoB NoB [blkE g4 (.cells #[I (b.Signs), wn, wt] 36), blkE g1 (.cells #[I (a.Signs), vn, vt] 36), rdE vn (a.Next : List (List Int)), rdE vt (a.Takes : List Bool), rdE wn (b.Next : List (List Int)), rdE wt (b.Takes : List Bool)] H) ?_ ?_
  · refine wpF_region ?_
    refine wpL_o rfl ?_
    refine e_call rfl Try.call27 arr0 (autoFact) ?_
    rintro _ H8 ⟨hxx, rfl⟩
    have hS9 : St H0 NoB NoB [blkE g4 (.cells #[I (b.Signs), wn, wt] 36), blkE g1 (.cells #[I (a.Signs), vn, vt] 36), rdE vn (a.Next : List (List Int)), rdE vt (a.Takes : List Bool), rdE wn (b.Next : List (List Int)), rdE wt (b.Takes : List Bool)] H8 := hS7.ext hxx
    refine wpL_q (U := NoB) rfl (q_assign (v := B (true)) rfl rfl) ?_
    exact ⟨a7_2, a7_3, rfl, hS9⟩
  rintro f11 H11 ⟨a11_2, a11_3, a11_5, hS11⟩
  clear a7_2 a7_3
  refine wpF_seq ?_
  refine wpF_seq ?_
  refine wpF_cut (fun f H => f 2 = PT g1 0 ∧ f 3 = PT g4 0 ∧ f 18 = B (false) ∧ H11 = H) ?_ ?_
  · refine wpF_region ?_
    refine wpL_q (U := NoB) rfl (q_move (v := B (true)) rfl a11_5) ?_
    refine wpL_q (U := NoB) rfl (q_not rfl rfl) ?_
    exact ⟨a11_2, a11_3, rfl, rfl⟩
  rintro f12 _ ⟨a12_2, a12_3, a12_18, rfl⟩
  clear a11_2 a11_3 a11_5
  refine wpF_condF a12_18 ?_
  refine wpF_skip ?_
  refine wpF_seq ?_
  refine wpF_cut (fun f H => ∃ (r13 : Value), ∃ (r14 : Value), ∃ (g18 : Nat), ∃ (g21 : Nat), f 2 = PT g1 0 ∧ f 3 = PT g4 0 ∧ f 6 = PT g18 0 ∧ f 7 = PT g21 0 ∧ St H0 NoB NoB [blkE g21 (.cells #[I ((andR a b).2.1), I ((andR a b).2.2)] 24), blkE g18 (.cells #[I ((andR a b).1.Signs), r13, r14] 36), rdE r13 ((andR a b).1.Next : List (List Int)), rdE r14 ((andR a b).1.Takes : List Bool), blkE g4 (.cells #[I (b.Signs), wn, wt] 36), blkE g1 (.cells #[I (a.Signs), vn, vt] 36), rdE vn (a.Next : List (List Int)), rdE vt (a.Takes : List Bool), rdE wn (b.Next : List (List Int)), rdE wt (b.Takes : List Bool)] H) ?_ ?_
  · refine wpF_region ?_
    refine wpL_q (U := NoB) rfl (q_loadBlkA rfl a12_2 Try.isAgg36 Try.sizeOf36 rfl (hS11.blk 1 rfl) (fun h => h)) ?_
    refine wpL_q (U := NoB) rfl (q_loadBlkA rfl a12_3 Try.isAgg36 Try.sizeOf36 rfl (hS11.blk 0 rfl) (fun h => h)) ?_
    refine wpL_o rfl ?_
    refine e_call rfl Try.call33 (arr2 (v0 := Value.agg #[I (a.Signs), vn, vt]) (v1 := Value.agg #[I (b.Signs), wn, wt]) rfl rfl) (And_L vn vt wn wt a b (hS11.rdS 2 rfl) (hS11.rdS 3 rfl) hsg (hS11.rdS 4 rfl) (hS11.rdS 5 rfl) hsgb) ?_
    rintro _ H15 ⟨hxx, r13, r14, rfl, hrr13, hrr14⟩
    have hS16 : St H0 NoB NoB [rdE r13 ((andR a b).1.Next : List (List Int)), rdE r14 ((andR a b).1.Takes : List Bool), blkE g4 (.cells #[I (b.Signs), wn, wt] 36), blkE g1 (.cells #[I (a.Signs), vn, vt] 36), rdE vn (a.Next : List (List Int)), rdE vt (a.Takes : List Bool), rdE wn (b.Next : List (List Int)), rdE wt (b.Takes : List Bool)] H15 := (hS11.res2 hxx hrr13 hrr14)
    refine wpL_q (U := NoB) rfl (q_move (v := Value.tuple #[Value.agg #[I ((andR a b).1.Signs), r13, r14], Value.agg #[I ((andR a b).2.1), I ((andR a b).2.2)]]) rfl rfl) ?_
    refine wpL_q (U := NoB) rfl (q_extract (vs := #[Value.agg #[I ((andR a b).1.Signs), r13, r14], Value.agg #[I ((andR a b).2.1), I ((andR a b).2.2)]]) (v := Value.agg #[I ((andR a b).1.Signs), r13, r14]) rfl rfl rfl) ?_
    refine wpL_q (U := NoB) rfl (q_extract (vs := #[Value.agg #[I ((andR a b).1.Signs), r13, r14], Value.agg #[I ((andR a b).2.1), I ((andR a b).2.2)]]) (v := Value.agg #[I ((andR a b).2.1), I ((andR a b).2.2)]) rfl rfl rfl) ?_
    refine wpL_o rfl ?_
    refine e_alloc rfl Try.zeroValue36 hS16 (fun g18 H19 hS20 hxx => ?_)
    replace hS20 : St H0 NoB NoB [blkE g18 (.cells #[I (0), (Value.slice none 0 0), (Value.slice none 0 0)] 36), rdE r13 ((andR a b).1.Next : List (List Int)), rdE r14 ((andR a b).1.Takes : List Bool), blkE g4 (.cells #[I (b.Signs), wn, wt] 36), blkE g1 (.cells #[I (a.Signs), vn, vt] 36), rdE vn (a.Next : List (List Int)), rdE vt (a.Takes : List Bool), rdE wn (b.Next : List (List Int)), rdE wt (b.Takes : List Bool)] H19 := hS20
    refine wpL_o rfl ?_
    refine e_alloc rfl Try.zeroValue24 hS20 (fun g21 H22 hS23 hxx => ?_)
    replace hS23 : St H0 NoB NoB [blkE g21 (.cells #[I (0), I (0)] 24), blkE g18 (.cells #[I (0), (Value.slice none 0 0), (Value.slice none 0 0)] 36), rdE r13 ((andR a b).1.Next : List (List Int)), rdE r14 ((andR a b).1.Takes : List Bool), blkE g4 (.cells #[I (b.Signs), wn, wt] 36), blkE g1 (.cells #[I (a.Signs), vn, vt] 36), rdE vn (a.Next : List (List Int)), rdE vt (a.Takes : List Bool), rdE wn (b.Next : List (List Int)), rdE wt (b.Takes : List Bool)] H22 := hS23
    refine wpL_o rfl ?_
    refine e_storeBlkA (cs' := #[I ((andR a b).1.Signs), r13, r14]) rfl rfl rfl Try.sizeOf36 rfl rfl (List.forall_mem_cons.2 ⟨rfl, List.forall_mem_cons.2 ⟨(oneCell_rdL (hS23.rdl 2 rfl)), List.forall_mem_cons.2 ⟨(oneCell_rdL (hS23.rdl 3 rfl)), List.forall_mem_nil _⟩⟩⟩) (hS23.front 1 rfl) (fun H24 hS25 hxx => ?_)
    replace hS25 : St H0 NoB NoB [blkE g18 (.cells #[I ((andR a b).1.Signs), r13, r14] 36), blkE g21 (.cells #[I (0), I (0)] 24), rdE r13 ((andR a b).1.Next : List (List Int)), rdE r14 ((andR a b).1.Takes : List Bool), blkE g4 (.cells #[I (b.Signs), wn, wt] 36), blkE g1 (.cells #[I (a.Signs), vn, vt] 36), rdE vn (a.Next : List (List Int)), rdE vt (a.Takes : List Bool), rdE wn (b.Next : List (List Int)), rdE wt (b.Takes : List Bool)] H24 := hS25
    refine wpL_o rfl ?_
    refine e_storeBlkA (cs' := #[I ((andR a b).2.1), I ((andR a b).2.2)]) rfl rfl rfl Try.sizeOf24 rfl rfl (List.forall_mem_cons.2 ⟨rfl, List.forall_mem_cons.2 ⟨rfl, List.forall_mem_nil _⟩⟩) (hS25.front 1 rfl) (fun H26 hS27 hxx => ?_)
    replace hS27 : St H0 NoB NoB [blkE g21 (.cells #[I ((andR a b).2.1), I ((andR a b).2.2)] 24), blkE g18 (.cells #[I ((andR a b).1.Signs), r13, r14] 36), rdE r13 ((andR a b).1.Next : List (List Int)), rdE r14 ((andR a b).1.Takes : List Bool), blkE g4 (.cells #[I (b.Signs), wn, wt] 36), blkE g1 (.cells #[I (a.Signs), vn, vt] 36), rdE vn (a.Next : List (List Int)), rdE vt (a.Takes : List Bool), rdE wn (b.Next : List (List Int)), rdE wt (b.Takes : List Bool)] H26 := hS27
    exact ⟨r13, r14, g18, g21, a12_2, a12_3, rfl, rfl, hS27⟩
  rintro f28 H28 ⟨r13, r14, g18, g21, a28_2, a28_3, a28_6, a28_7, hS28⟩
  clear a12_18 a12_2 a12_3
  refine wpF_seq ?_
  refine wpF_seq ?_
  refine wpF_cut (fun f H => f 2 = PT g1 0 ∧ f 3 = PT g4 0 ∧ f 6 = PT g18 0 ∧ f 7 = PT g21 0 ∧ f 27 = B (decide (((andR a b).2.1) ≠ 0)) ∧ H28 = H) ?_ ?_
  · refine wpF_region ?_
    refine wpL_q (U := NoB) rfl (q_fieldAddr rfl Try.underlying24 rfl Try.sizeOf3 a28_7) ?_
    refine wpL_q (U := NoB) rfl (q_loadBlk rfl rfl Try.isAgg3 (hS28.blk 0 rfl) rfl (fun h => h)) ?_
    refine wpL_q (U := NoB) rfl (q_neq rfl rfl rfl) ?_
    exact ⟨a28_2, a28_3, a28_6, a28_7, rfl, rfl⟩
  rintro f29 _ ⟨a29_2, a29_3, a29_6, a29_7, a29_27, rfl⟩
  clear a28_2 a28_3 a28_6 a28_7
  refine wpF_condP a29_27 (fun h1 => ?t117) (fun h1 => ?e117)
  case t117 =>
    refine wpF_seq ?_
    refine wpF_cut (fun f H => f 4 = B (decide ((((andR a b).1.Next).length : Int) = 0)) ∧ H28 = H) ?_ ?_
    · refine wpF_region ?_
      refine wpL_q (U := NoB) rfl (q_fieldAddr rfl Try.underlying36 rfl Try.sizeOf27 a29_6) ?_
      refine wpL_q (U := NoB) rfl (q_loadBlk rfl rfl Try.isAgg27 (hS28.blk 1 rfl) rfl (fun h => h)) ?_
      refine wpL_q (U := NoB) rfl (q_lenRd rfl Try.underlying27 rfl (hS28.rdl 2 rfl)) ?_
      refine wpL_q (U := NoB) rfl (q_eql rfl rfl rfl) ?_
      refine wpL_q (U := NoB) rfl (q_assign (v := B (decide ((((andR a b).1.Next).length : Int) = 0))) rfl rfl) ?_
      exact ⟨rfl, rfl⟩
    rintro f31 _ ⟨a31_4, rfl⟩
    clear a29_2 a29_27 a29_3 a29_6 a29_7
    refine wpF_ret ?_
    refine ⟨_, resT a31_4 resN, hS28.frame, ?_⟩
    show (B (decide ((((andR a b).1.Next).length : Int) = 0))) = B true
    exact congrArg B (decide_eq_true (by rw [show (andR a b).1.Next = [] from bothR_none h1]; rfl))
  obtain ⟨m1, m2, m3, m4, m5, m6⟩ := morgan_law (a := a) (b := b) (Decidable.of_not_not h1)
  refine wpF_skip ?_
  refine wpF_seq ?_
  refine wpF_cut (fun f H => ∃ (r32 : Value), ∃ (r33 : Value), ∃ (g37 : Nat), ∃ (g40 : Nat), f 2 = PT g1 0 ∧ f 3 = PT g4 0 ∧ f 7 = PT g21 0 ∧ f 8 = PT g37 0 ∧ f 9 = PT g40 0 ∧ St H0 NoB NoB [blkE g40 (.cells #[I ((autoNot (andR a b).1).2.1), I ((autoNot (andR a b).1).2.2)] 24), blkE g37 (.cells #[I ((autoNot (andR a b).1).1.Signs), r32, r33] 36), rdE r32 ((autoNot (andR a b).1).1.Next : List (List Int)), rdE r33 ((autoNot (andR a b).1).1.Takes : List Bool), blkE g21 (.cells #[I ((andR a b).2.1), I ((andR a b).2.2)] 24), blkE g18 (.cells #[I ((andR a b).1.Signs), r13, r14] 36), rdE r13 ((andR a b).1.Next : List (List Int)), rdE r14 ((andR a b).1.Takes : List Bool), blkE g4 (.cells #[I (b.Signs), wn, wt] 36), blkE g1 (.cells #[I (a.Signs), vn, vt] 36), rdE vn (a.Next : List (List Int)), rdE vt (a.Takes : List Bool), rdE wn (b.Next : List (List Int)), rdE wt (b.Takes : List Bool)] H) ?_ ?_
  · refine wpF_region ?_
    refine wpL_q (U := NoB) rfl (q_loadBlkA rfl a29_6 Try.isAgg36 Try.sizeOf36 rfl (hS28.blk 1 rfl) (fun h => h)) ?_
    refine wpL_o rfl ?_
    refine e_call rfl Try.call25 (arr1 (v0 := Value.agg #[I ((andR a b).1.Signs), r13, r14]) rfl) (Not r13 r14 (andR a b).1 (hS28.rdS 2 rfl) (hS28.rdS 3 rfl) (by assumption)) ?_
    rintro _ H34 ⟨hxx, r32, r33, rfl, hrr32, hrr33⟩
    have hS35 : St H0 NoB NoB [rdE r32 ((autoNot (andR a b).1).1.Next : List (List Int)), rdE r33 ((autoNot (andR a b).1).1.Takes : List Bool), blkE g21 (.cells #[I ((andR a b).2.1), I ((andR a b).2.2)] 24), blkE g18 (.cells #[I ((andR a b).1.Signs), r13, r14] 36), rdE r13 ((andR a b).1.Next : List (List Int)), rdE r14 ((andR a b).1.Takes : List Bool), blkE g4 (.cells #[I (b.Signs), wn, wt] 36), blkE g1 (.cells #[I (a.Signs), vn, vt] 36), rdE vn (a.Next : List (List Int)), rdE vt (a.Takes : List Bool), rdE wn (b.Next : List (List Int)), rdE wt (b.Takes : List Bool)] H34 := (hS28.res2 hxx hrr32 hrr33)
    refine wpL_q (U := NoB) rfl (q_move (v := Value.tuple #[Value.agg #[I ((autoNot (andR a b).1).1.Signs), r32, r33], Value.agg #[I ((autoNot (andR a b).1).2.1), I ((autoNot (andR a b).1).2.2)]]) rfl rfl) ?_
    refine wpL_q (U := NoB) rfl (q_extract (vs := #[Value.agg #[I ((autoNot (andR a b).1).1.Signs), r32, r33], Value.agg #[I ((autoNot (andR a b).1).2.1), I ((autoNot (andR a b).1).2.2)]]) (v := Value.agg #[I ((autoNot (andR a b).1).1.Signs), r32, r33]) rfl rfl rfl) ?_
    refine wpL_q (U := NoB) rfl (q_extract (vs := #[Value.agg #[I ((autoNot (andR a b).1).1.Signs), r32, r33], Value.agg #[I ((autoNot (andR a b).1).2.1), I ((autoNot (andR a b).1).2.2)]]) (v := Value.agg #[I ((autoNot (andR a b).1).2.1), I ((autoNot (andR a b).1).2.2)]) rfl rfl rfl) ?_
    refine wpL_o rfl ?_
    refine e_alloc rfl Try.zeroValue36 hS35 (fun g37 H38 hS39 hxx => ?_)
    replace hS39 : St H0 NoB NoB [blkE g37 (.cells #[I (0), (Value.slice none 0 0), (Value.slice none 0 0)] 36), rdE r32 ((autoNot (andR a b).1).1.Next : List (List Int)), rdE r33 ((autoNot (andR a b).1).1.Takes : List Bool), blkE g21 (.cells #[I ((andR a b).2.1), I ((andR a b).2.2)] 24), blkE g18 (.cells #[I ((andR a b).1.Signs), r13, r14] 36), rdE r13 ((andR a b).1.Next : List (List Int)), rdE r14 ((andR a b).1.Takes : List Bool), blkE g4 (.cells #[I (b.Signs), wn, wt] 36), blkE g1 (.cells #[I (a.Signs), vn, vt] 36), rdE vn (a.Next : List (List Int)), rdE vt (a.Takes : List Bool), rdE wn (b.Next : List (List Int)), rdE wt (b.Takes : List Bool)] H38 := hS39
    refine wpL_o rfl ?_
    refine e_alloc rfl Try.zeroValue24 hS39 (fun g40 H41 hS42 hxx => ?_)
    replace hS42 : St H0 NoB NoB [blkE g40 (.cells #[I (0), I (0)] 24), blkE g37 (.cells #[I (0), (Value.slice none 0 0), (Value.slice none 0 0)] 36), rdE r32 ((autoNot (andR a b).1).1.Next : List (List Int)), rdE r33 ((autoNot (andR a b).1).1.Takes : List Bool), blkE g21 (.cells #[I ((andR a b).2.1), I ((andR a b).2.2)] 24), blkE g18 (.cells #[I ((andR a b).1.Signs), r13, r14] 36), rdE r13 ((andR a b).1.Next : List (List Int)), rdE r14 ((andR a b).1.Takes : List Bool), blkE g4 (.cells #[I (b.Signs), wn, wt] 36), blkE g1 (.cells #[I (a.Signs), vn, vt] 36), rdE vn (a.Next : List (List Int)), rdE vt (a.Takes : List Bool), rdE wn (b.Next : List (List Int)), rdE wt (b.Takes : List Bool)] H41 := hS42
    refine wpL_o rfl ?_
    refine e_storeBlkA (cs' := #[I ((autoNot (andR a b).1).1.Signs), r32, r33]) rfl rfl rfl Try.sizeOf36 rfl rfl (List.forall_mem_cons.2 ⟨rfl, List.forall_mem_cons.2 ⟨(oneCell_rdL (hS42.rdl 2 rfl)), List.forall_mem_cons.2 ⟨(oneCell_rdL (hS42.rdl 3 rfl)), List.forall_mem_nil _⟩⟩⟩) (hS42.front 1 rfl) (fun H43 hS44 hxx => ?_)
    replace hS44 : St H0 NoB NoB [blkE g37 (.cells #[I ((autoNot (andR a b).1).1.Signs), r32, r33] 36), blkE g40 (.cells #[I (0), I (0)] 24), rdE r32 ((autoNot (andR a b).1).1.Next : List (List Int)), rdE r33 ((autoNot (andR a b).1).1.Takes : List Bool), blkE g21 (.cells #[I ((andR a b).2.1), I ((andR a b).2.2)] 24), blkE g18 (.cells #[I ((andR a b).1.Signs), r13, r14] 36), rdE r13 ((andR a b).1.Next : List (List Int)), rdE r14 ((andR a b).1.Takes : List Bool), blkE g4 (.cells #[I (b.Signs), wn, wt] 36), blkE g1 (.cells #[I (a.Signs), vn, vt] 36), rdE vn (a.Next : List (List Int)), rdE vt (a.Takes : List Bool), rdE wn (b.Next : List (List Int)), rdE wt (b.Takes : List Bool)] H43 := hS44
    refine wpL_o rfl ?_
    refine e_storeBlkA (cs' := #[I ((autoNot (andR a b).1).2.1), I ((autoNot (andR a b).1).2.2)]) rfl rfl rfl Try.sizeOf24 rfl rfl (List.forall_mem_cons.2 ⟨rfl, List.forall_mem_cons.2 ⟨rfl, List.forall_mem_nil _⟩⟩) (hS44.front 1 rfl) (fun H45 hS46 hxx => ?_)
    replace hS46 : St H0 NoB NoB [blkE g40 (.cells #[I ((autoNot (andR a b).1).2.1), I ((autoNot (andR a b).1).2.2)] 24), blkE g37 (.cells #[I ((autoNot (andR a b).1).1.Signs), r32, r33] 36), rdE r32 ((autoNot (andR a b).1).1.Next : List (List Int)), rdE r33 ((autoNot (andR a b).1).1.Takes : List Bool), blkE g21 (.cells #[I ((andR a b).2.1), I ((andR a b).2.2)] 24), blkE g18 (.cells #[I ((andR a b).1.Signs), r13, r14] 36), rdE r13 ((andR a b).1.Next : List (List Int)), rdE r14 ((andR a b).1.Takes : List Bool), blkE g4 (.cells #[I (b.Signs), wn, wt] 36), blkE g1 (.cells #[I (a.Signs), vn, vt] 36), rdE vn (a.Next : List (List Int)), rdE vt (a.Takes : List Bool), rdE wn (b.Next : List (List Int)), rdE wt (b.Takes : List Bool)] H45 := hS46
    exact ⟨r32, r33, g37, g40, a29_2, a29_3, a29_7, rfl, rfl, hS46⟩
  rintro f47 H47 ⟨r32, r33, g37, g40, a47_2, a47_3, a47_7, a47_8, a47_9, hS47⟩
  clear a29_2 a29_27 a29_3 a29_6 a29_7
  refine wpF_seq ?_
  refine wpF_cut (fun f H => ∃ (r48 : Value), ∃ (r49 : Value), ∃ (g53 : Nat), ∃ (g56 : Nat), f 3 = PT g4 0 ∧ f 7 = PT g21 0 ∧ f 8 = PT g37 0 ∧ f 9 = PT g40 0 ∧ f 10 = PT g53 0 ∧ f 11 = PT g56 0 ∧ St H0 NoB NoB [blkE g56 (.cells #[I ((autoNot a).2.1), I ((autoNot a).2.2)] 24), blkE g53 (.cells #[I ((autoNot a).1.Signs), r48, r49] 36), rdE r48 ((autoNot a).1.Next : List (List Int)), rdE r49 ((autoNot a).1.Takes : List Bool), blkE g40 (.cells #[I ((autoNot (andR a b).1).2.1), I ((autoNot (andR a b).1).2.2)] 24), blkE g37 (.cells #[I ((autoNot (andR a b).1).1.Signs), r32, r33] 36), rdE r32 ((autoNot (andR a b).1).1.Next : List (List Int)), rdE r33 ((autoNot (andR a b).1).1.Takes : List Bool), blkE g21 (.cells #[I ((andR a b).2.1), I ((andR a b).2.2)] 24), blkE g18 (.cells #[I ((andR a b).1.Signs), r13, r14] 36), rdE r13 ((andR a b).1.Next : List (List Int)), rdE r14 ((andR a b).1.Takes : List Bool), blkE g4 (.cells #[I (b.Signs), wn, wt] 36), blkE g1 (.cells #[I (a.Signs), vn, vt] 36), rdE vn (a.Next : List (List Int)), rdE vt (a.Takes : List Bool), rdE wn (b.Next : List (List Int)), rdE wt (b.Takes : List Bool)] H) ?_ ?_
  · refine wpF_region ?_
    refine wpL_q (U := NoB) rfl (q_loadBlkA rfl a47_2 Try.isAgg36 Try.sizeOf36 rfl (hS47.blk 9 rfl) (fun h => h)) ?_
    refine wpL_o rfl ?_
    refine e_call rfl Try.call25 (arr1 (v0 := Value.agg #[I (a.Signs), vn, vt]) rfl) (Not vn vt a (hS47.rdS 10 rfl) (hS47.rdS 11 rfl) hsg) ?_
    rintro _ H50 ⟨hxx, r48, r49, rfl, hrr48, hrr49⟩
    have hS51 : St H0 NoB NoB [rdE r48 ((autoNot a).1.Next : List (List Int)), rdE r49 ((autoNot a).1.Takes : List Bool), blkE g40 (.cells #[I ((autoNot (andR a b).1).2.1), I ((autoNot (andR a b).1).2.2)] 24), blkE g37 (.cells #[I ((autoNot (andR a b).1).1.Signs), r32, r33] 36), rdE r32 ((autoNot (andR a b).1).1.Next : List (List Int)), rdE r33 ((autoNot (andR a b).1).1.Takes : List Bool), blkE g21 (.cells #[I ((andR a b).2.1), I ((andR a b).2.2)] 24), blkE g18 (.cells #[I ((andR a b).1.Signs), r13, r14] 36), rdE r13 ((andR a b).1.Next : List (List Int)), rdE r14 ((andR a b).1.Takes : List Bool), blkE g4 (.cells #[I (b.Signs), wn, wt] 36), blkE g1 (.cells #[I (a.Signs), vn, vt] 36), rdE vn (a.Next : List (List Int)), rdE vt (a.Takes : List Bool), rdE wn (b.Next : List (List Int)), rdE wt (b.Takes : List Bool)] H50 := (hS47.res2 hxx hrr48 hrr49)
    refine wpL_q (U := NoB) rfl (q_move (v := Value.tuple #[Value.agg #[I ((autoNot a).1.Signs), r48, r49], Value.agg #[I ((autoNot a).2.1), I ((autoNot a).2.2)]]) rfl rfl) ?_
    refine wpL_q (U := NoB) rfl (q_extract (vs := #[Value.agg #[I ((autoNot a).1.Signs), r48, r49], Value.agg #[I ((autoNot a).2.1), I ((autoNot a).2.2)]]) (v := Value.agg #[I ((autoNot a).1.Signs), r48, r49]) rfl rfl rfl) ?_
    refine wpL_q (U := NoB) rfl (q_extract (vs := #[Value.agg #[I ((autoNot a).1.Signs), r48, r49], Value.agg #[I ((autoNot a).2.1), I ((autoNot a).2.2)]]) (v := Value.agg #[I ((autoNot a).2.1), I ((autoNot a).2.2)]) rfl rfl rfl) ?_
    refine wpL_o rfl ?_
    refine e_alloc rfl Try.zeroValue36 hS51 (fun g53 H54 hS55 hxx => ?_)
    replace hS55 : St H0 NoB NoB [blkE g53 (.cells #[I (0), (Value.slice none 0 0), (Value.slice none 0 0)] 36), rdE r48 ((autoNot a).1.Next : List (List Int)), rdE r49 ((autoNot a).1.Takes : List Bool), blkE g40 (.cells #[I ((autoNot (andR a b).1).2.1), I ((autoNot (andR a b).1).2.2)] 24), blkE g37 (.cells #[I ((autoNot (andR a b).1).1.Signs), r32, r33] 36), rdE r32 ((autoNot (andR a b).1).1.Next : List (List Int)), rdE r33 ((autoNot (andR a b).1).1.Takes : List Bool), blkE g21 (.cells #[I ((andR a b).2.1), I ((andR a b).2.2)] 24), blkE g18 (.cells #[I ((andR a b).1.Signs), r13, r14] 36), rdE r13 ((andR a b).1.Next : List (List Int)), rdE r14 ((andR a b).1.Takes : List Bool), blkE g4 (.cells #[I (b.Signs), wn, wt] 36), blkE g1 (.cells #[I (a.Signs), vn, vt] 36), rdE vn (a.Next : List (List Int)), rdE vt (a.Takes : List Bool), rdE wn (b.Next : List (List Int)), rdE wt (b.Takes : List Bool)] H54 := hS55
    refine wpL_o rfl ?_
    refine e_alloc rfl Try.zeroValue24 hS55 (fun g56 H57 hS58 hxx => ?_)
    replace hS58 : St H0 NoB NoB [blkE g56 (.cells #[I (0), I (0)] 24), blkE g53 (.cells #[I (0), (Value.slice none 0 0), (Value.slice none 0 0)] 36), rdE r48 ((autoNot a).1.Next : List (List Int)), rdE r49 ((autoNot a).1.Takes : List Bool), blkE g40 (.cells #[I ((autoNot (andR a b).1).2.1), I ((autoNot (andR a b).1).2.2)] 24), blkE g37 (.cells #[I ((autoNot (andR a b).1).1.Signs), r32, r33] 36), rdE r32 ((autoNot (andR a b).1).1.Next : List (List Int)), rdE r33 ((autoNot (andR a b).1).1.Takes : List Bool), blkE g21 (.cells #[I ((andR a b).2.1), I ((andR a b).2.2)] 24), blkE g18 (.cells #[I ((andR a b).1.Signs), r13, r14] 36), rdE r13 ((andR a b).1.Next : List (List Int)), rdE r14 ((andR a b).1.Takes : List Bool), blkE g4 (.cells #[I (b.Signs), wn, wt] 36), blkE g1 (.cells #[I (a.Signs), vn, vt] 36), rdE vn (a.Next : List (List Int)), rdE vt (a.Takes : List Bool), rdE wn (b.Next : List (List Int)), rdE wt (b.Takes : List Bool)] H57 := hS58
    refine wpL_o rfl ?_
    refine e_storeBlkA (cs' := #[I ((autoNot a).1.Signs), r48, r49]) rfl rfl rfl Try.sizeOf36 rfl rfl (List.forall_mem_cons.2 ⟨rfl, List.forall_mem_cons.2 ⟨(oneCell_rdL (hS58.rdl 2 rfl)), List.forall_mem_cons.2 ⟨(oneCell_rdL (hS58.rdl 3 rfl)), List.forall_mem_nil _⟩⟩⟩) (hS58.front 1 rfl) (fun H59 hS60 hxx => ?_)
    replace hS60 : St H0 NoB NoB [blkE g53 (.cells #[I ((autoNot a).1.Signs), r48, r49] 36), blkE g56 (.cells #[I (0), I (0)] 24), rdE r48 ((autoNot a).1.Next : List (List Int)), rdE r49 ((autoNot a).1.Takes : List Bool), blkE g40 (.cells #[I ((autoNot (andR a b).1).2.1), I ((autoNot (andR a b).1).2.2)] 24), blkE g37 (.cells #[I ((autoNot (andR a b).1).1.Signs), r32, r33] 36), rdE r32 ((autoNot (andR a b).1).1.Next : List (List Int)), rdE r33 ((autoNot (andR a b).1).1.Takes : List Bool), blkE g21 (.cells #[I ((andR a b).2.1), I ((andR a b).2.2)] 24), blkE g18 (.cells #[I ((andR a b).1.Signs), r13, r14] 36), rdE r13 ((andR a b).1.Next : List (List Int)), rdE r14 ((andR a b).1.Takes : List Bool), blkE g4 (.cells #[I (b.Signs), wn, wt] 36), blkE g1 (.cells #[I (a.Signs), vn, vt] 36), rdE vn (a.Next : List (List Int)), rdE vt (a.Takes : List Bool), rdE wn (b.Next : List (List Int)), rdE wt (b.Takes : List Bool)] H59 := hS60
    refine wpL_o rfl ?_
    refine e_storeBlkA (cs' := #[I ((autoNot a).2.1), I ((autoNot a).2.2)]) rfl rfl rfl Try.sizeOf24 rfl rfl (List.forall_mem_cons.2 ⟨rfl, List.forall_mem_cons.2 ⟨rfl, List.forall_mem_nil _⟩⟩) (hS60.front 1 rfl) (fun H61 hS62 hxx => ?_)
    replace hS62 : St H0 NoB NoB [blkE g56 (.cells #[I ((autoNot a).2.1), I ((autoNot a).2.2)] 24), blkE g53 (.cells #[I ((autoNot a).1.Signs), r48, r49] 36), rdE r48 ((autoNot a).1.Next : List (List Int)), rdE r49 ((autoNot a).1.Takes : List Bool), blkE g40 (.cells #[I ((autoNot (andR a b).1).2.1), I ((autoNot (andR a b).1).2.2)] 24), blkE g37 (.cells #[I ((autoNot (andR a b).1).1.Signs), r32, r33] 36), rdE r32 ((autoNot (andR a b).1).1.Next : List (List Int)), rdE r33 ((autoNot (andR a b).1).1.Takes : List Bool), blkE g21 (.cells #[I ((andR a b).2.1), I ((andR a b).2.2)] 24), blkE g18 (.cells #[I ((andR a b).1.Signs), r13, r14] 36), rdE r13 ((andR a b).1.Next : List (List Int)), rdE r14 ((andR a b).1.Takes : List Bool), blkE g4 (.cells #[I (b.Signs), wn, wt] 36), blkE g1 (.cells #[I (a.Signs), vn, vt] 36), rdE vn (a.Next : List (List Int)), rdE vt (a.Takes : List Bool), rdE wn (b.Next : List (List Int)), rdE wt (b.Takes : List Bool)] H61 := hS62
    exact ⟨r48, r49, g53, g56, a47_3, a47_7, a47_8, a47_9, rfl, rfl, hS62⟩
  rintro f63 H63 ⟨r48, r49, g53, g56, a63_3, a63_7, a63_8, a63_9, a63_10, a63_11, hS63⟩
  clear a47_2 a47_3 a47_7 a47_8 a47_9
  refine wpF_seq ?_
  refine wpF_cut (fun f H => ∃ (r64 : Value), ∃ (r65 : Value), ∃ (g69 : Nat), ∃ (g72 : Nat), f 7 = PT g21 0 ∧ f 8 = PT g37 0 ∧ f 9 = PT g40 0 ∧ f 10 = PT g53 0 ∧ f 11 = PT g56 0 ∧ f 12 = PT g69 0 ∧ f 13 = PT g72 0 ∧ St H0 NoB NoB [blkE g72 (.cells #[I ((autoNot b).2.1), I ((autoNot b).2.2)] 24), blkE g69 (.cells #[I ((autoNot b).1.Signs), r64, r65] 36), rdE r64 ((autoNot b).1.Next : List (List Int)), rdE r65 ((autoNot b).1.Takes : List Bool), blkE g56 (.cells #[I ((autoNot a).2.1), I ((autoNot a).2.2)] 24), blkE g53 (.cells #[I ((autoNot a).1.Signs), r48, r49] 36), rdE r48 ((autoNot a).1.Next : List (List Int)), rdE r49 ((autoNot a).1.Takes : List Bool), blkE g40 (.cells #[I ((autoNot (andR a b).1).2.1), I ((autoNot (andR a b).1).2.2)] 24), blkE g37 (.cells #[I ((autoNot (andR a b).1).1.Signs), r32, r33] 36), rdE r32 ((autoNot (andR a b).1).1.Next : List (List Int)), rdE r33 ((autoNot (andR a b).1).1.Takes : List Bool), blkE g21 (.cells #[I ((andR a b).2.1), I ((andR a b).2.2)] 24), blkE g18 (.cells #[I ((andR a b).1.Signs), r13, r14] 36), rdE r13 ((andR a b).1.Next : List (List Int)), rdE r14 ((andR a b).1.Takes : List Bool), blkE g4 (.cells #[I (b.Signs), wn, wt] 36), blkE g1 (.cells #[I (a.Signs), vn, vt] 36), rdE vn (a.Next : List (List Int)), rdE vt (a.Takes : List Bool), rdE wn (b.Next : List (List Int)), rdE wt (b.Takes : List Bool)] H) ?_ ?_
  · refine wpF_region ?_
    refine wpL_q (U := NoB) rfl (q_loadBlkA rfl a63_3 Try.isAgg36 Try.sizeOf36 rfl (hS63.blk 12 rfl) (fun h => h)) ?_
    refine wpL_o rfl ?_
    refine e_call rfl Try.call25 (arr1 (v0 := Value.agg #[I (b.Signs), wn, wt]) rfl) (Not wn wt b (hS63.rdS 16 rfl) (hS63.rdS 17 rfl) hsgb) ?_
    rintro _ H66 ⟨hxx, r64, r65, rfl, hrr64, hrr65⟩
    have hS67 : St H0 NoB NoB [rdE r64 ((autoNot b).1.Next : List (List Int)), rdE r65 ((autoNot b).1.Takes : List Bool), blkE g56 (.cells #[I ((autoNot a).2.1), I ((autoNot a).2.2)] 24), blkE g53 (.cells #[I ((autoNot a).1.Signs), r48, r49] 36), rdE r48 ((autoNot a).1.Next : List (List Int)), rdE r49 ((autoNot a).1.Takes : List Bool), blkE g40 (.cells #[I ((autoNot (andR a b).1).2.1), I ((autoNot (andR a b).1).2.2)] 24), blkE g37 (.cells #[I ((autoNot (andR a b).1).1.Signs), r32, r33] 36), rdE r32 ((autoNot (andR a b).1).1.Next : List (List Int)), rdE r33 ((autoNot (andR a b).1).1.Takes : List Bool), blkE g21 (.cells #[I ((andR a b).2.1), I ((andR a b).2.2)] 24), blkE g18 (.cells #[I ((andR a b).1.Signs), r13, r14] 36), rdE r13 ((andR a b).1.Next : List (List Int)), rdE r14 ((andR a b).1.Takes : List Bool), blkE g4 (.cells #[I (b.Signs), wn, wt] 36), blkE g1 (.cells #[I (a.Signs), vn, vt] 36), rdE vn (a.Next : List (List Int)), rdE vt (a.Takes : List Bool), rdE wn (b.Next : List (List Int)), rdE wt (b.Takes : List Bool)] H66 := (hS63.res2 hxx hrr64 hrr65)
    refine wpL_q (U := NoB) rfl (q_move (v := Value.tuple #[Value.agg #[I ((autoNot b).1.Signs), r64, r65], Value.agg #[I ((autoNot b).2.1), I ((autoNot b).2.2)]]) rfl rfl) ?_
    refine wpL_q (U := NoB) rfl (q_extract (vs := #[Value.agg #[I ((autoNot b).1.Signs), r64, r65], Value.agg #[I ((autoNot b).2.1), I ((autoNot b).2.2)]]) (v := Value.agg #[I ((autoNot b).1.Signs), r64, r65]) rfl rfl rfl) ?_
    refine wpL_q (U := NoB) rfl (q_extract (vs := #[Value.agg #[I ((autoNot b).1.Signs), r64, r65], Value.agg #[I ((autoNot b).2.1), I ((autoNot b).2.2)]]) (v := Value.agg #[I ((autoNot b).2.1), I ((autoNot b).2.2)]) rfl rfl rfl) ?_
    refine wpL_o rfl ?_
    refine e_alloc rfl Try.zeroValue36 hS67 (fun g69 H70 hS71 hxx => ?_)
    replace hS71 : St H0 NoB NoB [blkE g69 (.cells #[I (0), (Value.slice none 0 0), (Value.slice none 0 0)] 36), rdE r64 ((autoNot b).1.Next : List (List Int)), rdE r65 ((autoNot b).1.Takes : List Bool), blkE g56 (.cells #[I ((autoNot a).2.1), I ((autoNot a).2.2)] 24), blkE g53 (.cells #[I ((autoNot a).1.Signs), r48, r49] 36), rdE r48 ((autoNot a).1.Next : List (List Int)), rdE r49 ((autoNot a).1.Takes : List Bool), blkE g40 (.cells #[I ((autoNot (andR a b).1).2.1), I ((autoNot (andR a b).1).2.2)] 24), blkE g37 (.cells #[I ((autoNot (andR a b).1).1.Signs), r32, r33] 36), rdE r32 ((autoNot (andR a b).1).1.Next : List (List Int)), rdE r33 ((autoNot (andR a b).1).1.Takes : List Bool), blkE g21 (.cells #[I ((andR a b).2.1), I ((andR a b).2.2)] 24), blkE g18 (.cells #[I ((andR a b).1.Signs), r13, r14] 36), rdE r13 ((andR a b).1.Next : List (List Int)), rdE r14 ((andR a b).1.Takes : List Bool), blkE g4 (.cells #[I (b.Signs), wn, wt] 36), blkE g1 (.cells #[I (a.Signs), vn, vt] 36), rdE vn (a.Next : List (List Int)), rdE vt (a.Takes : List Bool), rdE wn (b.Next : List (List Int)), rdE wt (b.Takes : List Bool)] H70 := hS71
    refine wpL_o rfl ?_
    refine e_alloc rfl Try.zeroValue24 hS71 (fun g72 H73 hS74 hxx => ?_)
    replace hS74 : St H0 NoB NoB [blkE g72 (.cells #[I (0), I (0)] 24), blkE g69 (.cells #[I (0), (Value.slice none 0 0), (Value.slice none 0 0)] 36), rdE r64 ((autoNot b).1.Next : List (List Int)), rdE r65 ((autoNot b).1.Takes : List Bool), blkE g56 (.cells #[I ((autoNot a).2.1), I ((autoNot a).2.2)] 24), blkE g53 (.cells #[I ((autoNot a).1.Signs), r48, r49] 36), rdE r48 ((autoNot a).1.Next : List (List Int)), rdE r49 ((autoNot a).1.Takes : List Bool), blkE g40 (.cells #[I ((autoNot (andR a b).1).2.1), I ((autoNot (andR a b).1).2.2)] 24), blkE g37 (.cells #[I ((autoNot (andR a b).1).1.Signs), r32, r33] 36), rdE r32 ((autoNot (andR a b).1).1.Next : List (List Int)), rdE r33 ((autoNot (andR a b).1).1.Takes : List Bool), blkE g21 (.cells #[I ((andR a b).2.1), I ((andR a b).2.2)] 24), blkE g18 (.cells #[I ((andR a b).1.Signs), r13, r14] 36), rdE r13 ((andR a b).1.Next : List (List Int)), rdE r14 ((andR a b).1.Takes : List Bool), blkE g4 (.cells #[I (b.Signs), wn, wt] 36), blkE g1 (.cells #[I (a.Signs), vn, vt] 36), rdE vn (a.Next : List (List Int)), rdE vt (a.Takes : List Bool), rdE wn (b.Next : List (List Int)), rdE wt (b.Takes : List Bool)] H73 := hS74
    refine wpL_o rfl ?_
    refine e_storeBlkA (cs' := #[I ((autoNot b).1.Signs), r64, r65]) rfl rfl rfl Try.sizeOf36 rfl rfl (List.forall_mem_cons.2 ⟨rfl, List.forall_mem_cons.2 ⟨(oneCell_rdL (hS74.rdl 2 rfl)), List.forall_mem_cons.2 ⟨(oneCell_rdL (hS74.rdl 3 rfl)), List.forall_mem_nil _⟩⟩⟩) (hS74.front 1 rfl) (fun H75 hS76 hxx => ?_)
    replace hS76 : St H0 NoB NoB [blkE g69 (.cells #[I ((autoNot b).1.Signs), r64, r65] 36), blkE g72 (.cells #[I (0), I (0)] 24), rdE r64 ((autoNot b).1.Next : List (List Int)), rdE r65 ((autoNot b).1.Takes : List Bool), blkE g56 (.cells #[I ((autoNot a).2.1), I ((autoNot a).2.2)] 24), blkE g53 (.cells #[I ((autoNot a).1.Signs), r48, r49] 36), rdE r48 ((autoNot a).1.Next : List (List Int)), rdE r49 ((autoNot a).1.Takes : List Bool), blkE g40 (.cells #[I ((autoNot (andR a b).1).2.1), I ((autoNot (andR a b).1).2.2)] 24), blkE g37 (.cells #[I ((autoNot (andR a b).1).1.Signs), r32, r33] 36), rdE r32 ((autoNot (andR a b).1).1.Next : List (List Int)), rdE r33 ((autoNot (andR a b).1).1.Takes : List Bool), blkE g21 (.cells #[I ((andR a b).2.1), I ((andR a b).2.2)] 24), blkE g18 (.cells #[I ((andR a b).1.Signs), r13, r14] 36), rdE r13 ((andR a b).1.Next : List (List Int)), rdE r14 ((andR a b).1.Takes : List Bool), blkE g4 (.cells #[I (b.Signs), wn, wt] 36), blkE g1 (.cells #[I (a.Signs), vn, vt] 36), rdE vn (a.Next : List (List Int)), rdE vt (a.Takes : List Bool), rdE wn (b.Next : List (List Int)), rdE wt (b.Takes : List Bool)] H75 := hS76
    refine wpL_o rfl ?_
    refine e_storeBlkA (cs' := #[I ((autoNot b).2.1), I ((autoNot b).2.2)]) rfl rfl rfl Try.sizeOf24 rfl rfl (List.forall_mem_cons.2 ⟨rfl, List.forall_mem_cons.2 ⟨rfl, List.forall_mem_nil _⟩⟩) (hS76.front 1 rfl) (fun H77 hS78 hxx => ?_)
    replace hS78 : St H0 NoB NoB [blkE g72 (.cells #[I ((autoNot b).2.1), I ((autoNot b).2.2)] 24), blkE g69 (.cells #[I ((autoNot b).1.Signs), r64, r65] 36), rdE r64 ((autoNot b).1.Next : List (List Int)), rdE r65 ((autoNot b).1.Takes : List Bool), blkE g56 (.cells #[I ((autoNot a).2.1), I ((autoNot a).2.2)] 24), blkE g53 (.cells #[I ((autoNot a).1.Signs), r48, r49] 36), rdE r48 ((autoNot a).1.Next : List (List Int)), rdE r49 ((autoNot a).1.Takes : List Bool), blkE g40 (.cells #[I ((autoNot (andR a b).1).2.1), I ((autoNot (andR a b).1).2.2)] 24), blkE g37 (.cells #[I ((autoNot (andR a b).1).1.Signs), r32, r33] 36), rdE r32 ((autoNot (andR a b).1).1.Next : List (List Int)), rdE r33 ((autoNot (andR a b).1).1.Takes : List Bool), blkE g21 (.cells #[I ((andR a b).2.1), I ((andR a b).2.2)] 24), blkE g18 (.cells #[I ((andR a b).1.Signs), r13, r14] 36), rdE r13 ((andR a b).1.Next : List (List Int)), rdE r14 ((andR a b).1.Takes : List Bool), blkE g4 (.cells #[I (b.Signs), wn, wt] 36), blkE g1 (.cells #[I (a.Signs), vn, vt] 36), rdE vn (a.Next : List (List Int)), rdE vt (a.Takes : List Bool), rdE wn (b.Next : List (List Int)), rdE wt (b.Takes : List Bool)] H77 := hS78
    exact ⟨r64, r65, g69, g72, a63_7, a63_8, a63_9, a63_10, a63_11, rfl, rfl, hS78⟩
  rintro f79 H79 ⟨r64, r65, g69, g72, a79_7, a79_8, a79_9, a79_10, a79_11, a79_12, a79_13, hS79⟩
  clear a63_10 a63_11 a63_3 a63_7 a63_8 a63_9
  refine wpF_seq ?_
  refine wpF_seq ?_
  refine wpF_cut (fun f H => f 7 = PT g21 0 ∧ f 8 = PT g37 0 ∧ f 10 = PT g53 0 ∧ f 12 = PT g69 0 ∧ f 59 = B (decide (((((autoNot (andR a b).1).2.1) ≠ 0) ∨ (((autoNot a).2.1) ≠ 0)) ∨ (((autoNot b).2.1) ≠ 0))) ∧ H79 = H) ?_ ?_
  · refine wpF_region ?_
    refine wpL_q (U := NoB) rfl (q_fieldAddr rfl Try.underlying24 rfl Try.sizeOf3 a79_9) ?_
    refine wpL_q (U := NoB) rfl (q_loadBlk rfl rfl Try.isAgg3 (hS79.blk 8 rfl) rfl (fun h => h)) ?_
    refine wpL_q (U := NoB) rfl (q_neq rfl rfl rfl) ?_
    refine wpL_q (U := NoB) rfl (q_move (v := B (decide (((autoNot (andR a b).1).2.1) ≠ 0))) rfl rfl) ?_
    by_cases hg80 : ((autoNot (andR a b).1).2.1) ≠ 0
    · have hb81 := Eq.trans rfl (congrArg B (decide_eq_true hg80))
      refine wpL_gs rfl rfl rfl hb81 rfl ?_
      refine wpL_gs rfl rfl rfl hb81 rfl ?_
      refine wpL_gs rfl rfl rfl hb81 rfl ?_
      refine wpL_q (U := NoB) rfl (q_pickT (v := B (true)) rfl hb81 rfl) ?_
      refine wpL_q (U := NoB) rfl (q_move (v := B (true)) rfl rfl) ?_
      refine wpL_gs rfl rfl rfl rfl rfl ?_
      refine wpL_gs rfl rfl rfl rfl rfl ?_
      refine wpL_gs rfl rfl rfl rfl rfl ?_
      refine wpL_q (U := NoB) rfl (q_pickT (v := B (true)) rfl rfl rfl) ?_
      exact ⟨a79_7, a79_8, a79_10, a79_12, (Eq.trans rfl (congrArg B ((decide_eq_true (Or.inl (Or.inl hg80))).symm))), rfl⟩
    · have hb82 := Eq.trans rfl (congrArg B (decide_eq_false hg80))
      refine wpL_gq (U := NoB) rfl rfl rfl hb82 (q_fieldAddr rfl Try.underlying24 rfl Try.sizeOf3 a79_11) ?_
      refine wpL_gq (U := NoB) rfl rfl rfl hb82 (q_loadBlk rfl rfl Try.isAgg3 (hS79.blk 4 rfl) rfl (fun h => h)) ?_
      refine wpL_gq (U := NoB) rfl rfl rfl hb82 (q_neq rfl rfl rfl) ?_
      refine wpL_q (U := NoB) rfl (q_pickF (v := B (decide (((autoNot a).2.1) ≠ 0))) rfl hb82 rfl) ?_
      refine wpL_q (U := NoB) rfl (q_move (v := B (decide (((autoNot a).2.1) ≠ 0))) rfl rfl) ?_
      by_cases hg83 : ((autoNot a).2.1) ≠ 0
      · have hb84 := Eq.trans rfl (congrArg B (decide_eq_true hg83))
        refine wpL_gs rfl rfl rfl hb84 rfl ?_
        refine wpL_gs rfl rfl rfl hb84 rfl ?_
        refine wpL_gs rfl rfl rfl hb84 rfl ?_
        refine wpL_q (U := NoB) rfl (q_pickT (v := B (true)) rfl hb84 rfl) ?_
        exact ⟨a79_7, a79_8, a79_10, a79_12, (Eq.trans rfl (congrArg B ((decide_eq_true (Or.inl (Or.inr hg83))).symm))), rfl⟩
      · have hb85 := Eq.trans rfl (congrArg B (decide_eq_false hg83))
        refine wpL_gq (U := NoB) rfl rfl rfl hb85 (q_fieldAddr rfl Try.underlying24 rfl Try.sizeOf3 a79_13) ?_
        refine wpL_gq (U := NoB) rfl rfl rfl hb85 (q_loadBlk rfl rfl Try.isAgg3 (hS79.blk 0 rfl) rfl (fun h => h)) ?_
        refine wpL_gq (U := NoB) rfl rfl rfl hb85 (q_neq rfl rfl rfl) ?_
        refine wpL_q (U := NoB) rfl (q_pickF (v := B (decide (((autoNot b).2.1) ≠ 0))) rfl hb85 rfl) ?_
        exact ⟨a79_7, a79_8, a79_10, a79_12, (Eq.trans rfl (congrArg B (decide_congr_of ((Iff.rfl).trans (((or_iff_right (not_or.2 ⟨hg80, hg83⟩)).trans Iff.rfl)).symm)))), rfl⟩
  rintro f86 _ ⟨a86_7, a86_8, a86_10, a86_12, a86_59, rfl⟩
  clear a79_10 a79_11 a79_12 a79_13 a79_7 a79_8 a79_9
  refine wpF_condP a86_59 (fun h59 => ?t116) (fun h59 => ?e116)
  case t116 =>
    refine wpF_seq ?_
    refine wpF_cut (fun f H => f 4 = B (false) ∧ H79 = H) ?_ ?_
    · refine wpF_region ?_
      refine wpL_q (U := NoB) rfl (q_assign (v := B (false)) rfl rfl) ?_
      exact ⟨rfl, rfl⟩
    rintro f88 _ ⟨a88_4, rfl⟩
    clear a86_10 a86_12 a86_59 a86_7 a86_8
    refine wpF_ret ?_
    refine ⟨_, resT a88_4 resN, hS79.frame, ?_⟩
    show (B (false)) = B true
    exfalso
    rw [m1, m2, m3] at h59
    simp at h59
  refine wpF_skip ?_
  refine wpF_seq ?_
  refine wpF_cut (fun f H => ∃ (r89 : Value), ∃ (r90 : Value), ∃ (g94 : Nat), f 7 = PT g21 0 ∧ f 8 = PT g37 0 ∧ f 14 = PT g94 0 ∧ St H0 NoB NoB [blkE g21 (.cells #[I ((orR (autoNot a).1 (autoNot b).1).2.1), I ((orR (autoNot a).1 (autoNot b).1).2.2)] 24), blkE g94 (.cells #[I ((orR (autoNot a).1 (autoNot b).1).1.Signs), r89, r90] 36), rdE r89 ((orR (autoNot a).1 (autoNot b).1).1.Next : List (List Int)), rdE r90 ((orR (autoNot a).1 (autoNot b).1).1.Takes : List Bool), blkE g72 (.cells #[I ((autoNot b).2.1), I ((autoNot b).2.2)] 24), blkE g69 (.cells #[I ((autoNot b).1.Signs), r64, r65] 36), rdE r64 ((autoNot b).1.Next : List (List Int)), rdE r65 ((autoNot b).1.Takes : List Bool), blkE g56 (.cells #[I ((autoNot a).2.1), I ((autoNot a).2.2)] 24), blkE g53 (.cells #[I ((autoNot a).1.Signs), r48, r49] 36), rdE r48 ((autoNot a).1.Next : List (List Int)), rdE r49 ((autoNot a).1.Takes : List Bool), blkE g40 (.cells #[I ((autoNot (andR a b).1).2.1), I ((autoNot (andR a b).1).2.2)] 24), blkE g37 (.cells #[I ((autoNot (andR a b).1).1.Signs), r32, r33] 36), rdE r32 ((autoNot (andR a b).1).1.Next : List (List Int)), rdE r33 ((autoNot (andR a b).1).1.Takes : List Bool), blkE g18 (.cells #[I ((andR a b).1.Signs), r13, r14] 36), rdE r13 ((andR a b).1.Next : List (List Int)), rdE r14 ((andR a b).1.Takes : List Bool), blkE g4 (.cells #[I (b.Signs), wn, wt] 36), blkE g1 (.cells #[I (a.Signs), vn, vt] 36), rdE vn (a.Next : List (List Int)), rdE vt (a.Takes : List Bool), rdE wn (b.Next : List (List Int)), rdE wt (b.Takes : List Bool)] H) ?_ ?_
  · refine wpF_region ?_
    refine wpL_q (U := NoB) rfl (q_loadBlkA rfl a86_10 Try.isAgg36 Try.sizeOf36 rfl (hS79.blk 5 rfl) (fun h => h)) ?_
    refine wpL_q (U := NoB) rfl (q_loadBlkA rfl a86_12 Try.isAgg36 Try.sizeOf36 rfl (hS79.blk 1 rfl) (fun h => h)) ?_
    refine wpL_o rfl ?_
    refine e_call rfl Try.call34 (arr2 (v0 := Value.agg #[I ((autoNot a).1.Signs), r48, r49]) (v1 := Value.agg #[I ((autoNot b).1.Signs), r64, r65]) rfl rfl) (Or_L r48 r49 r64 r65 (autoNot a).1 (autoNot b).1 (hS79.rdS 6 rfl) (hS79.rdS 7 rfl) (by assumption) (hS79.rdS 2 rfl) (hS79.rdS 3 rfl) (by assumption)) ?_
    rintro _ H91 ⟨hxx, r89, r90, rfl, hrr89, hrr90⟩
    have hS92 : St H0 NoB NoB [rdE r89 ((orR (autoNot a).1 (autoNot b).1).1.Next : List (List Int)), rdE r90 ((orR (autoNot a).1 (autoNot b).1).1.Takes : List Bool), blkE g72 (.cells #[I ((autoNot b).2.1), I ((autoNot b).2.2)] 24), blkE g69 (.cells #[I ((autoNot b).1.Signs), r64, r65] 36), rdE r64 ((autoNot b).1.Next : List (List Int)), rdE r65 ((autoNot b).1.Takes : List Bool), blkE g56 (.cells #[I ((autoNot a).2.1), I ((autoNot a).2.2)] 24), blkE g53 (.cells #[I ((autoNot a).1.Signs), r48, r49] 36), rdE r48 ((autoNot a).1.Next : List (List Int)), rdE r49 ((autoNot a).1.Takes : List Bool), blkE g40 (.cells #[I ((autoNot (andR a b).1).2.1), I ((autoNot (andR a b).1).2.2)] 24), blkE g37 (.cells #[I ((autoNot (andR a b).1).1.Signs), r32, r33] 36), rdE r32 ((autoNot (andR a b).1).1.Next : List (List Int)), rdE r33 ((autoNot (andR a b).1).1.Takes : List Bool), blkE g21 (.cells #[I ((andR a b).2.1), I ((andR a b).2.2)] 24), blkE g18 (.cells #[I ((andR a b).1.Signs), r13, r14] 36), rdE r13 ((andR a b).1.Next : List (List Int)), rdE r14 ((andR a b).1.Takes : List Bool), blkE g4 (.cells #[I (b.Signs), wn, wt] 36), blkE g1 (.cells #[I (a.Signs), vn, vt] 36), rdE vn (a.Next : List (List Int)), rdE vt (a.Takes : List Bool), rdE wn (b.Next : List (List Int)), rdE wt (b.Takes : List Bool)] H91 := (hS79.res2 hxx hrr89 hrr90)
    refine wpL_q (U := NoB) rfl (q_move (v := Value.tuple #[Value.agg #[I ((orR (autoNot a).1 (autoNot b).1).1.Signs), r89, r90], Value.agg #[I ((orR (autoNot a).1 (autoNot b).1).2.1), I ((orR (autoNot a).1 (autoNot b).1).2.2)]]) rfl rfl) ?_
    refine wpL_q (U := NoB) rfl (q_extract (vs := #[Value.agg #[I ((orR (autoNot a).1 (autoNot b).1).1.Signs), r89, r90], Value.agg #[I ((orR (autoNot a).1 (autoNot b).1).2.1), I ((orR (autoNot a).1 (autoNot b).1).2.2)]]) (v := Value.agg #[I ((orR (autoNot a).1 (autoNot b).1).1.Signs), r89, r90]) rfl rfl rfl) ?_
    refine wpL_q (U := NoB) rfl (q_extract (vs := #[Value.agg #[I ((orR (autoNot a).1 (autoNot b).1).1.Signs), r89, r90], Value.agg #[I ((orR (autoNot a).1 (autoNot b).1).2.1), I ((orR (autoNot a).1 (autoNot b).1).2.2)]]) (v := Value.agg #[I ((orR (autoNot a).1 (autoNot b).1).2.1), I ((orR (autoNot a).1 (autoNot b).1).2.2)]) rfl rfl rfl) ?_
    refine wpL_o rfl ?_
    refine e_alloc rfl Try.zeroValue36 hS92 (fun g94 H95 hS96 hxx => ?_)
    replace hS96 : St H0 NoB NoB [blkE g94 (.cells #[I (0), (Value.slice none 0 0), (Value.slice none 0 0)] 36), rdE r89 ((orR (autoNot a).1 (autoNot b).1).1.Next : List (List Int)), rdE r90 ((orR (autoNot a).1 (autoNot b).1).1.Takes : List Bool), blkE g72 (.cells #[I ((autoNot b).2.1), I ((autoNot b).2.2)] 24), blkE g69 (.cells #[I ((autoNot b).1.Signs), r64, r65] 36), rdE r64 ((autoNot b).1.Next : List (List Int)), rdE r65 ((autoNot b).1.Takes : List Bool), blkE g56 (.cells #[I ((autoNot a).2.1), I ((autoNot a).2.2)] 24), blkE g53 (.cells #[I ((autoNot a).1.Signs), r48, r49] 36), rdE r48 ((autoNot a).1.Next : List (List Int)), rdE r49 ((autoNot a).1.Takes : List Bool), blkE g40 (.cells #[I ((autoNot (andR a b).1).2.1), I ((autoNot (andR a b).1).2.2)] 24), blkE g37 (.cells #[I ((autoNot (andR a b).1).1.Signs), r32, r33] 36), rdE r32 ((autoNot (andR a b).1).1.Next : List (List Int)), rdE r33 ((autoNot (andR a b).1).1.Takes : List Bool), blkE g21 (.cells #[I ((andR a b).2.1), I ((andR a b).2.2)] 24), blkE g18 (.cells #[I ((andR a b).1.Signs), r13, r14] 36), rdE r13 ((andR a b).1.Next : List (List Int)), rdE r14 ((andR a b).1.Takes : List Bool), blkE g4 (.cells #[I (b.Signs), wn, wt] 36), blkE g1 (.cells #[I (a.Signs), vn, vt] 36), rdE vn (a.Next : List (List Int)), rdE vt (a.Takes : List Bool), rdE wn (b.Next : List (List Int)), rdE wt (b.Takes : List Bool)] H95 := hS96
    refine wpL_o rfl ?_
    refine e_storeBlkA (cs' := #[I ((orR (autoNot a).1 (autoNot b).1).1.Signs), r89, r90]) rfl rfl rfl Try.sizeOf36 rfl rfl (List.forall_mem_cons.2 ⟨rfl, List.forall_mem_cons.2 ⟨(oneCell_rdL (hS96.rdl 1 rfl)), List.forall_mem_cons.2 ⟨(oneCell_rdL (hS96.rdl 2 rfl)), List.forall_mem_nil _⟩⟩⟩) hS96 (fun H97 hS98 hxx => ?_)
    replace hS98 : St H0 NoB NoB [blkE g94 (.cells #[I ((orR (autoNot a).1 (autoNot b).1).1.Signs), r89, r90] 36), rdE r89 ((orR (autoNot a).1 (autoNot b).1).1.Next : List (List Int)), rdE r90 ((orR (autoNot a).1 (autoNot b).1).1.Takes : List Bool), blkE g72 (.cells #[I ((autoNot b).2.1), I ((autoNot b).2.2)] 24), blkE g69 (.cells #[I ((autoNot b).1.Signs), r64, r65] 36), rdE r64 ((autoNot b).1.Next : List (List Int)), rdE r65 ((autoNot b).1.Takes : List Bool), blkE g56 (.cells #[I ((autoNot a).2.1), I ((autoNot a).2.2)] 24), blkE g53 (.cells #[I ((autoNot a).1.Signs), r48, r49] 36), rdE r48 ((autoNot a).1.Next : List (List Int)), rdE r49 ((autoNot a).1.Takes : List Bool), blkE g40 (.cells #[I ((autoNot (andR a b).1).2.1), I ((autoNot (andR a b).1).2.2)] 24), blkE g37 (.cells #[I ((autoNot (andR a b).1).1.Signs), r32, r33] 36), rdE r32 ((autoNot (andR a b).1).1.Next : List (List Int)), rdE r33 ((autoNot (andR a b).1).1.Takes : List Bool), blkE g21 (.cells #[I ((andR a b).2.1), I ((andR a b).2.2)] 24), blkE g18 (.cells #[I ((andR a b).1.Signs), r13, r14] 36), rdE r13 ((andR a b).1.Next : List (List Int)), rdE r14 ((andR a b).1.Takes : List Bool), blkE g4 (.cells #[I (b.Signs), wn, wt] 36), blkE g1 (.cells #[I (a.Signs), vn, vt] 36), rdE vn (a.Next : List (List Int)), rdE vt (a.Takes : List Bool), rdE wn (b.Next : List (List Int)), rdE wt (b.Takes : List Bool)] H97 := hS98
    refine wpL_o rfl ?_
    refine e_storeBlkA (cs' := #[I ((orR (autoNot a).1 (autoNot b).1).2.1), I ((orR (autoNot a).1 (autoNot b).1).2.2)]) rfl a86_7 rfl Try.sizeOf24 rfl rfl (List.forall_mem_cons.2 ⟨rfl, List.forall_mem_cons.2 ⟨rfl, List.forall_mem_nil _⟩⟩) (hS98.front 15 rfl) (fun H99 hS100 hxx => ?_)
    replace hS100 : St H0 NoB NoB [blkE g21 (.cells #[I ((orR (autoNot a).1 (autoNot b).1).2.1), I ((orR (autoNot a).1 (autoNot b).1).2.2)] 24), blkE g94 (.cells #[I ((orR (autoNot a).1 (autoNot b).1).1.Signs), r89, r90] 36), rdE r89 ((orR (autoNot a).1 (autoNot b).1).1.Next : List (List Int)), rdE r90 ((orR (autoNot a).1 (autoNot b).1).1.Takes : List Bool), blkE g72 (.cells #[I ((autoNot b).2.1), I ((autoNot b).2.2)] 24), blkE g69 (.cells #[I ((autoNot b).1.Signs), r64, r65] 36), rdE r64 ((autoNot b).1.Next : List (List Int)), rdE r65 ((autoNot b).1.Takes : List Bool), blkE g56 (.cells #[I ((autoNot a).2.1), I ((autoNot a).2.2)] 24), blkE g53 (.cells #[I ((autoNot a).1.Signs), r48, r49] 36), rdE r48 ((autoNot a).1.Next : List (List Int)), rdE r49 ((autoNot a).1.Takes : List Bool), blkE g40 (.cells #[I ((autoNot (andR a b).1).2.1), I ((autoNot (andR a b).1).2.2)] 24), blkE g37 (.cells #[I ((autoNot (andR a b).1).1.Signs), r32, r33] 36), rdE r32 ((autoNot (andR a b).1).1.Next : List (List Int)), rdE r33 ((autoNot (andR a b).1).1.Takes : List Bool), blkE g18 (.cells #[I ((andR a b).1.Signs), r13, r14] 36), rdE r13 ((andR a b).1.Next : List (List Int)), rdE r14 ((andR a b).1.Takes : List Bool), blkE g4 (.cells #[I (b.Signs), wn, wt] 36), blkE g1 (.cells #[I (a.Signs), vn, vt] 36), rdE vn (a.Next : List (List Int)), rdE vt (a.Takes : List Bool), rdE wn (b.Next : List (List Int)), rdE wt (b.Takes : List Bool)] H99 := hS100
    exact ⟨r89, r90, g94, a86_7, a86_8, rfl, hS100⟩
  rintro f101 H101 ⟨r89, r90, g94, a101_7, a101_8, a101_14, hS101⟩
  clear a86_10 a86_12 a86_59 a86_7 a86_8
  refine wpF_seq ?_
  refine wpF_seq ?_
  refine wpF_cut (fun f H => f 7 = PT g21 0 ∧ f 8 = PT g37 0 ∧ f 14 = PT g94 0 ∧ f 68 = B (decide (((orR (autoNot a).1 (autoNot b).1).2.1) ≠ 0)) ∧ H101 = H) ?_ ?_
  · refine wpF_region ?_
    refine wpL_q (U := NoB) rfl (q_fieldAddr rfl Try.underlying24 rfl Try.sizeOf3 a101_7) ?_
    refine wpL_q (U := NoB) rfl (q_loadBlk rfl rfl Try.isAgg3 (hS101.blk 0 rfl) rfl (fun h => h)) ?_
    refine wpL_q (U := NoB) rfl (q_neq rfl rfl rfl) ?_
    exact ⟨a101_7, a101_8, a101_14, rfl, rfl⟩
  rintro f102 _ ⟨a102_7, a102_8, a102_14, a102_68, rfl⟩
  clear a101_14 a101_7 a101_8
  refine wpF_condP a102_68 (fun h3 => ?t115) (fun h3 => ?e115)
  case t115 =>
    refine wpF_seq ?_
    refine wpF_cut (fun f H => f 4 = B (false) ∧ H101 = H) ?_ ?_
    · refine wpF_region ?_
      refine wpL_q (U := NoB) rfl (q_assign (v := B (false)) rfl rfl) ?_
      exact ⟨rfl, rfl⟩
    rintro f104 _ ⟨a104_4, rfl⟩
    clear a102_14 a102_68 a102_7 a102_8
    refine wpF_ret ?_
    refine ⟨_, resT a104_4 resN, hS101.frame, ?_⟩
    show (B (false)) = B true
    exfalso
    rw [m4] at h3
    exact h3 rfl
  refine wpF_skip ?_
  refine wpF_seq ?_
  refine wpF_cut (fun f H => f 7 = PT g21 0 ∧ f 15 = B (sameR (autoNot (andR a b).1).1 (orR (autoNot a).1 (autoNot b).1).1) ∧ St H0 NoB NoB [blkE g21 (.cells #[I ((pairFault (autoNot (andR a b).1).1 (orR (autoNot a).1 (autoNot b).1).1).1), I ((pairFault (autoNot (andR a b).1).1 (orR (autoNot a).1 (autoNot b).1).1).2)] 24), blkE g94 (.cells #[I ((orR (autoNot a).1 (autoNot b).1).1.Signs), r89, r90] 36), rdE r89 ((orR (autoNot a).1 (autoNot b).1).1.Next : List (List Int)), rdE r90 ((orR (autoNot a).1 (autoNot b).1).1.Takes : List Bool), blkE g72 (.cells #[I ((autoNot b).2.1), I ((autoNot b).2.2)] 24), blkE g69 (.cells #[I ((autoNot b).1.Signs), r64, r65] 36), rdE r64 ((autoNot b).1.Next : List (List Int)), rdE r65 ((autoNot b).1.Takes : List Bool), blkE g56 (.cells #[I ((autoNot a).2.1), I ((autoNot a).2.2)] 24), blkE g53 (.cells #[I ((autoNot a).1.Signs), r48, r49] 36), rdE r48 ((autoNot a).1.Next : List (List Int)), rdE r49 ((autoNot a).1.Takes : List Bool), blkE g40 (.cells #[I ((autoNot (andR a b).1).2.1), I ((autoNot (andR a b).1).2.2)] 24), blkE g37 (.cells #[I ((autoNot (andR a b).1).1.Signs), r32, r33] 36), rdE r32 ((autoNot (andR a b).1).1.Next : List (List Int)), rdE r33 ((autoNot (andR a b).1).1.Takes : List Bool), blkE g18 (.cells #[I ((andR a b).1.Signs), r13, r14] 36), rdE r13 ((andR a b).1.Next : List (List Int)), rdE r14 ((andR a b).1.Takes : List Bool), blkE g4 (.cells #[I (b.Signs), wn, wt] 36), blkE g1 (.cells #[I (a.Signs), vn, vt] 36), rdE vn (a.Next : List (List Int)), rdE vt (a.Takes : List Bool), rdE wn (b.Next : List (List Int)), rdE wt (b.Takes : List Bool)] H) ?_ ?_
  · refine wpF_region ?_
    refine wpL_q (U := NoB) rfl (q_loadBlkA rfl a102_8 Try.isAgg36 Try.sizeOf36 rfl (hS101.blk 13 rfl) (fun h => h)) ?_
    refine wpL_q (U := NoB) rfl (q_loadBlkA rfl a102_14 Try.isAgg36 Try.sizeOf36 rfl (hS101.blk 1 rfl) (fun h => h)) ?_
    refine wpL_o rfl ?_
    refine e_call rfl Try.call35 (arr2 (v0 := Value.agg #[I ((autoNot (andR a b).1).1.Signs), r32, r33]) (v1 := Value.agg #[I ((orR (autoNot a).1 (autoNot b).1).1.Signs), r89, r90]) rfl rfl) (Same_L r32 r33 r89 r90 (autoNot (andR a b).1).1 (orR (autoNot a).1 (autoNot b).1).1 (hS101.rdN 14 rfl) (hS101.rdN 15 rfl) (by assumption) (hS101.rdN 2 rfl) (hS101.rdN 3 rfl) (by assumption)) ?_
    rintro _ H105 ⟨hxx, rfl⟩
    have hS106 : St H0 NoB NoB [blkE g21 (.cells #[I ((orR (autoNot a).1 (autoNot b).1).2.1), I ((orR (autoNot a).1 (autoNot b).1).2.2)] 24), blkE g94 (.cells #[I ((orR (autoNot a).1 (autoNot b).1).1.Signs), r89, r90] 36), rdE r89 ((orR (autoNot a).1 (autoNot b).1).1.Next : List (List Int)), rdE r90 ((orR (autoNot a).1 (autoNot b).1).1.Takes : List Bool), blkE g72 (.cells #[I ((autoNot b).2.1), I ((autoNot b).2.2)] 24), blkE g69 (.cells #[I ((autoNot b).1.Signs), r64, r65] 36), rdE r64 ((autoNot b).1.Next : List (List Int)), rdE r65 ((autoNot b).1.Takes : List Bool), blkE g56 (.cells #[I ((autoNot a).2.1), I ((autoNot a).2.2)] 24), blkE g53 (.cells #[I ((autoNot a).1.Signs), r48, r49] 36), rdE r48 ((autoNot a).1.Next : List (List Int)), rdE r49 ((autoNot a).1.Takes : List Bool), blkE g40 (.cells #[I ((autoNot (andR a b).1).2.1), I ((autoNot (andR a b).1).2.2)] 24), blkE g37 (.cells #[I ((autoNot (andR a b).1).1.Signs), r32, r33] 36), rdE r32 ((autoNot (andR a b).1).1.Next : List (List Int)), rdE r33 ((autoNot (andR a b).1).1.Takes : List Bool), blkE g18 (.cells #[I ((andR a b).1.Signs), r13, r14] 36), rdE r13 ((andR a b).1.Next : List (List Int)), rdE r14 ((andR a b).1.Takes : List Bool), blkE g4 (.cells #[I (b.Signs), wn, wt] 36), blkE g1 (.cells #[I (a.Signs), vn, vt] 36), rdE vn (a.Next : List (List Int)), rdE vt (a.Takes : List Bool), rdE wn (b.Next : List (List Int)), rdE wt (b.Takes : List Bool)] H105 := hS101.ext hxx
    refine wpL_q (U := NoB) rfl (q_move (v := Value.tuple #[B (sameR (autoNot (andR a b).1).1 (orR (autoNot a).1 (autoNot b).1).1), Value.agg #[I ((pairFault (autoNot (andR a b).1).1 (orR (autoNot a).1 (autoNot b).1).1).1), I ((pairFault (autoNot (andR a b).1).1 (orR (autoNot a).1 (autoNot b).1).1).2)]]) rfl rfl) ?_
    refine wpL_q (U := NoB) rfl (q_extract (vs := #[B (sameR (autoNot (andR a b).1).1 (orR (autoNot a).1 (autoNot b).1).1), Value.agg #[I ((pairFault (autoNot (andR a b).1).1 (orR (autoNot a).1 (autoNot b).1).1).1), I ((pairFault (autoNot (andR a b).1).1 (orR (autoNot a).1 (autoNot b).1).1).2)]]) (v := B (sameR (autoNot (andR a b).1).1 (orR (autoNot a).1 (autoNot b).1).1)) rfl rfl rfl) ?_
    refine wpL_q (U := NoB) rfl (q_extract (vs := #[B (sameR (autoNot (andR a b).1).1 (orR (autoNot a).1 (autoNot b).1).1), Value.agg #[I ((pairFault (autoNot (andR a b).1).1 (orR (autoNot a).1 (autoNot b).1).1).1), I ((pairFault (autoNot (andR a b).1).1 (orR (autoNot a).1 (autoNot b).1).1).2)]]) (v := Value.agg #[I ((pairFault (autoNot (andR a b).1).1 (orR (autoNot a).1 (autoNot b).1).1).1), I ((pairFault (autoNot (andR a b).1).1 (orR (autoNot a).1 (autoNot b).1).1).2)]) rfl rfl rfl) ?_
    refine wpL_q (U := NoB) rfl (q_assign (v := B (sameR (autoNot (andR a b).1).1 (orR (autoNot a).1 (autoNot b).1).1)) rfl rfl) ?_
    refine wpL_o rfl ?_
    refine e_storeBlkA (cs' := #[I ((pairFault (autoNot (andR a b).1).1 (orR (autoNot a).1 (autoNot b).1).1).1), I ((pairFault (autoNot (andR a b).1).1 (orR (autoNot a).1 (autoNot b).1).1).2)]) rfl a102_7 rfl Try.sizeOf24 rfl rfl (List.forall_mem_cons.2 ⟨rfl, List.forall_mem_cons.2 ⟨rfl, List.forall_mem_nil _⟩⟩) hS106 (fun H108 hS109 hxx => ?_)
    replace hS109 : St H0 NoB NoB [blkE g21 (.cells #[I ((pairFault (autoNot (andR a b).1).1 (orR (autoNot a).1 (autoNot b).1).1).1), I ((pairFault (autoNot (andR a b).1).1 (orR (autoNot a).1 (autoNot b).1).1).2)] 24), blkE g94 (.cells #[I ((orR (autoNot a).1 (autoNot b).1).1.Signs), r89, r90] 36), rdE r89 ((orR (autoNot a).1 (autoNot b).1).1.Next : List (List Int)), rdE r90 ((orR (autoNot a).1 (autoNot b).1).1.Takes : List Bool), blkE g72 (.cells #[I ((autoNot b).2.1), I ((autoNot b).2.2)] 24), blkE g69 (.cells #[I ((autoNot b).1.Signs), r64, r65] 36), rdE r64 ((autoNot b).1.Next : List (List Int)), rdE r65 ((autoNot b).1.Takes : List Bool), blkE g56 (.cells #[I ((autoNot a).2.1), I ((autoNot a).2.2)] 24), blkE g53 (.cells #[I ((autoNot a).1.Signs), r48, r49] 36), rdE r48 ((autoNot a).1.Next : List (List Int)), rdE r49 ((autoNot a).1.Takes : List Bool), blkE g40 (.cells #[I ((autoNot (andR a b).1).2.1), I ((autoNot (andR a b).1).2.2)] 24), blkE g37 (.cells #[I ((autoNot (andR a b).1).1.Signs), r32, r33] 36), rdE r32 ((autoNot (andR a b).1).1.Next : List (List Int)), rdE r33 ((autoNot (andR a b).1).1.Takes : List Bool), blkE g18 (.cells #[I ((andR a b).1.Signs), r13, r14] 36), rdE r13 ((andR a b).1.Next : List (List Int)), rdE r14 ((andR a b).1.Takes : List Bool), blkE g4 (.cells #[I (b.Signs), wn, wt] 36), blkE g1 (.cells #[I (a.Signs), vn, vt] 36), rdE vn (a.Next : List (List Int)), rdE vt (a.Takes : List Bool), rdE wn (b.Next : List (List Int)), rdE wt (b.Takes : List Bool)] H108 := hS109
    exact ⟨a102_7, rfl, hS109⟩
  rintro f110 H110 ⟨a110_7, a110_15, hS110⟩
  clear a102_14 a102_68 a102_7 a102_8
  refine wpF_seq ?_
  refine wpF_cut (fun f H => f 4 = B (decide ((((pairFault (autoNot (andR a b).1).1 (orR (autoNot a).1 (autoNot b).1).1).1) = 0) ∧ ((sameR (autoNot (andR a b).1).1 (orR (autoNot a).1 (autoNot b).1).1) = true))) ∧ H110 = H) ?_ ?_
  · refine wpF_region ?_
    refine wpL_q (U := NoB) rfl (q_fieldAddr rfl Try.underlying24 rfl Try.sizeOf3 a110_7) ?_
    refine wpL_q (U := NoB) rfl (q_loadBlk rfl rfl Try.isAgg3 (hS110.blk 0 rfl) rfl (fun h => h)) ?_
    refine wpL_q (U := NoB) rfl (q_eql rfl rfl rfl) ?_
    refine wpL_q (U := NoB) rfl (q_move (v := B (decide (((pairFault (autoNot (andR a b).1).1 (orR (autoNot a).1 (autoNot b).1).1).1) = 0))) rfl rfl) ?_
    by_cases hg111 : ((pairFault (autoNot (andR a b).1).1 (orR (autoNot a).1 (autoNot b).1).1).1) = 0
    · have hb112 := Eq.trans rfl (congrArg B (decide_eq_true hg111))
      refine wpL_gq (U := NoB) rfl rfl rfl hb112 (q_move (v := B (sameR (autoNot (andR a b).1).1 (orR (autoNot a).1 (autoNot b).1).1)) rfl a110_15) ?_
      refine wpL_q (U := NoB) rfl (q_pickT (v := B (sameR (autoNot (andR a b).1).1 (orR (autoNot a).1 (autoNot b).1).1)) rfl hb112 rfl) ?_
      refine wpL_q (U := NoB) rfl (q_assign (v := B (sameR (autoNot (andR a b).1).1 (orR (autoNot a).1 (autoNot b).1).1)) rfl rfl) ?_
      exact ⟨(Eq.trans rfl (congrArg B (bool_congr_of ((Iff.rfl).trans (((and_iff_right hg111).trans Iff.rfl)).symm)))), rfl⟩
    · have hb113 := Eq.trans rfl (congrArg B (decide_eq_false hg111))
      refine wpL_gs rfl rfl rfl hb113 rfl ?_
      refine wpL_q (U := NoB) rfl (q_pickF (v := B (false)) rfl hb113 rfl) ?_
      refine wpL_q (U := NoB) rfl (q_assign (v := B (false)) rfl rfl) ?_
      exact ⟨(Eq.trans rfl (congrArg B ((decide_eq_false (fun h => hg111 h.1)).symm))), rfl⟩
  rintro f114 _ ⟨a114_4, rfl⟩
  clear a110_15 a110_7
  refine wpF_ret ?_
  refine ⟨_, resT a114_4 resN, hS110.frame, ?_⟩
  show (B (decide ((((pairFault (autoNot (andR a b).1).1 (orR (autoNot a).1 (autoNot b).1).1).1) = 0) ∧ ((sameR (autoNot (andR a b).1).1 (orR (autoNot a).1 (autoNot b).1).1) = true)))) = B true
  exact congrArg B (decide_eq_true ⟨by rw [m5], by rw [m6]⟩)

end Go.Um
