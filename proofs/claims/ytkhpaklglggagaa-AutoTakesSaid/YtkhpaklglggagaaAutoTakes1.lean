import Derived.Test.YtkhpaklglggagaaProg
import Derived.Test.YtkhpaklglggagaaAutoP5
import Derived.Test.YtkhpaklglggagaaAutoLang
namespace Go.Um
open Go.Proofs
open GoT (sz ag rdc)
open KeyT (kv)



set_option maxHeartbeats 2000000 in
set_option maxRecDepth 100000 in
theorem AutoTakes_L {H0 : Heap} (vn vt wn wt vl : Value) (a b : Auto) (l : List Int) (rn : Rd NoB H0 vn a.Next) (rt : Rd NoB H0 vt a.Takes) (hsg : In64 a.Signs) (sn : Rd NoB H0 wn b.Next) (st : Rd NoB H0 wt b.Takes) (hsgb : In64 b.Signs) (rl : Rd NoB H0 vl l) : CallsH Try.prog 10 #[Value.agg #[I (a.Signs), vn, vt], Value.agg #[I (b.Signs), wn, wt], vl] H0 (fun rv_ H' => Ext NoB H0 H' ∧ rv_ = B true) := by
  have hga : In64 (andR a b).1.Signs := bothR_sg hsg
  have hgo : In64 (orR a b).1.Signs := bothR_sg hsg
  have hgn : In64 (autoNot a).1.Signs := not_sg hsg
  have hgm : In64 (autoNot b).1.Signs := not_sg hsgb
  have hS0 : St H0 NoB NoB [rdE vn (a.Next : List (List Int)), rdE vt (a.Takes : List Bool), rdE wn (b.Next : List (List Int)), rdE wt (b.Takes : List Bool), rdE vl (l : List Int)] H0 := St.arg (St.arg (St.arg (St.arg (St.arg (St.start (fun _ h => h.elim)) (Bl0.nil) rl (fun _ h => h)) (Bl0.cons (Bl0.nil)) st (fun _ h => h)) (Bl0.cons (Bl0.cons (Bl0.nil))) sn (fun _ h => h)) (Bl0.cons (Bl0.cons (Bl0.cons (Bl0.nil)))) rt (fun _ h => h)) (Bl0.cons (Bl0.cons (Bl0.cons (Bl0.cons (Bl0.nil))))) rn (fun _ h => h)
  refine callsH_of_wpF (args := [Value.agg #[I (a.Signs), vn, vt], Value.agg #[I (b.Signs), wn, wt], vl]) (rs := [.tmp 6]) Try.func10 rfl Try.ntmps10 Try.results10 (by kernel_rfl) (Nat.le_of_ble_eq_true rfl) ?_
  have a0_0 : argF [Value.agg #[I (a.Signs), vn, vt], Value.agg #[I (b.Signs), wn, wt], vl] 0 = Value.agg #[I (a.Signs), vn, vt] := rfl
  have a0_1 : argF [Value.agg #[I (a.Signs), vn, vt], Value.agg #[I (b.Signs), wn, wt], vl] 1 = Value.agg #[I (b.Signs), wn, wt] := rfl
  have a0_2 : argF [Value.agg #[I (a.Signs), vn, vt], Value.agg #[I (b.Signs), wn, wt], vl] 2 = vl := rfl
  generalize argF [Value.agg #[I (a.Signs), vn, vt], Value.agg #[I (b.Signs), wn, wt], vl] = f0 at *
  refine wpF_seq ?_
  refine wpF_cut (fun f H => ∃ (g1 : Nat), ∃ (g4 : Nat), f 2 = vl ∧ f 3 = PT g1 0 ∧ f 4 = PT g4 0 ∧ St H0 NoB NoB [blkE g4 (.cells #[I (b.Signs), wn, wt] 36), blkE g1 (.cells #[I (a.Signs), vn, vt] 36), rdE vn (a.Next : List (List Int)), rdE vt (a.Takes : List Bool), rdE wn (b.Next : List (List Int)), rdE wt (b.Takes : List Bool), rdE vl (l : List Int)] H) ?_ ?_
  · refine wpF_region ?_
    refine wpL_o rfl ?_
    refine e_box (v := Value.agg #[I (a.Signs), vn, vt]) rfl a0_0 hS0 (fun g1 H2 hS3 hxx => ?_)
    replace hS3 : St H0 NoB NoB [blkE g1 (.cells #[I (a.Signs), vn, vt] 36), rdE vn (a.Next : List (List Int)), rdE vt (a.Takes : List Bool), rdE wn (b.Next : List (List Int)), rdE wt (b.Takes : List Bool), rdE vl (l : List Int)] H2 := hS3
    refine wpL_o rfl ?_
    refine e_box (v := Value.agg #[I (b.Signs), wn, wt]) rfl a0_1 hS3 (fun g4 H5 hS6 hxx => ?_)
    replace hS6 : St H0 NoB NoB [blkE g4 (.cells #[I (b.Signs), wn, wt] 36), blkE g1 (.cells #[I (a.Signs), vn, vt] 36), rdE vn (a.Next : List (List Int)), rdE vt (a.Takes : List Bool), rdE wn (b.Next : List (List Int)), rdE wt (b.Takes : List Bool), rdE vl (l : List Int)] H5 := hS6
    refine wpL_q (U := NoB) rfl (q_assign (v := B (false)) rfl rfl) ?_
    exact ⟨g1, g4, a0_2, rfl, rfl, hS6⟩
  rintro f7 H7 ⟨g1, g4, a7_2, a7_3, a7_4, hS7⟩
  clear a0_0 a0_1 a0_2
  refine wpF_seq ?_
  refine wpF_cut (fun f H => f 2 = vl ∧ f 3 = PT g1 0 ∧ f 4 = PT g4 0 ∧ f 7 = B (true) ∧ St H0 NoB NoB [blkE g4 (.cells #[I (b.Signs), wn, wt] 36), blkE g1 (.cells #[I (a.Signs), vn, vt] 36), rdE vn (a.Next : List (List Int)), rdE vt (a.Takes : List Bool), rdE wn (b.Next : List (List Int)), rdE wt (b.Takes : List Bool), rdE vl (l : List Int)] H) ?_ ?_
  · refine wpF_region ?_
    refine wpL_o rfl ?_
    refine e_call rfl Try.call27 arr0 (autoFact) ?_
    rintro _ H8 ⟨hxx, rfl⟩
    have hS9 : St H0 NoB NoB [blkE g4 (.cells #[I (b.Signs), wn, wt] 36), blkE g1 (.cells #[I (a.Signs), vn, vt] 36), rdE vn (a.Next : List (List Int)), rdE vt (a.Takes : List Bool), rdE wn (b.Next : List (List Int)), rdE wt (b.Takes : List Bool), rdE vl (l : List Int)] H8 := hS7.ext hxx
    refine wpL_q (U := NoB) rfl (q_assign (v := B (true)) rfl rfl) ?_
    exact ⟨a7_2, a7_3, a7_4, rfl, hS9⟩
  rintro f11 H11 ⟨a11_2, a11_3, a11_4, a11_7, hS11⟩
  clear a7_2 a7_3 a7_4
  refine wpF_seq ?_
  refine wpF_seq ?_
  refine wpF_cut (fun f H => f 2 = vl ∧ f 3 = PT g1 0 ∧ f 4 = PT g4 0 ∧ f 26 = B (false) ∧ H11 = H) ?_ ?_
  · refine wpF_region ?_
    refine wpL_q (U := NoB) rfl (q_move (v := B (true)) rfl a11_7) ?_
    refine wpL_q (U := NoB) rfl (q_not rfl rfl) ?_
    exact ⟨a11_2, a11_3, a11_4, rfl, rfl⟩
  rintro f12 _ ⟨a12_2, a12_3, a12_4, a12_26, rfl⟩
  clear a11_2 a11_3 a11_4 a11_7
  refine wpF_condF a12_26 ?_
  refine wpF_skip ?_
  refine wpF_seq ?_
  refine wpF_cut (fun f H => ∃ (r13 : Value), ∃ (r14 : Value), ∃ (g18 : Nat), ∃ (g21 : Nat), f 2 = vl ∧ f 3 = PT g1 0 ∧ f 4 = PT g4 0 ∧ f 8 = PT g18 0 ∧ f 9 = PT g21 0 ∧ St H0 NoB NoB [blkE g21 (.cells #[I ((andR a b).2.1), I ((andR a b).2.2)] 24), blkE g18 (.cells #[I ((andR a b).1.Signs), r13, r14] 36), rdE r13 ((andR a b).1.Next : List (List Int)), rdE r14 ((andR a b).1.Takes : List Bool), blkE g4 (.cells #[I (b.Signs), wn, wt] 36), blkE g1 (.cells #[I (a.Signs), vn, vt] 36), rdE vn (a.Next : List (List Int)), rdE vt (a.Takes : List Bool), rdE wn (b.Next : List (List Int)), rdE wt (b.Takes : List Bool), rdE vl (l : List Int)] H) ?_ ?_
  · refine wpF_region ?_
    refine wpL_q (U := NoB) rfl (q_loadBlkA rfl a12_3 Try.isAgg36 Try.sizeOf36 rfl (hS11.blk 1 rfl) (fun h => h)) ?_
    refine wpL_q (U := NoB) rfl (q_loadBlkA rfl a12_4 Try.isAgg36 Try.sizeOf36 rfl (hS11.blk 0 rfl) (fun h => h)) ?_
    refine wpL_o rfl ?_
    refine e_call rfl Try.call33 (arr2 (v0 := Value.agg #[I (a.Signs), vn, vt]) (v1 := Value.agg #[I (b.Signs), wn, wt]) rfl rfl) (And_L vn vt wn wt a b (hS11.rdS 2 rfl) (hS11.rdS 3 rfl) hsg (hS11.rdS 4 rfl) (hS11.rdS 5 rfl) hsgb) ?_
    rintro _ H15 ⟨hxx, r13, r14, rfl, hrr13, hrr14⟩
    have hS16 : St H0 NoB NoB [rdE r13 ((andR a b).1.Next : List (List Int)), rdE r14 ((andR a b).1.Takes : List Bool), blkE g4 (.cells #[I (b.Signs), wn, wt] 36), blkE g1 (.cells #[I (a.Signs), vn, vt] 36), rdE vn (a.Next : List (List Int)), rdE vt (a.Takes : List Bool), rdE wn (b.Next : List (List Int)), rdE wt (b.Takes : List Bool), rdE vl (l : List Int)] H15 := (hS11.res2 hxx hrr13 hrr14)
    refine wpL_q (U := NoB) rfl (q_move (v := Value.tuple #[Value.agg #[I ((andR a b).1.Signs), r13, r14], Value.agg #[I ((andR a b).2.1), I ((andR a b).2.2)]]) rfl rfl) ?_
    refine wpL_q (U := NoB) rfl (q_extract (vs := #[Value.agg #[I ((andR a b).1.Signs), r13, r14], Value.agg #[I ((andR a b).2.1), I ((andR a b).2.2)]]) (v := Value.agg #[I ((andR a b).1.Signs), r13, r14]) rfl rfl rfl) ?_
    refine wpL_q (U := NoB) rfl (q_extract (vs := #[Value.agg #[I ((andR a b).1.Signs), r13, r14], Value.agg #[I ((andR a b).2.1), I ((andR a b).2.2)]]) (v := Value.agg #[I ((andR a b).2.1), I ((andR a b).2.2)]) rfl rfl rfl) ?_
    refine wpL_o rfl ?_
    refine e_alloc rfl Try.zeroValue36 hS16 (fun g18 H19 hS20 hxx => ?_)
    replace hS20 : St H0 NoB NoB [blkE g18 (.cells #[I (0), (Value.slice none 0 0), (Value.slice none 0 0)] 36), rdE r13 ((andR a b).1.Next : List (List Int)), rdE r14 ((andR a b).1.Takes : List Bool), blkE g4 (.cells #[I (b.Signs), wn, wt] 36), blkE g1 (.cells #[I (a.Signs), vn, vt] 36), rdE vn (a.Next : List (List Int)), rdE vt (a.Takes : List Bool), rdE wn (b.Next : List (List Int)), rdE wt (b.Takes : List Bool), rdE vl (l : List Int)] H19 := hS20
    refine wpL_o rfl ?_
    refine e_alloc rfl Try.zeroValue24 hS20 (fun g21 H22 hS23 hxx => ?_)
    replace hS23 : St H0 NoB NoB [blkE g21 (.cells #[I (0), I (0)] 24), blkE g18 (.cells #[I (0), (Value.slice none 0 0), (Value.slice none 0 0)] 36), rdE r13 ((andR a b).1.Next : List (List Int)), rdE r14 ((andR a b).1.Takes : List Bool), blkE g4 (.cells #[I (b.Signs), wn, wt] 36), blkE g1 (.cells #[I (a.Signs), vn, vt] 36), rdE vn (a.Next : List (List Int)), rdE vt (a.Takes : List Bool), rdE wn (b.Next : List (List Int)), rdE wt (b.Takes : List Bool), rdE vl (l : List Int)] H22 := hS23
    refine wpL_o rfl ?_
    refine e_storeBlkA (cs' := #[I ((andR a b).1.Signs), r13, r14]) rfl rfl rfl Try.sizeOf36 rfl rfl (List.forall_mem_cons.2 ⟨rfl, List.forall_mem_cons.2 ⟨(oneCell_rdL (hS23.rdl 2 rfl)), List.forall_mem_cons.2 ⟨(oneCell_rdL (hS23.rdl 3 rfl)), List.forall_mem_nil _⟩⟩⟩) (hS23.front 1 rfl) (fun H24 hS25 hxx => ?_)
    replace hS25 : St H0 NoB NoB [blkE g18 (.cells #[I ((andR a b).1.Signs), r13, r14] 36), blkE g21 (.cells #[I (0), I (0)] 24), rdE r13 ((andR a b).1.Next : List (List Int)), rdE r14 ((andR a b).1.Takes : List Bool), blkE g4 (.cells #[I (b.Signs), wn, wt] 36), blkE g1 (.cells #[I (a.Signs), vn, vt] 36), rdE vn (a.Next : List (List Int)), rdE vt (a.Takes : List Bool), rdE wn (b.Next : List (List Int)), rdE wt (b.Takes : List Bool), rdE vl (l : List Int)] H24 := hS25
    refine wpL_o rfl ?_
    refine e_storeBlkA (cs' := #[I ((andR a b).2.1), I ((andR a b).2.2)]) rfl rfl rfl Try.sizeOf24 rfl rfl (List.forall_mem_cons.2 ⟨rfl, List.forall_mem_cons.2 ⟨rfl, List.forall_mem_nil _⟩⟩) (hS25.front 1 rfl) (fun H26 hS27 hxx => ?_)
    replace hS27 : St H0 NoB NoB [blkE g21 (.cells #[I ((andR a b).2.1), I ((andR a b).2.2)] 24), blkE g18 (.cells #[I ((andR a b).1.Signs), r13, r14] 36), rdE r13 ((andR a b).1.Next : List (List Int)), rdE r14 ((andR a b).1.Takes : List Bool), blkE g4 (.cells #[I (b.Signs), wn, wt] 36), blkE g1 (.cells #[I (a.Signs), vn, vt] 36), rdE vn (a.Next : List (List Int)), rdE vt (a.Takes : List Bool), rdE wn (b.Next : List (List Int)), rdE wt (b.Takes : List Bool), rdE vl (l : List Int)] H26 := hS27
    exact ⟨r13, r14, g18, g21, a12_2, a12_3, a12_4, rfl, rfl, hS27⟩
  rintro f28 H28 ⟨r13, r14, g18, g21, a28_2, a28_3, a28_4, a28_8, a28_9, hS28⟩
  clear a12_2 a12_26 a12_3 a12_4
  refine wpF_seq ?_
  refine wpF_cut (fun f H => ∃ (r29 : Value), ∃ (r30 : Value), ∃ (g34 : Nat), ∃ (g37 : Nat), f 2 = vl ∧ f 3 = PT g1 0 ∧ f 4 = PT g4 0 ∧ f 8 = PT g18 0 ∧ f 9 = PT g21 0 ∧ f 10 = PT g34 0 ∧ f 11 = PT g37 0 ∧ St H0 NoB NoB [blkE g37 (.cells #[I ((orR a b).2.1), I ((orR a b).2.2)] 24), blkE g34 (.cells #[I ((orR a b).1.Signs), r29, r30] 36), rdE r29 ((orR a b).1.Next : List (List Int)), rdE r30 ((orR a b).1.Takes : List Bool), blkE g21 (.cells #[I ((andR a b).2.1), I ((andR a b).2.2)] 24), blkE g18 (.cells #[I ((andR a b).1.Signs), r13, r14] 36), rdE r13 ((andR a b).1.Next : List (List Int)), rdE r14 ((andR a b).1.Takes : List Bool), blkE g4 (.cells #[I (b.Signs), wn, wt] 36), blkE g1 (.cells #[I (a.Signs), vn, vt] 36), rdE vn (a.Next : List (List Int)), rdE vt (a.Takes : List Bool), rdE wn (b.Next : List (List Int)), rdE wt (b.Takes : List Bool), rdE vl (l : List Int)] H) ?_ ?_
  · refine wpF_region ?_
    refine wpL_q (U := NoB) rfl (q_loadBlkA rfl a28_3 Try.isAgg36 Try.sizeOf36 rfl (hS28.blk 5 rfl) (fun h => h)) ?_
    refine wpL_q (U := NoB) rfl (q_loadBlkA rfl a28_4 Try.isAgg36 Try.sizeOf36 rfl (hS28.blk 4 rfl) (fun h => h)) ?_
    refine wpL_o rfl ?_
    refine e_call rfl Try.call34 (arr2 (v0 := Value.agg #[I (a.Signs), vn, vt]) (v1 := Value.agg #[I (b.Signs), wn, wt]) rfl rfl) (Or_L vn vt wn wt a b (hS28.rdS 6 rfl) (hS28.rdS 7 rfl) hsg (hS28.rdS 8 rfl) (hS28.rdS 9 rfl) hsgb) ?_
    rintro _ H31 ⟨hxx, r29, r30, rfl, hrr29, hrr30⟩
    have hS32 : St H0 NoB NoB [rdE r29 ((orR a b).1.Next : List (List Int)), rdE r30 ((orR a b).1.Takes : List Bool), blkE g21 (.cells #[I ((andR a b).2.1), I ((andR a b).2.2)] 24), blkE g18 (.cells #[I ((andR a b).1.Signs), r13, r14] 36), rdE r13 ((andR a b).1.Next : List (List Int)), rdE r14 ((andR a b).1.Takes : List Bool), blkE g4 (.cells #[I (b.Signs), wn, wt] 36), blkE g1 (.cells #[I (a.Signs), vn, vt] 36), rdE vn (a.Next : List (List Int)), rdE vt (a.Takes : List Bool), rdE wn (b.Next : List (List Int)), rdE wt (b.Takes : List Bool), rdE vl (l : List Int)] H31 := (hS28.res2 hxx hrr29 hrr30)
    refine wpL_q (U := NoB) rfl (q_move (v := Value.tuple #[Value.agg #[I ((orR a b).1.Signs), r29, r30], Value.agg #[I ((orR a b).2.1), I ((orR a b).2.2)]]) rfl rfl) ?_
    refine wpL_q (U := NoB) rfl (q_extract (vs := #[Value.agg #[I ((orR a b).1.Signs), r29, r30], Value.agg #[I ((orR a b).2.1), I ((orR a b).2.2)]]) (v := Value.agg #[I ((orR a b).1.Signs), r29, r30]) rfl rfl rfl) ?_
    refine wpL_q (U := NoB) rfl (q_extract (vs := #[Value.agg #[I ((orR a b).1.Signs), r29, r30], Value.agg #[I ((orR a b).2.1), I ((orR a b).2.2)]]) (v := Value.agg #[I ((orR a b).2.1), I ((orR a b).2.2)]) rfl rfl rfl) ?_
    refine wpL_o rfl ?_
    refine e_alloc rfl Try.zeroValue36 hS32 (fun g34 H35 hS36 hxx => ?_)
    replace hS36 : St H0 NoB NoB [blkE g34 (.cells #[I (0), (Value.slice none 0 0), (Value.slice none 0 0)] 36), rdE r29 ((orR a b).1.Next : List (List Int)), rdE r30 ((orR a b).1.Takes : List Bool), blkE g21 (.cells #[I ((andR a b).2.1), I ((andR a b).2.2)] 24), blkE g18 (.cells #[I ((andR a b).1.Signs), r13, r14] 36), rdE r13 ((andR a b).1.Next : List (List Int)), rdE r14 ((andR a b).1.Takes : List Bool), blkE g4 (.cells #[I (b.Signs), wn, wt] 36), blkE g1 (.cells #[I (a.Signs), vn, vt] 36), rdE vn (a.Next : List (List Int)), rdE vt (a.Takes : List Bool), rdE wn (b.Next : List (List Int)), rdE wt (b.Takes : List Bool), rdE vl (l : List Int)] H35 := hS36
    refine wpL_o rfl ?_
    refine e_alloc rfl Try.zeroValue24 hS36 (fun g37 H38 hS39 hxx => ?_)
    replace hS39 : St H0 NoB NoB [blkE g37 (.cells #[I (0), I (0)] 24), blkE g34 (.cells #[I (0), (Value.slice none 0 0), (Value.slice none 0 0)] 36), rdE r29 ((orR a b).1.Next : List (List Int)), rdE r30 ((orR a b).1.Takes : List Bool), blkE g21 (.cells #[I ((andR a b).2.1), I ((andR a b).2.2)] 24), blkE g18 (.cells #[I ((andR a b).1.Signs), r13, r14] 36), rdE r13 ((andR a b).1.Next : List (List Int)), rdE r14 ((andR a b).1.Takes : List Bool), blkE g4 (.cells #[I (b.Signs), wn, wt] 36), blkE g1 (.cells #[I (a.Signs), vn, vt] 36), rdE vn (a.Next : List (List Int)), rdE vt (a.Takes : List Bool), rdE wn (b.Next : List (List Int)), rdE wt (b.Takes : List Bool), rdE vl (l : List Int)] H38 := hS39
    refine wpL_o rfl ?_
    refine e_storeBlkA (cs' := #[I ((orR a b).1.Signs), r29, r30]) rfl rfl rfl Try.sizeOf36 rfl rfl (List.forall_mem_cons.2 ⟨rfl, List.forall_mem_cons.2 ⟨(oneCell_rdL (hS39.rdl 2 rfl)), List.forall_mem_cons.2 ⟨(oneCell_rdL (hS39.rdl 3 rfl)), List.forall_mem_nil _⟩⟩⟩) (hS39.front 1 rfl) (fun H40 hS41 hxx => ?_)
    replace hS41 : St H0 NoB NoB [blkE g34 (.cells #[I ((orR a b).1.Signs), r29, r30] 36), blkE g37 (.cells #[I (0), I (0)] 24), rdE r29 ((orR a b).1.Next : List (List Int)), rdE r30 ((orR a b).1.Takes : List Bool), blkE g21 (.cells #[I ((andR a b).2.1), I ((andR a b).2.2)] 24), blkE g18 (.cells #[I ((andR a b).1.Signs), r13, r14] 36), rdE r13 ((andR a b).1.Next : List (List Int)), rdE r14 ((andR a b).1.Takes : List Bool), blkE g4 (.cells #[I (b.Signs), wn, wt] 36), blkE g1 (.cells #[I (a.Signs), vn, vt] 36), rdE vn (a.Next : List (List Int)), rdE vt (a.Takes : List Bool), rdE wn (b.Next : List (List Int)), rdE wt (b.Takes : List Bool), rdE vl (l : List Int)] H40 := hS41
    refine wpL_o rfl ?_
    refine e_storeBlkA (cs' := #[I ((orR a b).2.1), I ((orR a b).2.2)]) rfl rfl rfl Try.sizeOf24 rfl rfl (List.forall_mem_cons.2 ⟨rfl, List.forall_mem_cons.2 ⟨rfl, List.forall_mem_nil _⟩⟩) (hS41.front 1 rfl) (fun H42 hS43 hxx => ?_)
    replace hS43 : St H0 NoB NoB [blkE g37 (.cells #[I ((orR a b).2.1), I ((orR a b).2.2)] 24), blkE g34 (.cells #[I ((orR a b).1.Signs), r29, r30] 36), rdE r29 ((orR a b).1.Next : List (List Int)), rdE r30 ((orR a b).1.Takes : List Bool), blkE g21 (.cells #[I ((andR a b).2.1), I ((andR a b).2.2)] 24), blkE g18 (.cells #[I ((andR a b).1.Signs), r13, r14] 36), rdE r13 ((andR a b).1.Next : List (List Int)), rdE r14 ((andR a b).1.Takes : List Bool), blkE g4 (.cells #[I (b.Signs), wn, wt] 36), blkE g1 (.cells #[I (a.Signs), vn, vt] 36), rdE vn (a.Next : List (List Int)), rdE vt (a.Takes : List Bool), rdE wn (b.Next : List (List Int)), rdE wt (b.Takes : List Bool), rdE vl (l : List Int)] H42 := hS43
    exact ⟨r29, r30, g34, g37, a28_2, a28_3, a28_4, a28_8, a28_9, rfl, rfl, hS43⟩
  rintro f44 H44 ⟨r29, r30, g34, g37, a44_2, a44_3, a44_4, a44_8, a44_9, a44_10, a44_11, hS44⟩
  clear a28_2 a28_3 a28_4 a28_8 a28_9
  refine wpF_seq ?_
  refine wpF_cut (fun f H => ∃ (r45 : Value), ∃ (r46 : Value), ∃ (g50 : Nat), ∃ (g53 : Nat), f 2 = vl ∧ f 3 = PT g1 0 ∧ f 4 = PT g4 0 ∧ f 8 = PT g18 0 ∧ f 9 = PT g21 0 ∧ f 10 = PT g34 0 ∧ f 11 = PT g37 0 ∧ f 12 = PT g50 0 ∧ f 13 = PT g53 0 ∧ St H0 NoB NoB [blkE g53 (.cells #[I ((autoNot a).2.1), I ((autoNot a).2.2)] 24), blkE g50 (.cells #[I ((autoNot a).1.Signs), r45, r46] 36), rdE r45 ((autoNot a).1.Next : List (List Int)), rdE r46 ((autoNot a).1.Takes : List Bool), blkE g37 (.cells #[I ((orR a b).2.1), I ((orR a b).2.2)] 24), blkE g34 (.cells #[I ((orR a b).1.Signs), r29, r30] 36), rdE r29 ((orR a b).1.Next : List (List Int)), rdE r30 ((orR a b).1.Takes : List Bool), blkE g21 (.cells #[I ((andR a b).2.1), I ((andR a b).2.2)] 24), blkE g18 (.cells #[I ((andR a b).1.Signs), r13, r14] 36), rdE r13 ((andR a b).1.Next : List (List Int)), rdE r14 ((andR a b).1.Takes : List Bool), blkE g4 (.cells #[I (b.Signs), wn, wt] 36), blkE g1 (.cells #[I (a.Signs), vn, vt] 36), rdE vn (a.Next : List (List Int)), rdE vt (a.Takes : List Bool), rdE wn (b.Next : List (List Int)), rdE wt (b.Takes : List Bool), rdE vl (l : List Int)] H) ?_ ?_
  · refine wpF_region ?_
    refine wpL_q (U := NoB) rfl (q_loadBlkA rfl a44_3 Try.isAgg36 Try.sizeOf36 rfl (hS44.blk 9 rfl) (fun h => h)) ?_
    refine wpL_o rfl ?_
    refine e_call rfl Try.call25 (arr1 (v0 := Value.agg #[I (a.Signs), vn, vt]) rfl) (Not vn vt a (hS44.rdS 10 rfl) (hS44.rdS 11 rfl) hsg) ?_
    rintro _ H47 ⟨hxx, r45, r46, rfl, hrr45, hrr46⟩
    have hS48 : St H0 NoB NoB [rdE r45 ((autoNot a).1.Next : List (List Int)), rdE r46 ((autoNot a).1.Takes : List Bool), blkE g37 (.cells #[I ((orR a b).2.1), I ((orR a b).2.2)] 24), blkE g34 (.cells #[I ((orR a b).1.Signs), r29, r30] 36), rdE r29 ((orR a b).1.Next : List (List Int)), rdE r30 ((orR a b).1.Takes : List Bool), blkE g21 (.cells #[I ((andR a b).2.1), I ((andR a b).2.2)] 24), blkE g18 (.cells #[I ((andR a b).1.Signs), r13, r14] 36), rdE r13 ((andR a b).1.Next : List (List Int)), rdE r14 ((andR a b).1.Takes : List Bool), blkE g4 (.cells #[I (b.Signs), wn, wt] 36), blkE g1 (.cells #[I (a.Signs), vn, vt] 36), rdE vn (a.Next : List (List Int)), rdE vt (a.Takes : List Bool), rdE wn (b.Next : List (List Int)), rdE wt (b.Takes : List Bool), rdE vl (l : List Int)] H47 := (hS44.res2 hxx hrr45 hrr46)
    refine wpL_q (U := NoB) rfl (q_move (v := Value.tuple #[Value.agg #[I ((autoNot a).1.Signs), r45, r46], Value.agg #[I ((autoNot a).2.1), I ((autoNot a).2.2)]]) rfl rfl) ?_
    refine wpL_q (U := NoB) rfl (q_extract (vs := #[Value.agg #[I ((autoNot a).1.Signs), r45, r46], Value.agg #[I ((autoNot a).2.1), I ((autoNot a).2.2)]]) (v := Value.agg #[I ((autoNot a).1.Signs), r45, r46]) rfl rfl rfl) ?_
    refine wpL_q (U := NoB) rfl (q_extract (vs := #[Value.agg #[I ((autoNot a).1.Signs), r45, r46], Value.agg #[I ((autoNot a).2.1), I ((autoNot a).2.2)]]) (v := Value.agg #[I ((autoNot a).2.1), I ((autoNot a).2.2)]) rfl rfl rfl) ?_
    refine wpL_o rfl ?_
    refine e_alloc rfl Try.zeroValue36 hS48 (fun g50 H51 hS52 hxx => ?_)
    replace hS52 : St H0 NoB NoB [blkE g50 (.cells #[I (0), (Value.slice none 0 0), (Value.slice none 0 0)] 36), rdE r45 ((autoNot a).1.Next : List (List Int)), rdE r46 ((autoNot a).1.Takes : List Bool), blkE g37 (.cells #[I ((orR a b).2.1), I ((orR a b).2.2)] 24), blkE g34 (.cells #[I ((orR a b).1.Signs), r29, r30] 36), rdE r29 ((orR a b).1.Next : List (List Int)), rdE r30 ((orR a b).1.Takes : List Bool), blkE g21 (.cells #[I ((andR a b).2.1), I ((andR a b).2.2)] 24), blkE g18 (.cells #[I ((andR a b).1.Signs), r13, r14] 36), rdE r13 ((andR a b).1.Next : List (List Int)), rdE r14 ((andR a b).1.Takes : List Bool), blkE g4 (.cells #[I (b.Signs), wn, wt] 36), blkE g1 (.cells #[I (a.Signs), vn, vt] 36), rdE vn (a.Next : List (List Int)), rdE vt (a.Takes : List Bool), rdE wn (b.Next : List (List Int)), rdE wt (b.Takes : List Bool), rdE vl (l : List Int)] H51 := hS52
    refine wpL_o rfl ?_
    refine e_alloc rfl Try.zeroValue24 hS52 (fun g53 H54 hS55 hxx => ?_)
    replace hS55 : St H0 NoB NoB [blkE g53 (.cells #[I (0), I (0)] 24), blkE g50 (.cells #[I (0), (Value.slice none 0 0), (Value.slice none 0 0)] 36), rdE r45 ((autoNot a).1.Next : List (List Int)), rdE r46 ((autoNot a).1.Takes : List Bool), blkE g37 (.cells #[I ((orR a b).2.1), I ((orR a b).2.2)] 24), blkE g34 (.cells #[I ((orR a b).1.Signs), r29, r30] 36), rdE r29 ((orR a b).1.Next : List (List Int)), rdE r30 ((orR a b).1.Takes : List Bool), blkE g21 (.cells #[I ((andR a b).2.1), I ((andR a b).2.2)] 24), blkE g18 (.cells #[I ((andR a b).1.Signs), r13, r14] 36), rdE r13 ((andR a b).1.Next : List (List Int)), rdE r14 ((andR a b).1.Takes : List Bool), blkE g4 (.cells #[I (b.Signs), wn, wt] 36), blkE g1 (.cells #[I (a.Signs), vn, vt] 36), rdE vn (a.Next : List (List Int)), rdE vt (a.Takes : List Bool), rdE wn (b.Next : List (List Int)), rdE wt (b.Takes : List Bool), rdE vl (l : List Int)] H54 := hS55
    refine wpL_o rfl ?_
    refine e_storeBlkA (cs' := #[I ((autoNot a).1.Signs), r45, r46]) rfl rfl rfl Try.sizeOf36 rfl rfl (List.forall_mem_cons.2 ⟨rfl, List.forall_mem_cons.2 ⟨(oneCell_rdL (hS55.rdl 2 rfl)), List.forall_mem_cons.2 ⟨(oneCell_rdL (hS55.rdl 3 rfl)), List.forall_mem_nil _⟩⟩⟩) (hS55.front 1 rfl) (fun H56 hS57 hxx => ?_)
    replace hS57 : St H0 NoB NoB [blkE g50 (.cells #[I ((autoNot a).1.Signs), r45, r46] 36), blkE g53 (.cells #[I (0), I (0)] 24), rdE r45 ((autoNot a).1.Next : List (List Int)), rdE r46 ((autoNot a).1.Takes : List Bool), blkE g37 (.cells #[I ((orR a b).2.1), I ((orR a b).2.2)] 24), blkE g34 (.cells #[I ((orR a b).1.Signs), r29, r30] 36), rdE r29 ((orR a b).1.Next : List (List Int)), rdE r30 ((orR a b).1.Takes : List Bool), blkE g21 (.cells #[I ((andR a b).2.1), I ((andR a b).2.2)] 24), blkE g18 (.cells #[I ((andR a b).1.Signs), r13, r14] 36), rdE r13 ((andR a b).1.Next : List (List Int)), rdE r14 ((andR a b).1.Takes : List Bool), blkE g4 (.cells #[I (b.Signs), wn, wt] 36), blkE g1 (.cells #[I (a.Signs), vn, vt] 36), rdE vn (a.Next : List (List Int)), rdE vt (a.Takes : List Bool), rdE wn (b.Next : List (List Int)), rdE wt (b.Takes : List Bool), rdE vl (l : List Int)] H56 := hS57
    refine wpL_o rfl ?_
    refine e_storeBlkA (cs' := #[I ((autoNot a).2.1), I ((autoNot a).2.2)]) rfl rfl rfl Try.sizeOf24 rfl rfl (List.forall_mem_cons.2 ⟨rfl, List.forall_mem_cons.2 ⟨rfl, List.forall_mem_nil _⟩⟩) (hS57.front 1 rfl) (fun H58 hS59 hxx => ?_)
    replace hS59 : St H0 NoB NoB [blkE g53 (.cells #[I ((autoNot a).2.1), I ((autoNot a).2.2)] 24), blkE g50 (.cells #[I ((autoNot a).1.Signs), r45, r46] 36), rdE r45 ((autoNot a).1.Next : List (List Int)), rdE r46 ((autoNot a).1.Takes : List Bool), blkE g37 (.cells #[I ((orR a b).2.1), I ((orR a b).2.2)] 24), blkE g34 (.cells #[I ((orR a b).1.Signs), r29, r30] 36), rdE r29 ((orR a b).1.Next : List (List Int)), rdE r30 ((orR a b).1.Takes : List Bool), blkE g21 (.cells #[I ((andR a b).2.1), I ((andR a b).2.2)] 24), blkE g18 (.cells #[I ((andR a b).1.Signs), r13, r14] 36), rdE r13 ((andR a b).1.Next : List (List Int)), rdE r14 ((andR a b).1.Takes : List Bool), blkE g4 (.cells #[I (b.Signs), wn, wt] 36), blkE g1 (.cells #[I (a.Signs), vn, vt] 36), rdE vn (a.Next : List (List Int)), rdE vt (a.Takes : List Bool), rdE wn (b.Next : List (List Int)), rdE wt (b.Takes : List Bool), rdE vl (l : List Int)] H58 := hS59
    exact ⟨r45, r46, g50, g53, a44_2, a44_3, a44_4, a44_8, a44_9, a44_10, a44_11, rfl, rfl, hS59⟩
  rintro f60 H60 ⟨r45, r46, g50, g53, a60_2, a60_3, a60_4, a60_8, a60_9, a60_10, a60_11, a60_12, a60_13, hS60⟩
  clear a44_10 a44_11 a44_2 a44_3 a44_4 a44_8 a44_9
  refine wpF_seq ?_
  refine wpF_seq ?_
  refine wpF_cut (fun f H => f 2 = vl ∧ f 3 = PT g1 0 ∧ f 4 = PT g4 0 ∧ f 8 = PT g18 0 ∧ f 10 = PT g34 0 ∧ f 12 = PT g50 0 ∧ f 56 = B (decide (((((andR a b).2.1) ≠ 0) ∨ (((orR a b).2.1) ≠ 0)) ∨ (((autoNot a).2.1) ≠ 0))) ∧ H60 = H) ?_ ?_
  · refine wpF_region ?_
    refine wpL_q (U := NoB) rfl (q_fieldAddr rfl Try.underlying24 rfl Try.sizeOf3 a60_9) ?_
    refine wpL_q (U := NoB) rfl (q_loadBlk rfl rfl Try.isAgg3 (hS60.blk 8 rfl) rfl (fun h => h)) ?_
    refine wpL_q (U := NoB) rfl (q_neq rfl rfl rfl) ?_
    refine wpL_q (U := NoB) rfl (q_move (v := B (decide (((andR a b).2.1) ≠ 0))) rfl rfl) ?_
    by_cases hg61 : ((andR a b).2.1) ≠ 0
    · have hb62 := Eq.trans rfl (congrArg B (decide_eq_true hg61))
      refine wpL_gs rfl rfl rfl hb62 rfl ?_
      refine wpL_gs rfl rfl rfl hb62 rfl ?_
      refine wpL_gs rfl rfl rfl hb62 rfl ?_
      refine wpL_q (U := NoB) rfl (q_pickT (v := B (true)) rfl hb62 rfl) ?_
      refine wpL_q (U := NoB) rfl (q_move (v := B (true)) rfl rfl) ?_
      refine wpL_gs rfl rfl rfl rfl rfl ?_
      refine wpL_gs rfl rfl rfl rfl rfl ?_
      refine wpL_gs rfl rfl rfl rfl rfl ?_
      refine wpL_q (U := NoB) rfl (q_pickT (v := B (true)) rfl rfl rfl) ?_
      exact ⟨a60_2, a60_3, a60_4, a60_8, a60_10, a60_12, (Eq.trans rfl (congrArg B ((decide_eq_true (Or.inl (Or.inl hg61))).symm))), rfl⟩
    · have hb63 := Eq.trans rfl (congrArg B (decide_eq_false hg61))
      refine wpL_gq (U := NoB) rfl rfl rfl hb63 (q_fieldAddr rfl Try.underlying24 rfl Try.sizeOf3 a60_11) ?_
      refine wpL_gq (U := NoB) rfl rfl rfl hb63 (q_loadBlk rfl rfl Try.isAgg3 (hS60.blk 4 rfl) rfl (fun h => h)) ?_
      refine wpL_gq (U := NoB) rfl rfl rfl hb63 (q_neq rfl rfl rfl) ?_
      refine wpL_q (U := NoB) rfl (q_pickF (v := B (decide (((orR a b).2.1) ≠ 0))) rfl hb63 rfl) ?_
      refine wpL_q (U := NoB) rfl (q_move (v := B (decide (((orR a b).2.1) ≠ 0))) rfl rfl) ?_
      by_cases hg64 : ((orR a b).2.1) ≠ 0
      · have hb65 := Eq.trans rfl (congrArg B (decide_eq_true hg64))
        refine wpL_gs rfl rfl rfl hb65 rfl ?_
        refine wpL_gs rfl rfl rfl hb65 rfl ?_
        refine wpL_gs rfl rfl rfl hb65 rfl ?_
        refine wpL_q (U := NoB) rfl (q_pickT (v := B (true)) rfl hb65 rfl) ?_
        exact ⟨a60_2, a60_3, a60_4, a60_8, a60_10, a60_12, (Eq.trans rfl (congrArg B ((decide_eq_true (Or.inl (Or.inr hg64))).symm))), rfl⟩
      · have hb66 := Eq.trans rfl (congrArg B (decide_eq_false hg64))
        refine wpL_gq (U := NoB) rfl rfl rfl hb66 (q_fieldAddr rfl Try.underlying24 rfl Try.sizeOf3 a60_13) ?_
        refine wpL_gq (U := NoB) rfl rfl rfl hb66 (q_loadBlk rfl rfl Try.isAgg3 (hS60.blk 0 rfl) rfl (fun h => h)) ?_
        refine wpL_gq (U := NoB) rfl rfl rfl hb66 (q_neq rfl rfl rfl) ?_
        refine wpL_q (U := NoB) rfl (q_pickF (v := B (decide (((autoNot a).2.1) ≠ 0))) rfl hb66 rfl) ?_
        exact ⟨a60_2, a60_3, a60_4, a60_8, a60_10, a60_12, (Eq.trans rfl (congrArg B (decide_congr_of ((Iff.rfl).trans (((or_iff_right (not_or.2 ⟨hg61, hg64⟩)).trans Iff.rfl)).symm)))), rfl⟩
  rintro f67 _ ⟨a67_2, a67_3, a67_4, a67_8, a67_10, a67_12, a67_56, rfl⟩
  clear a60_10 a60_11 a60_12 a60_13 a60_2 a60_3 a60_4 a60_8 a60_9
  refine wpF_condP a67_56 (fun h56 => ?t159) (fun h56 => ?e159)
  case t159 =>
    refine wpF_seq ?_
    refine wpF_cut (fun f H => f 6 = B (true) ∧ H60 = H) ?_ ?_
    · refine wpF_region ?_
      refine wpL_q (U := NoB) rfl (q_assign (v := B (true)) rfl rfl) ?_
      exact ⟨rfl, rfl⟩
    rintro f69 _ ⟨a69_6, rfl⟩
    clear a67_10 a67_12 a67_2 a67_3 a67_4 a67_56 a67_8
    refine wpF_ret ?_
    refine ⟨_, resT a69_6 resN, hS60.frame, ?_⟩
    show (B (true)) = B true
    rfl
  refine wpF_skip ?_
  refine wpF_seq ?_
  refine wpF_cut (fun f H => ∃ (g73 : Nat), f 2 = vl ∧ f 4 = PT g4 0 ∧ f 8 = PT g18 0 ∧ f 10 = PT g34 0 ∧ f 12 = PT g50 0 ∧ f 14 = B ((autoTakes a l).1) ∧ f 15 = PT g73 0 ∧ St H0 NoB NoB [blkE g73 (.cells #[I ((autoTakes a l).2.1), I ((autoTakes a l).2.2)] 24), blkE g53 (.cells #[I ((autoNot a).2.1), I ((autoNot a).2.2)] 24), blkE g50 (.cells #[I ((autoNot a).1.Signs), r45, r46] 36), rdE r45 ((autoNot a).1.Next : List (List Int)), rdE r46 ((autoNot a).1.Takes : List Bool), blkE g37 (.cells #[I ((orR a b).2.1), I ((orR a b).2.2)] 24), blkE g34 (.cells #[I ((orR a b).1.Signs), r29, r30] 36), rdE r29 ((orR a b).1.Next : List (List Int)), rdE r30 ((orR a b).1.Takes : List Bool), blkE g21 (.cells #[I ((andR a b).2.1), I ((andR a b).2.2)] 24), blkE g18 (.cells #[I ((andR a b).1.Signs), r13, r14] 36), rdE r13 ((andR a b).1.Next : List (List Int)), rdE r14 ((andR a b).1.Takes : List Bool), blkE g4 (.cells #[I (b.Signs), wn, wt] 36), blkE g1 (.cells #[I (a.Signs), vn, vt] 36), rdE vn (a.Next : List (List Int)), rdE vt (a.Takes : List Bool), rdE wn (b.Next : List (List Int)), rdE wt (b.Takes : List Bool), rdE vl (l : List Int)] H) ?_ ?_
  · refine wpF_region ?_
    refine wpL_q (U := NoB) rfl (q_loadBlkA rfl a67_3 Try.isAgg36 Try.sizeOf36 rfl (hS60.blk 13 rfl) (fun h => h)) ?_
    refine wpL_q (U := NoB) rfl (q_move (v := vl) rfl a67_2) ?_
    refine wpL_o rfl ?_
    refine e_call rfl Try.call24 (arr2 (v0 := Value.agg #[I (a.Signs), vn, vt]) (v1 := vl) rfl rfl) (Takes vn vt vl a l (hS60.rdN 14 rfl) (hS60.rdN 15 rfl) hsg (hS60.rdN 18 rfl)) ?_
    rintro _ H70 ⟨hxx, rfl⟩
    have hS71 : St H0 NoB NoB [blkE g53 (.cells #[I ((autoNot a).2.1), I ((autoNot a).2.2)] 24), blkE g50 (.cells #[I ((autoNot a).1.Signs), r45, r46] 36), rdE r45 ((autoNot a).1.Next : List (List Int)), rdE r46 ((autoNot a).1.Takes : List Bool), blkE g37 (.cells #[I ((orR a b).2.1), I ((orR a b).2.2)] 24), blkE g34 (.cells #[I ((orR a b).1.Signs), r29, r30] 36), rdE r29 ((orR a b).1.Next : List (List Int)), rdE r30 ((orR a b).1.Takes : List Bool), blkE g21 (.cells #[I ((andR a b).2.1), I ((andR a b).2.2)] 24), blkE g18 (.cells #[I ((andR a b).1.Signs), r13, r14] 36), rdE r13 ((andR a b).1.Next : List (List Int)), rdE r14 ((andR a b).1.Takes : List Bool), blkE g4 (.cells #[I (b.Signs), wn, wt] 36), blkE g1 (.cells #[I (a.Signs), vn, vt] 36), rdE vn (a.Next : List (List Int)), rdE vt (a.Takes : List Bool), rdE wn (b.Next : List (List Int)), rdE wt (b.Takes : List Bool), rdE vl (l : List Int)] H70 := hS60.ext hxx
    refine wpL_q (U := NoB) rfl (q_move (v := Value.tuple #[B ((autoTakes a l).1), Value.agg #[I ((autoTakes a l).2.1), I ((autoTakes a l).2.2)]]) rfl rfl) ?_
    refine wpL_q (U := NoB) rfl (q_extract (vs := #[B ((autoTakes a l).1), Value.agg #[I ((autoTakes a l).2.1), I ((autoTakes a l).2.2)]]) (v := B ((autoTakes a l).1)) rfl rfl rfl) ?_
    refine wpL_q (U := NoB) rfl (q_extract (vs := #[B ((autoTakes a l).1), Value.agg #[I ((autoTakes a l).2.1), I ((autoTakes a l).2.2)]]) (v := Value.agg #[I ((autoTakes a l).2.1), I ((autoTakes a l).2.2)]) rfl rfl rfl) ?_
    refine wpL_o rfl ?_
    refine e_alloc rfl Try.zeroValue24 hS71 (fun g73 H74 hS75 hxx => ?_)
    replace hS75 : St H0 NoB NoB [blkE g73 (.cells #[I (0), I (0)] 24), blkE g53 (.cells #[I ((autoNot a).2.1), I ((autoNot a).2.2)] 24), blkE g50 (.cells #[I ((autoNot a).1.Signs), r45, r46] 36), rdE r45 ((autoNot a).1.Next : List (List Int)), rdE r46 ((autoNot a).1.Takes : List Bool), blkE g37 (.cells #[I ((orR a b).2.1), I ((orR a b).2.2)] 24), blkE g34 (.cells #[I ((orR a b).1.Signs), r29, r30] 36), rdE r29 ((orR a b).1.Next : List (List Int)), rdE r30 ((orR a b).1.Takes : List Bool), blkE g21 (.cells #[I ((andR a b).2.1), I ((andR a b).2.2)] 24), blkE g18 (.cells #[I ((andR a b).1.Signs), r13, r14] 36), rdE r13 ((andR a b).1.Next : List (List Int)), rdE r14 ((andR a b).1.Takes : List Bool), blkE g4 (.cells #[I (b.Signs), wn, wt] 36), blkE g1 (.cells #[I (a.Signs), vn, vt] 36), rdE vn (a.Next : List (List Int)), rdE vt (a.Takes : List Bool), rdE wn (b.Next : List (List Int)), rdE wt (b.Takes : List Bool), rdE vl (l : List Int)] H74 := hS75
    refine wpL_q (U := NoB) rfl (q_assign (v := B ((autoTakes a l).1)) rfl rfl) ?_
    refine wpL_o rfl ?_
    refine e_storeBlkA (cs' := #[I ((autoTakes a l).2.1), I ((autoTakes a l).2.2)]) rfl rfl rfl Try.sizeOf24 rfl rfl (List.forall_mem_cons.2 ⟨rfl, List.forall_mem_cons.2 ⟨rfl, List.forall_mem_nil _⟩⟩) hS75 (fun H76 hS77 hxx => ?_)
    replace hS77 : St H0 NoB NoB [blkE g73 (.cells #[I ((autoTakes a l).2.1), I ((autoTakes a l).2.2)] 24), blkE g53 (.cells #[I ((autoNot a).2.1), I ((autoNot a).2.2)] 24), blkE g50 (.cells #[I ((autoNot a).1.Signs), r45, r46] 36), rdE r45 ((autoNot a).1.Next : List (List Int)), rdE r46 ((autoNot a).1.Takes : List Bool), blkE g37 (.cells #[I ((orR a b).2.1), I ((orR a b).2.2)] 24), blkE g34 (.cells #[I ((orR a b).1.Signs), r29, r30] 36), rdE r29 ((orR a b).1.Next : List (List Int)), rdE r30 ((orR a b).1.Takes : List Bool), blkE g21 (.cells #[I ((andR a b).2.1), I ((andR a b).2.2)] 24), blkE g18 (.cells #[I ((andR a b).1.Signs), r13, r14] 36), rdE r13 ((andR a b).1.Next : List (List Int)), rdE r14 ((andR a b).1.Takes : List Bool), blkE g4 (.cells #[I (b.Signs), wn, wt] 36), blkE g1 (.cells #[I (a.Signs), vn, vt] 36), rdE vn (a.Next : List (List Int)), rdE vt (a.Takes : List Bool), rdE wn (b.Next : List (List Int)), rdE wt (b.Takes : List Bool), rdE vl (l : List Int)] H76 := hS77
    exact ⟨g73, a67_2, a67_4, a67_8, a67_10, a67_12, rfl, rfl, hS77⟩
  rintro f78 H78 ⟨g73, a78_2, a78_4, a78_8, a78_10, a78_12, a78_14, a78_15, hS78⟩
  clear a67_10 a67_12 a67_2 a67_3 a67_4 a67_56 a67_8
  refine wpF_seq ?_
  refine wpF_seq ?_
  refine wpF_cut (fun f H => f 2 = vl ∧ f 4 = PT g4 0 ∧ f 8 = PT g18 0 ∧ f 10 = PT g34 0 ∧ f 12 = PT g50 0 ∧ f 14 = B ((autoTakes a l).1) ∧ f 65 = B (decide (((autoTakes a l).2.1) ≠ 0)) ∧ H78 = H) ?_ ?_
  · refine wpF_region ?_
    refine wpL_q (U := NoB) rfl (q_fieldAddr rfl Try.underlying24 rfl Try.sizeOf3 a78_15) ?_
    refine wpL_q (U := NoB) rfl (q_loadBlk rfl rfl Try.isAgg3 (hS78.blk 0 rfl) rfl (fun h => h)) ?_
    refine wpL_q (U := NoB) rfl (q_neq rfl rfl rfl) ?_
    exact ⟨a78_2, a78_4, a78_8, a78_10, a78_12, a78_14, rfl, rfl⟩
  rintro f79 _ ⟨a79_2, a79_4, a79_8, a79_10, a79_12, a79_14, a79_65, rfl⟩
  clear a78_10 a78_12 a78_14 a78_15 a78_2 a78_4 a78_8
  refine wpF_condP a79_65 (fun h65 => ?t158) (fun h65 => ?e158)
  case t158 =>
    refine wpF_seq ?_
    refine wpF_cut (fun f H => f 6 = B (!((autoTakes a l).1)) ∧ H78 = H) ?_ ?_
    · refine wpF_region ?_
      refine wpL_q (U := NoB) rfl (q_move (v := B ((autoTakes a l).1)) rfl a79_14) ?_
      refine wpL_q (U := NoB) rfl (q_not rfl rfl) ?_
      refine wpL_q (U := NoB) rfl (q_assign (v := B (!((autoTakes a l).1))) rfl rfl) ?_
      exact ⟨rfl, rfl⟩
    rintro f81 _ ⟨a81_6, rfl⟩
    clear a79_10 a79_12 a79_14 a79_2 a79_4 a79_65 a79_8
    refine wpF_ret ?_
    refine ⟨_, resT a81_6 resN, hS78.frame, ?_⟩
    show (B (!((autoTakes a l).1))) = B true
    exact congrArg B (by rw [autoTakes_bad h65]; rfl)
  obtain ⟨hp, hq, hr, hs, ht⟩ := takes_law (a := a) (b := b) (l := l) (Decidable.of_not_not fun h => h56 (.inl (.inl h))) (Decidable.of_not_not fun h => h56 (.inl (.inr h))) (Decidable.of_not_not h65)
  refine wpF_skip ?_
  refine wpF_seq ?_
  refine wpF_cut (fun f H => ∃ (g85 : Nat), f 2 = vl ∧ f 8 = PT g18 0 ∧ f 10 = PT g34 0 ∧ f 12 = PT g50 0 ∧ f 14 = B ((autoTakes a l).1) ∧ f 16 = B ((autoTakes b l).1) ∧ f 17 = PT g85 0 ∧ St H0 NoB NoB [blkE g85 (.cells #[I ((autoTakes b l).2.1), I ((autoTakes b l).2.2)] 24), blkE g73 (.cells #[I ((autoTakes a l).2.1), I ((autoTakes a l).2.2)] 24), blkE g53 (.cells #[I ((autoNot a).2.1), I ((autoNot a).2.2)] 24), blkE g50 (.cells #[I ((autoNot a).1.Signs), r45, r46] 36), rdE r45 ((autoNot a).1.Next : List (List Int)), rdE r46 ((autoNot a).1.Takes : List Bool), blkE g37 (.cells #[I ((orR a b).2.1), I ((orR a b).2.2)] 24), blkE g34 (.cells #[I ((orR a b).1.Signs), r29, r30] 36), rdE r29 ((orR a b).1.Next : List (List Int)), rdE r30 ((orR a b).1.Takes : List Bool), blkE g21 (.cells #[I ((andR a b).2.1), I ((andR a b).2.2)] 24), blkE g18 (.cells #[I ((andR a b).1.Signs), r13, r14] 36), rdE r13 ((andR a b).1.Next : List (List Int)), rdE r14 ((andR a b).1.Takes : List Bool), blkE g4 (.cells #[I (b.Signs), wn, wt] 36), blkE g1 (.cells #[I (a.Signs), vn, vt] 36), rdE vn (a.Next : List (List Int)), rdE vt (a.Takes : List Bool), rdE wn (b.Next : List (List Int)), rdE wt (b.Takes : List Bool), rdE vl (l : List Int)] H) ?_ ?_
  · refine wpF_region ?_
    refine wpL_q (U := NoB) rfl (q_loadBlkA rfl a79_4 Try.isAgg36 Try.sizeOf36 rfl (hS78.blk 13 rfl) (fun h => h)) ?_
    refine wpL_q (U := NoB) rfl (q_move (v := vl) rfl a79_2) ?_
    refine wpL_o rfl ?_
    refine e_call rfl Try.call24 (arr2 (v0 := Value.agg #[I (b.Signs), wn, wt]) (v1 := vl) rfl rfl) (Takes wn wt vl b l (hS78.rdN 17 rfl) (hS78.rdN 18 rfl) hsgb (hS78.rdN 19 rfl)) ?_
    rintro _ H82 ⟨hxx, rfl⟩
    have hS83 : St H0 NoB NoB [blkE g73 (.cells #[I ((autoTakes a l).2.1), I ((autoTakes a l).2.2)] 24), blkE g53 (.cells #[I ((autoNot a).2.1), I ((autoNot a).2.2)] 24), blkE g50 (.cells #[I ((autoNot a).1.Signs), r45, r46] 36), rdE r45 ((autoNot a).1.Next : List (List Int)), rdE r46 ((autoNot a).1.Takes : List Bool), blkE g37 (.cells #[I ((orR a b).2.1), I ((orR a b).2.2)] 24), blkE g34 (.cells #[I ((orR a b).1.Signs), r29, r30] 36), rdE r29 ((orR a b).1.Next : List (List Int)), rdE r30 ((orR a b).1.Takes : List Bool), blkE g21 (.cells #[I ((andR a b).2.1), I ((andR a b).2.2)] 24), blkE g18 (.cells #[I ((andR a b).1.Signs), r13, r14] 36), rdE r13 ((andR a b).1.Next : List (List Int)), rdE r14 ((andR a b).1.Takes : List Bool), blkE g4 (.cells #[I (b.Signs), wn, wt] 36), blkE g1 (.cells #[I (a.Signs), vn, vt] 36), rdE vn (a.Next : List (List Int)), rdE vt (a.Takes : List Bool), rdE wn (b.Next : List (List Int)), rdE wt (b.Takes : List Bool), rdE vl (l : List Int)] H82 := hS78.ext hxx
    refine wpL_q (U := NoB) rfl (q_move (v := Value.tuple #[B ((autoTakes b l).1), Value.agg #[I ((autoTakes b l).2.1), I ((autoTakes b l).2.2)]]) rfl rfl) ?_
    refine wpL_q (U := NoB) rfl (q_extract (vs := #[B ((autoTakes b l).1), Value.agg #[I ((autoTakes b l).2.1), I ((autoTakes b l).2.2)]]) (v := B ((autoTakes b l).1)) rfl rfl rfl) ?_
    refine wpL_q (U := NoB) rfl (q_extract (vs := #[B ((autoTakes b l).1), Value.agg #[I ((autoTakes b l).2.1), I ((autoTakes b l).2.2)]]) (v := Value.agg #[I ((autoTakes b l).2.1), I ((autoTakes b l).2.2)]) rfl rfl rfl) ?_
    refine wpL_o rfl ?_
    refine e_alloc rfl Try.zeroValue24 hS83 (fun g85 H86 hS87 hxx => ?_)
    replace hS87 : St H0 NoB NoB [blkE g85 (.cells #[I (0), I (0)] 24), blkE g73 (.cells #[I ((autoTakes a l).2.1), I ((autoTakes a l).2.2)] 24), blkE g53 (.cells #[I ((autoNot a).2.1), I ((autoNot a).2.2)] 24), blkE g50 (.cells #[I ((autoNot a).1.Signs), r45, r46] 36), rdE r45 ((autoNot a).1.Next : List (List Int)), rdE r46 ((autoNot a).1.Takes : List Bool), blkE g37 (.cells #[I ((orR a b).2.1), I ((orR a b).2.2)] 24), blkE g34 (.cells #[I ((orR a b).1.Signs), r29, r30] 36), rdE r29 ((orR a b).1.Next : List (List Int)), rdE r30 ((orR a b).1.Takes : List Bool), blkE g21 (.cells #[I ((andR a b).2.1), I ((andR a b).2.2)] 24), blkE g18 (.cells #[I ((andR a b).1.Signs), r13, r14] 36), rdE r13 ((andR a b).1.Next : List (List Int)), rdE r14 ((andR a b).1.Takes : List Bool), blkE g4 (.cells #[I (b.Signs), wn, wt] 36), blkE g1 (.cells #[I (a.Signs), vn, vt] 36), rdE vn (a.Next : List (List Int)), rdE vt (a.Takes : List Bool), rdE wn (b.Next : List (List Int)), rdE wt (b.Takes : List Bool), rdE vl (l : List Int)] H86 := hS87
    refine wpL_q (U := NoB) rfl (q_assign (v := B ((autoTakes b l).1)) rfl rfl) ?_
    refine wpL_o rfl ?_
    refine e_storeBlkA (cs' := #[I ((autoTakes b l).2.1), I ((autoTakes b l).2.2)]) rfl rfl rfl Try.sizeOf24 rfl rfl (List.forall_mem_cons.2 ⟨rfl, List.forall_mem_cons.2 ⟨rfl, List.forall_mem_nil _⟩⟩) hS87 (fun H88 hS89 hxx => ?_)
    replace hS89 : St H0 NoB NoB [blkE g85 (.cells #[I ((autoTakes b l).2.1), I ((autoTakes b l).2.2)] 24), blkE g73 (.cells #[I ((autoTakes a l).2.1), I ((autoTakes a l).2.2)] 24), blkE g53 (.cells #[I ((autoNot a).2.1), I ((autoNot a).2.2)] 24), blkE g50 (.cells #[I ((autoNot a).1.Signs), r45, r46] 36), rdE r45 ((autoNot a).1.Next : List (List Int)), rdE r46 ((autoNot a).1.Takes : List Bool), blkE g37 (.cells #[I ((orR a b).2.1), I ((orR a b).2.2)] 24), blkE g34 (.cells #[I ((orR a b).1.Signs), r29, r30] 36), rdE r29 ((orR a b).1.Next : List (List Int)), rdE r30 ((orR a b).1.Takes : List Bool), blkE g21 (.cells #[I ((andR a b).2.1), I ((andR a b).2.2)] 24), blkE g18 (.cells #[I ((andR a b).1.Signs), r13, r14] 36), rdE r13 ((andR a b).1.Next : List (List Int)), rdE r14 ((andR a b).1.Takes : List Bool), blkE g4 (.cells #[I (b.Signs), wn, wt] 36), blkE g1 (.cells #[I (a.Signs), vn, vt] 36), rdE vn (a.Next : List (List Int)), rdE vt (a.Takes : List Bool), rdE wn (b.Next : List (List Int)), rdE wt (b.Takes : List Bool), rdE vl (l : List Int)] H88 := hS89
    exact ⟨g85, a79_2, a79_8, a79_10, a79_12, a79_14, rfl, rfl, hS89⟩
  rintro f90 H90 ⟨g85, a90_2, a90_8, a90_10, a90_12, a90_14, a90_16, a90_17, hS90⟩
  clear a79_10 a79_12 a79_14 a79_2 a79_4 a79_65 a79_8
  refine wpF_seq ?_
  refine wpF_cut (fun f H => ∃ (g94 : Nat), f 2 = vl ∧ f 10 = PT g34 0 ∧ f 12 = PT g50 0 ∧ f 14 = B ((autoTakes a l).1) ∧ f 16 = B ((autoTakes b l).1) ∧ f 17 = PT g85 0 ∧ f 18 = B ((autoTakes (andR a b).1 l).1) ∧ f 19 = PT g94 0 ∧ St H0 NoB NoB [blkE g94 (.cells #[I ((autoTakes (andR a b).1 l).2.1), I ((autoTakes (andR a b).1 l).2.2)] 24), blkE g85 (.cells #[I ((autoTakes b l).2.1), I ((autoTakes b l).2.2)] 24), blkE g73 (.cells #[I ((autoTakes a l).2.1), I ((autoTakes a l).2.2)] 24), blkE g53 (.cells #[I ((autoNot a).2.1), I ((autoNot a).2.2)] 24), blkE g50 (.cells #[I ((autoNot a).1.Signs), r45, r46] 36), rdE r45 ((autoNot a).1.Next : List (List Int)), rdE r46 ((autoNot a).1.Takes : List Bool), blkE g37 (.cells #[I ((orR a b).2.1), I ((orR a b).2.2)] 24), blkE g34 (.cells #[I ((orR a b).1.Signs), r29, r30] 36), rdE r29 ((orR a b).1.Next : List (List Int)), rdE r30 ((orR a b).1.Takes : List Bool), blkE g21 (.cells #[I ((andR a b).2.1), I ((andR a b).2.2)] 24), blkE g18 (.cells #[I ((andR a b).1.Signs), r13, r14] 36), rdE r13 ((andR a b).1.Next : List (List Int)), rdE r14 ((andR a b).1.Takes : List Bool), blkE g4 (.cells #[I (b.Signs), wn, wt] 36), blkE g1 (.cells #[I (a.Signs), vn, vt] 36), rdE vn (a.Next : List (List Int)), rdE vt (a.Takes : List Bool), rdE wn (b.Next : List (List Int)), rdE wt (b.Takes : List Bool), rdE vl (l : List Int)] H) ?_ ?_
  · refine wpF_region ?_
    refine wpL_q (U := NoB) rfl (q_loadBlkA rfl a90_8 Try.isAgg36 Try.sizeOf36 rfl (hS90.blk 11 rfl) (fun h => h)) ?_
    refine wpL_q (U := NoB) rfl (q_move (v := vl) rfl a90_2) ?_
    refine wpL_o rfl ?_
    refine e_call rfl Try.call24 (arr2 (v0 := Value.agg #[I ((andR a b).1.Signs), r13, r14]) (v1 := vl) rfl rfl) (Takes r13 r14 vl (andR a b).1 l (hS90.rdN 12 rfl) (hS90.rdN 13 rfl) (by assumption) (hS90.rdN 20 rfl)) ?_
    rintro _ H91 ⟨hxx, rfl⟩
    have hS92 : St H0 NoB NoB [blkE g85 (.cells #[I ((autoTakes b l).2.1), I ((autoTakes b l).2.2)] 24), blkE g73 (.cells #[I ((autoTakes a l).2.1), I ((autoTakes a l).2.2)] 24), blkE g53 (.cells #[I ((autoNot a).2.1), I ((autoNot a).2.2)] 24), blkE g50 (.cells #[I ((autoNot a).1.Signs), r45, r46] 36), rdE r45 ((autoNot a).1.Next : List (List Int)), rdE r46 ((autoNot a).1.Takes : List Bool), blkE g37 (.cells #[I ((orR a b).2.1), I ((orR a b).2.2)] 24), blkE g34 (.cells #[I ((orR a b).1.Signs), r29, r30] 36), rdE r29 ((orR a b).1.Next : List (List Int)), rdE r30 ((orR a b).1.Takes : List Bool), blkE g21 (.cells #[I ((andR a b).2.1), I ((andR a b).2.2)] 24), blkE g18 (.cells #[I ((andR a b).1.Signs), r13, r14] 36), rdE r13 ((andR a b).1.Next : List (List Int)), rdE r14 ((andR a b).1.Takes : List Bool), blkE g4 (.cells #[I (b.Signs), wn, wt] 36), blkE g1 (.cells #[I (a.Signs), vn, vt] 36), rdE vn (a.Next : List (List Int)), rdE vt (a.Takes : List Bool), rdE wn (b.Next : List (List Int)), rdE wt (b.Takes : List Bool), rdE vl (l : List Int)] H91 := hS90.ext hxx
    refine wpL_q (U := NoB) rfl (q_move (v := Value.tuple #[B ((autoTakes (andR a b).1 l).1), Value.agg #[I ((autoTakes (andR a b).1 l).2.1), I ((autoTakes (andR a b).1 l).2.2)]]) rfl rfl) ?_
    refine wpL_q (U := NoB) rfl (q_extract (vs := #[B ((autoTakes (andR a b).1 l).1), Value.agg #[I ((autoTakes (andR a b).1 l).2.1), I ((autoTakes (andR a b).1 l).2.2)]]) (v := B ((autoTakes (andR a b).1 l).1)) rfl rfl rfl) ?_
    refine wpL_q (U := NoB) rfl (q_extract (vs := #[B ((autoTakes (andR a b).1 l).1), Value.agg #[I ((autoTakes (andR a b).1 l).2.1), I ((autoTakes (andR a b).1 l).2.2)]]) (v := Value.agg #[I ((autoTakes (andR a b).1 l).2.1), I ((autoTakes (andR a b).1 l).2.2)]) rfl rfl rfl) ?_
    refine wpL_o rfl ?_
    refine e_alloc rfl Try.zeroValue24 hS92 (fun g94 H95 hS96 hxx => ?_)
    replace hS96 : St H0 NoB NoB [blkE g94 (.cells #[I (0), I (0)] 24), blkE g85 (.cells #[I ((autoTakes b l).2.1), I ((autoTakes b l).2.2)] 24), blkE g73 (.cells #[I ((autoTakes a l).2.1), I ((autoTakes a l).2.2)] 24), blkE g53 (.cells #[I ((autoNot a).2.1), I ((autoNot a).2.2)] 24), blkE g50 (.cells #[I ((autoNot a).1.Signs), r45, r46] 36), rdE r45 ((autoNot a).1.Next : List (List Int)), rdE r46 ((autoNot a).1.Takes : List Bool), blkE g37 (.cells #[I ((orR a b).2.1), I ((orR a b).2.2)] 24), blkE g34 (.cells #[I ((orR a b).1.Signs), r29, r30] 36), rdE r29 ((orR a b).1.Next : List (List Int)), rdE r30 ((orR a b).1.Takes : List Bool), blkE g21 (.cells #[I ((andR a b).2.1), I ((andR a b).2.2)] 24), blkE g18 (.cells #[I ((andR a b).1.Signs), r13, r14] 36), rdE r13 ((andR a b).1.Next : List (List Int)), rdE r14 ((andR a b).1.Takes : List Bool), blkE g4 (.cells #[I (b.Signs), wn, wt] 36), blkE g1 (.cells #[I (a.Signs), vn, vt] 36), rdE vn (a.Next : List (List Int)), rdE vt (a.Takes : List Bool), rdE wn (b.Next : List (List Int)), rdE wt (b.Takes : List Bool), rdE vl (l : List Int)] H95 := hS96
    refine wpL_q (U := NoB) rfl (q_assign (v := B ((autoTakes (andR a b).1 l).1)) rfl rfl) ?_
    refine wpL_o rfl ?_
    refine e_storeBlkA (cs' := #[I ((autoTakes (andR a b).1 l).2.1), I ((autoTakes (andR a b).1 l).2.2)]) rfl rfl rfl Try.sizeOf24 rfl rfl (List.forall_mem_cons.2 ⟨rfl, List.forall_mem_cons.2 ⟨rfl, List.forall_mem_nil _⟩⟩) hS96 (fun H97 hS98 hxx => ?_)
    replace hS98 : St H0 NoB NoB [blkE g94 (.cells #[I ((autoTakes (andR a b).1 l).2.1), I ((autoTakes (andR a b).1 l).2.2)] 24), blkE g85 (.cells #[I ((autoTakes b l).2.1), I ((autoTakes b l).2.2)] 24), blkE g73 (.cells #[I ((autoTakes a l).2.1), I ((autoTakes a l).2.2)] 24), blkE g53 (.cells #[I ((autoNot a).2.1), I ((autoNot a).2.2)] 24), blkE g50 (.cells #[I ((autoNot a).1.Signs), r45, r46] 36), rdE r45 ((autoNot a).1.Next : List (List Int)), rdE r46 ((autoNot a).1.Takes : List Bool), blkE g37 (.cells #[I ((orR a b).2.1), I ((orR a b).2.2)] 24), blkE g34 (.cells #[I ((orR a b).1.Signs), r29, r30] 36), rdE r29 ((orR a b).1.Next : List (List Int)), rdE r30 ((orR a b).1.Takes : List Bool), blkE g21 (.cells #[I ((andR a b).2.1), I ((andR a b).2.2)] 24), blkE g18 (.cells #[I ((andR a b).1.Signs), r13, r14] 36), rdE r13 ((andR a b).1.Next : List (List Int)), rdE r14 ((andR a b).1.Takes : List Bool), blkE g4 (.cells #[I (b.Signs), wn, wt] 36), blkE g1 (.cells #[I (a.Signs), vn, vt] 36), rdE vn (a.Next : List (List Int)), rdE vt (a.Takes : List Bool), rdE wn (b.Next : List (List Int)), rdE wt (b.Takes : List Bool), rdE vl (l : List Int)] H97 := hS98
    exact ⟨g94, a90_2, a90_10, a90_12, a90_14, a90_16, a90_17, rfl, rfl, hS98⟩
  rintro f99 H99 ⟨g94, a99_2, a99_10, a99_12, a99_14, a99_16, a99_17, a99_18, a99_19, hS99⟩
  clear a90_10 a90_12 a90_14 a90_16 a90_17 a90_2 a90_8
  refine wpF_seq ?_
  refine wpF_cut (fun f H => ∃ (g103 : Nat), f 2 = vl ∧ f 12 = PT g50 0 ∧ f 14 = B ((autoTakes a l).1) ∧ f 16 = B ((autoTakes b l).1) ∧ f 17 = PT g85 0 ∧ f 18 = B ((autoTakes (andR a b).1 l).1) ∧ f 19 = PT g94 0 ∧ f 20 = B ((autoTakes (orR a b).1 l).1) ∧ f 21 = PT g103 0 ∧ St H0 NoB NoB [blkE g103 (.cells #[I ((autoTakes (orR a b).1 l).2.1), I ((autoTakes (orR a b).1 l).2.2)] 24), blkE g94 (.cells #[I ((autoTakes (andR a b).1 l).2.1), I ((autoTakes (andR a b).1 l).2.2)] 24), blkE g85 (.cells #[I ((autoTakes b l).2.1), I ((autoTakes b l).2.2)] 24), blkE g73 (.cells #[I ((autoTakes a l).2.1), I ((autoTakes a l).2.2)] 24), blkE g53 (.cells #[I ((autoNot a).2.1), I ((autoNot a).2.2)] 24), blkE g50 (.cells #[I ((autoNot a).1.Signs), r45, r46] 36), rdE r45 ((autoNot a).1.Next : List (List Int)), rdE r46 ((autoNot a).1.Takes : List Bool), blkE g37 (.cells #[I ((orR a b).2.1), I ((orR a b).2.2)] 24), blkE g34 (.cells #[I ((orR a b).1.Signs), r29, r30] 36), rdE r29 ((orR a b).1.Next : List (List Int)), rdE r30 ((orR a b).1.Takes : List Bool), blkE g21 (.cells #[I ((andR a b).2.1), I ((andR a b).2.2)] 24), blkE g18 (.cells #[I ((andR a b).1.Signs), r13, r14] 36), rdE r13 ((andR a b).1.Next : List (List Int)), rdE r14 ((andR a b).1.Takes : List Bool), blkE g4 (.cells #[I (b.Signs), wn, wt] 36), blkE g1 (.cells #[I (a.Signs), vn, vt] 36), rdE vn (a.Next : List (List Int)), rdE vt (a.Takes : List Bool), rdE wn (b.Next : List (List Int)), rdE wt (b.Takes : List Bool), rdE vl (l : List Int)] H) ?_ ?_
  · refine wpF_region ?_
    refine wpL_q (U := NoB) rfl (q_loadBlkA rfl a99_10 Try.isAgg36 Try.sizeOf36 rfl (hS99.blk 8 rfl) (fun h => h)) ?_
    refine wpL_q (U := NoB) rfl (q_move (v := vl) rfl a99_2) ?_
    refine wpL_o rfl ?_
    refine e_call rfl Try.call24 (arr2 (v0 := Value.agg #[I ((orR a b).1.Signs), r29, r30]) (v1 := vl) rfl rfl) (Takes r29 r30 vl (orR a b).1 l (hS99.rdN 9 rfl) (hS99.rdN 10 rfl) (by assumption) (hS99.rdN 21 rfl)) ?_
    rintro _ H100 ⟨hxx, rfl⟩
    have hS101 : St H0 NoB NoB [blkE g94 (.cells #[I ((autoTakes (andR a b).1 l).2.1), I ((autoTakes (andR a b).1 l).2.2)] 24), blkE g85 (.cells #[I ((autoTakes b l).2.1), I ((autoTakes b l).2.2)] 24), blkE g73 (.cells #[I ((autoTakes a l).2.1), I ((autoTakes a l).2.2)] 24), blkE g53 (.cells #[I ((autoNot a).2.1), I ((autoNot a).2.2)] 24), blkE g50 (.cells #[I ((autoNot a).1.Signs), r45, r46] 36), rdE r45 ((autoNot a).1.Next : List (List Int)), rdE r46 ((autoNot a).1.Takes : List Bool), blkE g37 (.cells #[I ((orR a b).2.1), I ((orR a b).2.2)] 24), blkE g34 (.cells #[I ((orR a b).1.Signs), r29, r30] 36), rdE r29 ((orR a b).1.Next : List (List Int)), rdE r30 ((orR a b).1.Takes : List Bool), blkE g21 (.cells #[I ((andR a b).2.1), I ((andR a b).2.2)] 24), blkE g18 (.cells #[I ((andR a b).1.Signs), r13, r14] 36), rdE r13 ((andR a b).1.Next : List (List Int)), rdE r14 ((andR a b).1.Takes : List Bool), blkE g4 (.cells #[I (b.Signs), wn, wt] 36), blkE g1 (.cells #[I (a.Signs), vn, vt] 36), rdE vn (a.Next : List (List Int)), rdE vt (a.Takes : List Bool), rdE wn (b.Next : List (List Int)), rdE wt (b.Takes : List Bool), rdE vl (l : List Int)] H100 := hS99.ext hxx
    refine wpL_q (U := NoB) rfl (q_move (v := Value.tuple #[B ((autoTakes (orR a b).1 l).1), Value.agg #[I ((autoTakes (orR a b).1 l).2.1), I ((autoTakes (orR a b).1 l).2.2)]]) rfl rfl) ?_
    refine wpL_q (U := NoB) rfl (q_extract (vs := #[B ((autoTakes (orR a b).1 l).1), Value.agg #[I ((autoTakes (orR a b).1 l).2.1), I ((autoTakes (orR a b).1 l).2.2)]]) (v := B ((autoTakes (orR a b).1 l).1)) rfl rfl rfl) ?_
    refine wpL_q (U := NoB) rfl (q_extract (vs := #[B ((autoTakes (orR a b).1 l).1), Value.agg #[I ((autoTakes (orR a b).1 l).2.1), I ((autoTakes (orR a b).1 l).2.2)]]) (v := Value.agg #[I ((autoTakes (orR a b).1 l).2.1), I ((autoTakes (orR a b).1 l).2.2)]) rfl rfl rfl) ?_
    refine wpL_o rfl ?_
    refine e_alloc rfl Try.zeroValue24 hS101 (fun g103 H104 hS105 hxx => ?_)
    replace hS105 : St H0 NoB NoB [blkE g103 (.cells #[I (0), I (0)] 24), blkE g94 (.cells #[I ((autoTakes (andR a b).1 l).2.1), I ((autoTakes (andR a b).1 l).2.2)] 24), blkE g85 (.cells #[I ((autoTakes b l).2.1), I ((autoTakes b l).2.2)] 24), blkE g73 (.cells #[I ((autoTakes a l).2.1), I ((autoTakes a l).2.2)] 24), blkE g53 (.cells #[I ((autoNot a).2.1), I ((autoNot a).2.2)] 24), blkE g50 (.cells #[I ((autoNot a).1.Signs), r45, r46] 36), rdE r45 ((autoNot a).1.Next : List (List Int)), rdE r46 ((autoNot a).1.Takes : List Bool), blkE g37 (.cells #[I ((orR a b).2.1), I ((orR a b).2.2)] 24), blkE g34 (.cells #[I ((orR a b).1.Signs), r29, r30] 36), rdE r29 ((orR a b).1.Next : List (List Int)), rdE r30 ((orR a b).1.Takes : List Bool), blkE g21 (.cells #[I ((andR a b).2.1), I ((andR a b).2.2)] 24), blkE g18 (.cells #[I ((andR a b).1.Signs), r13, r14] 36), rdE r13 ((andR a b).1.Next : List (List Int)), rdE r14 ((andR a b).1.Takes : List Bool), blkE g4 (.cells #[I (b.Signs), wn, wt] 36), blkE g1 (.cells #[I (a.Signs), vn, vt] 36), rdE vn (a.Next : List (List Int)), rdE vt (a.Takes : List Bool), rdE wn (b.Next : List (List Int)), rdE wt (b.Takes : List Bool), rdE vl (l : List Int)] H104 := hS105
    refine wpL_q (U := NoB) rfl (q_assign (v := B ((autoTakes (orR a b).1 l).1)) rfl rfl) ?_
    refine wpL_o rfl ?_
    refine e_storeBlkA (cs' := #[I ((autoTakes (orR a b).1 l).2.1), I ((autoTakes (orR a b).1 l).2.2)]) rfl rfl rfl Try.sizeOf24 rfl rfl (List.forall_mem_cons.2 ⟨rfl, List.forall_mem_cons.2 ⟨rfl, List.forall_mem_nil _⟩⟩) hS105 (fun H106 hS107 hxx => ?_)
    replace hS107 : St H0 NoB NoB [blkE g103 (.cells #[I ((autoTakes (orR a b).1 l).2.1), I ((autoTakes (orR a b).1 l).2.2)] 24), blkE g94 (.cells #[I ((autoTakes (andR a b).1 l).2.1), I ((autoTakes (andR a b).1 l).2.2)] 24), blkE g85 (.cells #[I ((autoTakes b l).2.1), I ((autoTakes b l).2.2)] 24), blkE g73 (.cells #[I ((autoTakes a l).2.1), I ((autoTakes a l).2.2)] 24), blkE g53 (.cells #[I ((autoNot a).2.1), I ((autoNot a).2.2)] 24), blkE g50 (.cells #[I ((autoNot a).1.Signs), r45, r46] 36), rdE r45 ((autoNot a).1.Next : List (List Int)), rdE r46 ((autoNot a).1.Takes : List Bool), blkE g37 (.cells #[I ((orR a b).2.1), I ((orR a b).2.2)] 24), blkE g34 (.cells #[I ((orR a b).1.Signs), r29, r30] 36), rdE r29 ((orR a b).1.Next : List (List Int)), rdE r30 ((orR a b).1.Takes : List Bool), blkE g21 (.cells #[I ((andR a b).2.1), I ((andR a b).2.2)] 24), blkE g18 (.cells #[I ((andR a b).1.Signs), r13, r14] 36), rdE r13 ((andR a b).1.Next : List (List Int)), rdE r14 ((andR a b).1.Takes : List Bool), blkE g4 (.cells #[I (b.Signs), wn, wt] 36), blkE g1 (.cells #[I (a.Signs), vn, vt] 36), rdE vn (a.Next : List (List Int)), rdE vt (a.Takes : List Bool), rdE wn (b.Next : List (List Int)), rdE wt (b.Takes : List Bool), rdE vl (l : List Int)] H106 := hS107
    exact ⟨g103, a99_2, a99_12, a99_14, a99_16, a99_17, a99_18, a99_19, rfl, rfl, hS107⟩
  rintro f108 H108 ⟨g103, a108_2, a108_12, a108_14, a108_16, a108_17, a108_18, a108_19, a108_20, a108_21, hS108⟩
  clear a99_10 a99_12 a99_14 a99_16 a99_17 a99_18 a99_19 a99_2
  refine wpF_seq ?_
  refine wpF_cut (fun f H => ∃ (g112 : Nat), f 14 = B ((autoTakes a l).1) ∧ f 16 = B ((autoTakes b l).1) ∧ f 17 = PT g85 0 ∧ f 18 = B ((autoTakes (andR a b).1 l).1) ∧ f 19 = PT g94 0 ∧ f 20 = B ((autoTakes (orR a b).1 l).1) ∧ f 21 = PT g103 0 ∧ f 22 = B ((autoTakes (autoNot a).1 l).1) ∧ f 23 = PT g112 0 ∧ St H0 NoB NoB [blkE g112 (.cells #[I ((autoTakes (autoNot a).1 l).2.1), I ((autoTakes (autoNot a).1 l).2.2)] 24), blkE g103 (.cells #[I ((autoTakes (orR a b).1 l).2.1), I ((autoTakes (orR a b).1 l).2.2)] 24), blkE g94 (.cells #[I ((autoTakes (andR a b).1 l).2.1), I ((autoTakes (andR a b).1 l).2.2)] 24), blkE g85 (.cells #[I ((autoTakes b l).2.1), I ((autoTakes b l).2.2)] 24), blkE g73 (.cells #[I ((autoTakes a l).2.1), I ((autoTakes a l).2.2)] 24), blkE g53 (.cells #[I ((autoNot a).2.1), I ((autoNot a).2.2)] 24), blkE g50 (.cells #[I ((autoNot a).1.Signs), r45, r46] 36), rdE r45 ((autoNot a).1.Next : List (List Int)), rdE r46 ((autoNot a).1.Takes : List Bool), blkE g37 (.cells #[I ((orR a b).2.1), I ((orR a b).2.2)] 24), blkE g34 (.cells #[I ((orR a b).1.Signs), r29, r30] 36), rdE r29 ((orR a b).1.Next : List (List Int)), rdE r30 ((orR a b).1.Takes : List Bool), blkE g21 (.cells #[I ((andR a b).2.1), I ((andR a b).2.2)] 24), blkE g18 (.cells #[I ((andR a b).1.Signs), r13, r14] 36), rdE r13 ((andR a b).1.Next : List (List Int)), rdE r14 ((andR a b).1.Takes : List Bool), blkE g4 (.cells #[I (b.Signs), wn, wt] 36), blkE g1 (.cells #[I (a.Signs), vn, vt] 36), rdE vn (a.Next : List (List Int)), rdE vt (a.Takes : List Bool), rdE wn (b.Next : List (List Int)), rdE wt (b.Takes : List Bool), rdE vl (l : List Int)] H) ?_ ?_
  · refine wpF_region ?_
    refine wpL_q (U := NoB) rfl (q_loadBlkA rfl a108_12 Try.isAgg36 Try.sizeOf36 rfl (hS108.blk 5 rfl) (fun h => h)) ?_
    refine wpL_q (U := NoB) rfl (q_move (v := vl) rfl a108_2) ?_
    refine wpL_o rfl ?_
    refine e_call rfl Try.call24 (arr2 (v0 := Value.agg #[I ((autoNot a).1.Signs), r45, r46]) (v1 := vl) rfl rfl) (Takes r45 r46 vl (autoNot a).1 l (hS108.rdN 6 rfl) (hS108.rdN 7 rfl) (by assumption) (hS108.rdN 22 rfl)) ?_
    rintro _ H109 ⟨hxx, rfl⟩
    have hS110 : St H0 NoB NoB [blkE g103 (.cells #[I ((autoTakes (orR a b).1 l).2.1), I ((autoTakes (orR a b).1 l).2.2)] 24), blkE g94 (.cells #[I ((autoTakes (andR a b).1 l).2.1), I ((autoTakes (andR a b).1 l).2.2)] 24), blkE g85 (.cells #[I ((autoTakes b l).2.1), I ((autoTakes b l).2.2)] 24), blkE g73 (.cells #[I ((autoTakes a l).2.1), I ((autoTakes a l).2.2)] 24), blkE g53 (.cells #[I ((autoNot a).2.1), I ((autoNot a).2.2)] 24), blkE g50 (.cells #[I ((autoNot a).1.Signs), r45, r46] 36), rdE r45 ((autoNot a).1.Next : List (List Int)), rdE r46 ((autoNot a).1.Takes : List Bool), blkE g37 (.cells #[I ((orR a b).2.1), I ((orR a b).2.2)] 24), blkE g34 (.cells #[I ((orR a b).1.Signs), r29, r30] 36), rdE r29 ((orR a b).1.Next : List (List Int)), rdE r30 ((orR a b).1.Takes : List Bool), blkE g21 (.cells #[I ((andR a b).2.1), I ((andR a b).2.2)] 24), blkE g18 (.cells #[I ((andR a b).1.Signs), r13, r14] 36), rdE r13 ((andR a b).1.Next : List (List Int)), rdE r14 ((andR a b).1.Takes : List Bool), blkE g4 (.cells #[I (b.Signs), wn, wt] 36), blkE g1 (.cells #[I (a.Signs), vn, vt] 36), rdE vn (a.Next : List (List Int)), rdE vt (a.Takes : List Bool), rdE wn (b.Next : List (List Int)), rdE wt (b.Takes : List Bool), rdE vl (l : List Int)] H109 := hS108.ext hxx
    refine wpL_q (U := NoB) rfl (q_move (v := Value.tuple #[B ((autoTakes (autoNot a).1 l).1), Value.agg #[I ((autoTakes (autoNot a).1 l).2.1), I ((autoTakes (autoNot a).1 l).2.2)]]) rfl rfl) ?_
    refine wpL_q (U := NoB) rfl (q_extract (vs := #[B ((autoTakes (autoNot a).1 l).1), Value.agg #[I ((autoTakes (autoNot a).1 l).2.1), I ((autoTakes (autoNot a).1 l).2.2)]]) (v := B ((autoTakes (autoNot a).1 l).1)) rfl rfl rfl) ?_
    refine wpL_q (U := NoB) rfl (q_extract (vs := #[B ((autoTakes (autoNot a).1 l).1), Value.agg #[I ((autoTakes (autoNot a).1 l).2.1), I ((autoTakes (autoNot a).1 l).2.2)]]) (v := Value.agg #[I ((autoTakes (autoNot a).1 l).2.1), I ((autoTakes (autoNot a).1 l).2.2)]) rfl rfl rfl) ?_
    refine wpL_o rfl ?_
    refine e_alloc rfl Try.zeroValue24 hS110 (fun g112 H113 hS114 hxx => ?_)
    replace hS114 : St H0 NoB NoB [blkE g112 (.cells #[I (0), I (0)] 24), blkE g103 (.cells #[I ((autoTakes (orR a b).1 l).2.1), I ((autoTakes (orR a b).1 l).2.2)] 24), blkE g94 (.cells #[I ((autoTakes (andR a b).1 l).2.1), I ((autoTakes (andR a b).1 l).2.2)] 24), blkE g85 (.cells #[I ((autoTakes b l).2.1), I ((autoTakes b l).2.2)] 24), blkE g73 (.cells #[I ((autoTakes a l).2.1), I ((autoTakes a l).2.2)] 24), blkE g53 (.cells #[I ((autoNot a).2.1), I ((autoNot a).2.2)] 24), blkE g50 (.cells #[I ((autoNot a).1.Signs), r45, r46] 36), rdE r45 ((autoNot a).1.Next : List (List Int)), rdE r46 ((autoNot a).1.Takes : List Bool), blkE g37 (.cells #[I ((orR a b).2.1), I ((orR a b).2.2)] 24), blkE g34 (.cells #[I ((orR a b).1.Signs), r29, r30] 36), rdE r29 ((orR a b).1.Next : List (List Int)), rdE r30 ((orR a b).1.Takes : List Bool), blkE g21 (.cells #[I ((andR a b).2.1), I ((andR a b).2.2)] 24), blkE g18 (.cells #[I ((andR a b).1.Signs), r13, r14] 36), rdE r13 ((andR a b).1.Next : List (List Int)), rdE r14 ((andR a b).1.Takes : List Bool), blkE g4 (.cells #[I (b.Signs), wn, wt] 36), blkE g1 (.cells #[I (a.Signs), vn, vt] 36), rdE vn (a.Next : List (List Int)), rdE vt (a.Takes : List Bool), rdE wn (b.Next : List (List Int)), rdE wt (b.Takes : List Bool), rdE vl (l : List Int)] H113 := hS114
    refine wpL_q (U := NoB) rfl (q_assign (v := B ((autoTakes (autoNot a).1 l).1)) rfl rfl) ?_
    refine wpL_o rfl ?_
    refine e_storeBlkA (cs' := #[I ((autoTakes (autoNot a).1 l).2.1), I ((autoTakes (autoNot a).1 l).2.2)]) rfl rfl rfl Try.sizeOf24 rfl rfl (List.forall_mem_cons.2 ⟨rfl, List.forall_mem_cons.2 ⟨rfl, List.forall_mem_nil _⟩⟩) hS114 (fun H115 hS116 hxx => ?_)
    replace hS116 : St H0 NoB NoB [blkE g112 (.cells #[I ((autoTakes (autoNot a).1 l).2.1), I ((autoTakes (autoNot a).1 l).2.2)] 24), blkE g103 (.cells #[I ((autoTakes (orR a b).1 l).2.1), I ((autoTakes (orR a b).1 l).2.2)] 24), blkE g94 (.cells #[I ((autoTakes (andR a b).1 l).2.1), I ((autoTakes (andR a b).1 l).2.2)] 24), blkE g85 (.cells #[I ((autoTakes b l).2.1), I ((autoTakes b l).2.2)] 24), blkE g73 (.cells #[I ((autoTakes a l).2.1), I ((autoTakes a l).2.2)] 24), blkE g53 (.cells #[I ((autoNot a).2.1), I ((autoNot a).2.2)] 24), blkE g50 (.cells #[I ((autoNot a).1.Signs), r45, r46] 36), rdE r45 ((autoNot a).1.Next : List (List Int)), rdE r46 ((autoNot a).1.Takes : List Bool), blkE g37 (.cells #[I ((orR a b).2.1), I ((orR a b).2.2)] 24), blkE g34 (.cells #[I ((orR a b).1.Signs), r29, r30] 36), rdE r29 ((orR a b).1.Next : List (List Int)), rdE r30 ((orR a b).1.Takes : List Bool), blkE g21 (.cells #[I ((andR a b).2.1), I ((andR a b).2.2)] 24), blkE g18 (.cells #[I ((andR a b).1.Signs), r13, r14] 36), rdE r13 ((andR a b).1.Next : List (List Int)), rdE r14 ((andR a b).1.Takes : List Bool), blkE g4 (.cells #[I (b.Signs), wn, wt] 36), blkE g1 (.cells #[I (a.Signs), vn, vt] 36), rdE vn (a.Next : List (List Int)), rdE vt (a.Takes : List Bool), rdE wn (b.Next : List (List Int)), rdE wt (b.Takes : List Bool), rdE vl (l : List Int)] H115 := hS116
    exact ⟨g112, a108_14, a108_16, a108_17, a108_18, a108_19, a108_20, a108_21, rfl, rfl, hS116⟩
  rintro f117 H117 ⟨g112, a117_14, a117_16, a117_17, a117_18, a117_19, a117_20, a117_21, a117_22, a117_23, hS117⟩
  clear a108_12 a108_14 a108_16 a108_17 a108_18 a108_19 a108_2 a108_20 a108_21
  refine wpF_seq ?_
  refine wpF_cut (fun f H => f 6 = B (true) ∧ St H0 NoB NoB [blkE g112 (.cells #[I ((autoTakes (autoNot a).1 l).2.1), I ((autoTakes (autoNot a).1 l).2.2)] 24), blkE g103 (.cells #[I ((autoTakes (orR a b).1 l).2.1), I ((autoTakes (orR a b).1 l).2.2)] 24), blkE g94 (.cells #[I ((autoTakes (andR a b).1 l).2.1), I ((autoTakes (andR a b).1 l).2.2)] 24), blkE g85 (.cells #[I ((autoTakes b l).2.1), I ((autoTakes b l).2.2)] 24), blkE g73 (.cells #[I ((autoTakes a l).2.1), I ((autoTakes a l).2.2)] 24), blkE g53 (.cells #[I ((autoNot a).2.1), I ((autoNot a).2.2)] 24), blkE g50 (.cells #[I ((autoNot a).1.Signs), r45, r46] 36), rdE r45 ((autoNot a).1.Next : List (List Int)), rdE r46 ((autoNot a).1.Takes : List Bool), blkE g37 (.cells #[I ((orR a b).2.1), I ((orR a b).2.2)] 24), blkE g34 (.cells #[I ((orR a b).1.Signs), r29, r30] 36), rdE r29 ((orR a b).1.Next : List (List Int)), rdE r30 ((orR a b).1.Takes : List Bool), blkE g21 (.cells #[I ((andR a b).2.1), I ((andR a b).2.2)] 24), blkE g18 (.cells #[I ((andR a b).1.Signs), r13, r14] 36), rdE r13 ((andR a b).1.Next : List (List Int)), rdE r14 ((andR a b).1.Takes : List Bool), blkE g4 (.cells #[I (b.Signs), wn, wt] 36), blkE g1 (.cells #[I (a.Signs), vn, vt] 36), rdE vn (a.Next : List (List Int)), rdE vt (a.Takes : List Bool), rdE wn (b.Next : List (List Int)), rdE wt (b.Takes : List Bool), rdE vl (l : List Int)] H) ?_ ?_
  · refine wpF_region ?_
    refine wpL_q (U := NoB) rfl (q_fieldAddr rfl Try.underlying24 rfl Try.sizeOf3 a117_17) ?_
    refine wpL_q (U := NoB) rfl (q_loadBlk rfl rfl Try.isAgg3 (hS117.blk 3 rfl) rfl (fun h => h)) ?_
    refine wpL_q (U := NoB) rfl (q_eql rfl rfl rfl) ?_
    refine wpL_q (U := NoB) rfl (q_move (v := B (decide (((autoTakes b l).2.1) = 0))) rfl rfl) ?_
    by_cases hg118 : ((autoTakes b l).2.1) = 0
    · have hb119 := Eq.trans rfl (congrArg B (decide_eq_true hg118))
      refine wpL_gq (U := NoB) rfl rfl rfl hb119 (q_fieldAddr rfl Try.underlying24 rfl Try.sizeOf3 a117_19) ?_
      refine wpL_gq (U := NoB) rfl rfl rfl hb119 (q_loadBlk rfl rfl Try.isAgg3 (hS117.blk 2 rfl) rfl (fun h => h)) ?_
      refine wpL_gq (U := NoB) rfl rfl rfl hb119 (q_eql rfl rfl rfl) ?_
      refine wpL_q (U := NoB) rfl (q_pickT (v := B (decide (((autoTakes (andR a b).1 l).2.1) = 0))) rfl hb119 rfl) ?_
      refine wpL_q (U := NoB) rfl (q_move (v := B (decide (((autoTakes (andR a b).1 l).2.1) = 0))) rfl rfl) ?_
      by_cases hg121 : ((autoTakes (andR a b).1 l).2.1) = 0
      · have hb122 := Eq.trans rfl (congrArg B (decide_eq_true hg121))
        refine wpL_gq (U := NoB) rfl rfl rfl hb122 (q_fieldAddr rfl Try.underlying24 rfl Try.sizeOf3 a117_21) ?_
        refine wpL_gq (U := NoB) rfl rfl rfl hb122 (q_loadBlk rfl rfl Try.isAgg3 (hS117.blk 1 rfl) rfl (fun h => h)) ?_
        refine wpL_gq (U := NoB) rfl rfl rfl hb122 (q_eql rfl rfl rfl) ?_
        refine wpL_q (U := NoB) rfl (q_pickT (v := B (decide (((autoTakes (orR a b).1 l).2.1) = 0))) rfl hb122 rfl) ?_
        refine wpL_q (U := NoB) rfl (q_move (v := B (decide (((autoTakes (orR a b).1 l).2.1) = 0))) rfl rfl) ?_
        by_cases hg124 : ((autoTakes (orR a b).1 l).2.1) = 0
        · have hb125 := Eq.trans rfl (congrArg B (decide_eq_true hg124))
          refine wpL_gq (U := NoB) rfl rfl rfl hb125 (q_fieldAddr rfl Try.underlying24 rfl Try.sizeOf3 a117_23) ?_
          refine wpL_gq (U := NoB) rfl rfl rfl hb125 (q_loadBlk rfl rfl Try.isAgg3 (hS117.blk 0 rfl) rfl (fun h => h)) ?_
          refine wpL_gq (U := NoB) rfl rfl rfl hb125 (q_eql rfl rfl rfl) ?_
          refine wpL_q (U := NoB) rfl (q_pickT (v := B (decide (((autoTakes (autoNot a).1 l).2.1) = 0))) rfl hb125 rfl) ?_
          refine wpL_q (U := NoB) rfl (q_move (v := B (decide (((autoTakes (autoNot a).1 l).2.1) = 0))) rfl rfl) ?_
          by_cases hg127 : ((autoTakes (autoNot a).1 l).2.1) = 0
          · have hb128 := Eq.trans rfl (congrArg B (decide_eq_true hg127))
            refine wpL_gq (U := NoB) rfl rfl rfl hb128 (q_move (v := B ((autoTakes (andR a b).1 l).1)) rfl a117_18) ?_
            refine wpL_gq (U := NoB) rfl rfl rfl hb128 (q_move (v := B ((autoTakes a l).1)) rfl a117_14) ?_
            refine wpL_gq (U := NoB) rfl rfl rfl hb128 (q_move (v := B ((autoTakes a l).1)) rfl rfl) ?_
            by_cases hg130 : ((autoTakes a l).1) = true
            · have hb131 := Eq.trans rfl (congrArg B hg130)
              refine wpL_gq (U := NoB) rfl rfl rfl hb131 (q_move (v := B ((autoTakes b l).1)) rfl a117_16) ?_
              refine wpL_gq (U := NoB) rfl rfl rfl hb128 (q_pickT (v := B ((autoTakes b l).1)) rfl hb131 rfl) ?_
              refine wpL_gq (U := NoB) rfl rfl rfl hb128 (q_eqlB rfl Try.underlying4 rfl rfl) ?_
              refine wpL_q (U := NoB) rfl (q_pickT (v := B (decide (((autoTakes (andR a b).1 l).1) = ((autoTakes b l).1)))) rfl hb128 rfl) ?_
              refine wpL_q (U := NoB) rfl (q_move (v := B (decide (((autoTakes (andR a b).1 l).1) = ((autoTakes b l).1)))) rfl rfl) ?_
              by_cases hg133 : ((autoTakes (andR a b).1 l).1) = ((autoTakes b l).1)
              · have hb134 := Eq.trans rfl (congrArg B (decide_eq_true hg133))
                refine wpL_gq (U := NoB) rfl rfl rfl hb134 (q_move (v := B ((autoTakes (orR a b).1 l).1)) rfl a117_20) ?_
                refine wpL_gq (U := NoB) rfl rfl rfl hb134 (q_move (v := B ((autoTakes a l).1)) rfl a117_14) ?_
                refine wpL_gq (U := NoB) rfl rfl rfl hb134 (q_move (v := B ((autoTakes a l).1)) rfl rfl) ?_
                by_cases hg136 : ((autoTakes a l).1) = true
                · have hb137 := Eq.trans rfl (congrArg B hg136)
                  refine wpL_gs rfl rfl rfl hb137 rfl ?_
                  refine wpL_gq (U := NoB) rfl rfl rfl hb134 (q_pickT (v := B (true)) rfl hb137 rfl) ?_
                  refine wpL_gq (U := NoB) rfl rfl rfl hb134 (q_eqlB rfl Try.underlying4 rfl rfl) ?_
                  refine wpL_q (U := NoB) rfl (q_pickT (v := B (decide (((autoTakes (orR a b).1 l).1) = true))) rfl hb134 rfl) ?_
                  refine wpL_q (U := NoB) rfl (q_move (v := B (decide (((autoTakes (orR a b).1 l).1) = true))) rfl rfl) ?_
                  by_cases hg139 : ((autoTakes (orR a b).1 l).1) = true
                  · have hb140 := Eq.trans rfl (congrArg B (decide_eq_true hg139))
                    refine wpL_gq (U := NoB) rfl rfl rfl hb140 (q_move (v := B ((autoTakes (autoNot a).1 l).1)) rfl a117_22) ?_
                    refine wpL_gq (U := NoB) rfl rfl rfl hb140 (q_move (v := B ((autoTakes a l).1)) rfl a117_14) ?_
                    refine wpL_gq (U := NoB) rfl rfl rfl hb140 (q_neqB rfl Try.underlying4 rfl rfl) ?_
                    refine wpL_q (U := NoB) rfl (q_pickT (v := B (decide (((autoTakes (autoNot a).1 l).1) ≠ ((autoTakes a l).1)))) rfl hb140 rfl) ?_
                    refine wpL_q (U := NoB) rfl (q_assign (v := B (decide (((autoTakes (autoNot a).1 l).1) ≠ ((autoTakes a l).1)))) rfl rfl) ?_
                    exact ⟨(Eq.trans rfl (congrArg B (show (decide (((autoTakes (autoNot a).1 l).1) ≠ ((autoTakes a l).1))) = true by revert hg118 hg121 hg124 hg127 hg130 hg133 hg136 hg139; simp only [hp, hq, hr, hs, ht]; cases takesA a 0 l <;> cases takesA b 0 l <;> simp))), hS117⟩
                  · have hb141 := Eq.trans rfl (congrArg B (decide_eq_false hg139))
                    refine wpL_gs rfl rfl rfl hb141 rfl ?_
                    refine wpL_gs rfl rfl rfl hb141 rfl ?_
                    refine wpL_gs rfl rfl rfl hb141 rfl ?_
                    refine wpL_q (U := NoB) rfl (q_pickF (v := B (false)) rfl hb141 rfl) ?_
                    refine wpL_q (U := NoB) rfl (q_assign (v := B (false)) rfl rfl) ?_
                    exact ⟨(Eq.trans rfl (congrArg B (show (false) = true by revert hg118 hg121 hg124 hg127 hg130 hg133 hg136 hg139; simp only [hp, hq, hr, hs, ht]; cases takesA a 0 l <;> cases takesA b 0 l <;> simp))), hS117⟩
                · have hb138 := Eq.trans rfl (congrArg B (Bool.eq_false_iff.2 hg136))
                  refine wpL_gq (U := NoB) rfl rfl rfl hb138 (q_move (v := B ((autoTakes b l).1)) rfl a117_16) ?_
                  refine wpL_gq (U := NoB) rfl rfl rfl hb134 (q_pickF (v := B ((autoTakes b l).1)) rfl hb138 rfl) ?_
                  refine wpL_gq (U := NoB) rfl rfl rfl hb134 (q_eqlB rfl Try.underlying4 rfl rfl) ?_
                  refine wpL_q (U := NoB) rfl (q_pickT (v := B (decide (((autoTakes (orR a b).1 l).1) = ((autoTakes b l).1)))) rfl hb134 rfl) ?_
                  refine wpL_q (U := NoB) rfl (q_move (v := B (decide (((autoTakes (orR a b).1 l).1) = ((autoTakes b l).1)))) rfl rfl) ?_
                  by_cases hg142 : ((autoTakes (orR a b).1 l).1) = ((autoTakes b l).1)
                  · have hb143 := Eq.trans rfl (congrArg B (decide_eq_true hg142))
                    refine wpL_gq (U := NoB) rfl rfl rfl hb143 (q_move (v := B ((autoTakes (autoNot a).1 l).1)) rfl a117_22) ?_
                    refine wpL_gq (U := NoB) rfl rfl rfl hb143 (q_move (v := B ((autoTakes a l).1)) rfl a117_14) ?_
                    refine wpL_gq (U := NoB) rfl rfl rfl hb143 (q_neqB rfl Try.underlying4 rfl rfl) ?_
                    refine wpL_q (U := NoB) rfl (q_pickT (v := B (decide (((autoTakes (autoNot a).1 l).1) ≠ ((autoTakes a l).1)))) rfl hb143 rfl) ?_
                    refine wpL_q (U := NoB) rfl (q_assign (v := B (decide (((autoTakes (autoNot a).1 l).1) ≠ ((autoTakes a l).1)))) rfl rfl) ?_
                    exact ⟨(Eq.trans rfl (congrArg B (show (decide (((autoTakes (autoNot a).1 l).1) ≠ ((autoTakes a l).1))) = true by revert hg118 hg121 hg124 hg127 hg130 hg133 hg136 hg142; simp only [hp, hq, hr, hs, ht]; cases takesA a 0 l <;> cases takesA b 0 l <;> simp))), hS117⟩
                  · have hb144 := Eq.trans rfl (congrArg B (decide_eq_false hg142))
                    refine wpL_gs rfl rfl rfl hb144 rfl ?_
                    refine wpL_gs rfl rfl rfl hb144 rfl ?_
                    refine wpL_gs rfl rfl rfl hb144 rfl ?_
                    refine wpL_q (U := NoB) rfl (q_pickF (v := B (false)) rfl hb144 rfl) ?_
                    refine wpL_q (U := NoB) rfl (q_assign (v := B (false)) rfl rfl) ?_
                    exact ⟨(Eq.trans rfl (congrArg B (show (false) = true by revert hg118 hg121 hg124 hg127 hg130 hg133 hg136 hg142; simp only [hp, hq, hr, hs, ht]; cases takesA a 0 l <;> cases takesA b 0 l <;> simp))), hS117⟩
              · have hb135 := Eq.trans rfl (congrArg B (decide_eq_false hg133))
                refine wpL_gs rfl rfl rfl hb135 rfl ?_
                refine wpL_gs rfl rfl rfl hb135 rfl ?_
                refine wpL_gs rfl rfl rfl hb135 rfl ?_
                refine wpL_gs' rfl rfl rfl rfl ?_
                refine wpL_gs rfl rfl rfl hb135 rfl ?_
                refine wpL_gs rfl rfl rfl hb135 rfl ?_
                refine wpL_q (U := NoB) rfl (q_pickF (v := B (false)) rfl hb135 rfl) ?_
                refine wpL_q (U := NoB) rfl (q_move (v := B (false)) rfl rfl) ?_
                refine wpL_gs rfl rfl rfl rfl rfl ?_
                refine wpL_gs rfl rfl rfl rfl rfl ?_
                refine wpL_gs rfl rfl rfl rfl rfl ?_
                refine wpL_q (U := NoB) rfl (q_pickF (v := B (false)) rfl rfl rfl) ?_
                refine wpL_q (U := NoB) rfl (q_assign (v := B (false)) rfl rfl) ?_
                exact ⟨(Eq.trans rfl (congrArg B (show (false) = true by revert hg118 hg121 hg124 hg127 hg130 hg133; simp only [hp, hq, hr, hs, ht]; cases takesA a 0 l <;> cases takesA b 0 l <;> simp))), hS117⟩
            · have hb132 := Eq.trans rfl (congrArg B (Bool.eq_false_iff.2 hg130))
              refine wpL_gs rfl rfl rfl hb132 rfl ?_
              refine wpL_gq (U := NoB) rfl rfl rfl hb128 (q_pickF (v := B (false)) rfl hb132 rfl) ?_
              refine wpL_gq (U := NoB) rfl rfl rfl hb128 (q_eqlB rfl Try.underlying4 rfl rfl) ?_
              refine wpL_q (U := NoB) rfl (q_pickT (v := B (decide (((autoTakes (andR a b).1 l).1) = false))) rfl hb128 rfl) ?_
              refine wpL_q (U := NoB) rfl (q_move (v := B (decide (((autoTakes (andR a b).1 l).1) = false))) rfl rfl) ?_
              by_cases hg145 : ((autoTakes (andR a b).1 l).1) = false
              · have hb146 := Eq.trans rfl (congrArg B (decide_eq_true hg145))
                refine wpL_gq (U := NoB) rfl rfl rfl hb146 (q_move (v := B ((autoTakes (orR a b).1 l).1)) rfl a117_20) ?_
                refine wpL_gq (U := NoB) rfl rfl rfl hb146 (q_move (v := B ((autoTakes a l).1)) rfl a117_14) ?_
                refine wpL_gq (U := NoB) rfl rfl rfl hb146 (q_move (v := B ((autoTakes a l).1)) rfl rfl) ?_
                by_cases hg148 : ((autoTakes a l).1) = true
                · have hb149 := Eq.trans rfl (congrArg B hg148)
                  refine wpL_gs rfl rfl rfl hb149 rfl ?_
                  refine wpL_gq (U := NoB) rfl rfl rfl hb146 (q_pickT (v := B (true)) rfl hb149 rfl) ?_
                  refine wpL_gq (U := NoB) rfl rfl rfl hb146 (q_eqlB rfl Try.underlying4 rfl rfl) ?_
                  refine wpL_q (U := NoB) rfl (q_pickT (v := B (decide (((autoTakes (orR a b).1 l).1) = true))) rfl hb146 rfl) ?_
                  refine wpL_q (U := NoB) rfl (q_move (v := B (decide (((autoTakes (orR a b).1 l).1) = true))) rfl rfl) ?_
                  by_cases hg151 : ((autoTakes (orR a b).1 l).1) = true
                  · have hb152 := Eq.trans rfl (congrArg B (decide_eq_true hg151))
                    refine wpL_gq (U := NoB) rfl rfl rfl hb152 (q_move (v := B ((autoTakes (autoNot a).1 l).1)) rfl a117_22) ?_
                    refine wpL_gq (U := NoB) rfl rfl rfl hb152 (q_move (v := B ((autoTakes a l).1)) rfl a117_14) ?_
                    refine wpL_gq (U := NoB) rfl rfl rfl hb152 (q_neqB rfl Try.underlying4 rfl rfl) ?_
                    refine wpL_q (U := NoB) rfl (q_pickT (v := B (decide (((autoTakes (autoNot a).1 l).1) ≠ ((autoTakes a l).1)))) rfl hb152 rfl) ?_
                    refine wpL_q (U := NoB) rfl (q_assign (v := B (decide (((autoTakes (autoNot a).1 l).1) ≠ ((autoTakes a l).1)))) rfl rfl) ?_
                    exact ⟨(Eq.trans rfl (congrArg B (show (decide (((autoTakes (autoNot a).1 l).1) ≠ ((autoTakes a l).1))) = true by revert hg118 hg121 hg124 hg127 hg130 hg145 hg148 hg151; simp only [hp, hq, hr, hs, ht]; cases takesA a 0 l <;> cases takesA b 0 l <;> simp))), hS117⟩
                  · have hb153 := Eq.trans rfl (congrArg B (decide_eq_false hg151))
                    refine wpL_gs rfl rfl rfl hb153 rfl ?_
                    refine wpL_gs rfl rfl rfl hb153 rfl ?_
                    refine wpL_gs rfl rfl rfl hb153 rfl ?_
                    refine wpL_q (U := NoB) rfl (q_pickF (v := B (false)) rfl hb153 rfl) ?_
                    refine wpL_q (U := NoB) rfl (q_assign (v := B (false)) rfl rfl) ?_
                    exact ⟨(Eq.trans rfl (congrArg B (show (false) = true by revert hg118 hg121 hg124 hg127 hg130 hg145 hg148 hg151; simp only [hp, hq, hr, hs, ht]; cases takesA a 0 l <;> cases takesA b 0 l <;> simp))), hS117⟩
                · have hb150 := Eq.trans rfl (congrArg B (Bool.eq_false_iff.2 hg148))
                  refine wpL_gq (U := NoB) rfl rfl rfl hb150 (q_move (v := B ((autoTakes b l).1)) rfl a117_16) ?_
                  refine wpL_gq (U := NoB) rfl rfl rfl hb146 (q_pickF (v := B ((autoTakes b l).1)) rfl hb150 rfl) ?_
                  refine wpL_gq (U := NoB) rfl rfl rfl hb146 (q_eqlB rfl Try.underlying4 rfl rfl) ?_
                  refine wpL_q (U := NoB) rfl (q_pickT (v := B (decide (((autoTakes (orR a b).1 l).1) = ((autoTakes b l).1)))) rfl hb146 rfl) ?_
                  refine wpL_q (U := NoB) rfl (q_move (v := B (decide (((autoTakes (orR a b).1 l).1) = ((autoTakes b l).1)))) rfl rfl) ?_
                  by_cases hg154 : ((autoTakes (orR a b).1 l).1) = ((autoTakes b l).1)
                  · have hb155 := Eq.trans rfl (congrArg B (decide_eq_true hg154))
                    refine wpL_gq (U := NoB) rfl rfl rfl hb155 (q_move (v := B ((autoTakes (autoNot a).1 l).1)) rfl a117_22) ?_
                    refine wpL_gq (U := NoB) rfl rfl rfl hb155 (q_move (v := B ((autoTakes a l).1)) rfl a117_14) ?_
                    refine wpL_gq (U := NoB) rfl rfl rfl hb155 (q_neqB rfl Try.underlying4 rfl rfl) ?_
                    refine wpL_q (U := NoB) rfl (q_pickT (v := B (decide (((autoTakes (autoNot a).1 l).1) ≠ ((autoTakes a l).1)))) rfl hb155 rfl) ?_
                    refine wpL_q (U := NoB) rfl (q_assign (v := B (decide (((autoTakes (autoNot a).1 l).1) ≠ ((autoTakes a l).1)))) rfl rfl) ?_
                    exact ⟨(Eq.trans rfl (congrArg B (show (decide (((autoTakes (autoNot a).1 l).1) ≠ ((autoTakes a l).1))) = true by revert hg118 hg121 hg124 hg127 hg130 hg145 hg148 hg154; simp only [hp, hq, hr, hs, ht]; cases takesA a 0 l <;> cases takesA b 0 l <;> simp))), hS117⟩
                  · have hb156 := Eq.trans rfl (congrArg B (decide_eq_false hg154))
                    refine wpL_gs rfl rfl rfl hb156 rfl ?_
                    refine wpL_gs rfl rfl rfl hb156 rfl ?_
                    refine wpL_gs rfl rfl rfl hb156 rfl ?_
                    refine wpL_q (U := NoB) rfl (q_pickF (v := B (false)) rfl hb156 rfl) ?_
                    refine wpL_q (U := NoB) rfl (q_assign (v := B (false)) rfl rfl) ?_
                    exact ⟨(Eq.trans rfl (congrArg B (show (false) = true by revert hg118 hg121 hg124 hg127 hg130 hg145 hg148 hg154; simp only [hp, hq, hr, hs, ht]; cases takesA a 0 l <;> cases takesA b 0 l <;> simp))), hS117⟩
              · have hb147 := Eq.trans rfl (congrArg B (decide_eq_false hg145))
                refine wpL_gs rfl rfl rfl hb147 rfl ?_
                refine wpL_gs rfl rfl rfl hb147 rfl ?_
                refine wpL_gs rfl rfl rfl hb147 rfl ?_
                refine wpL_gs' rfl rfl rfl rfl ?_
                refine wpL_gs rfl rfl rfl hb147 rfl ?_
                refine wpL_gs rfl rfl rfl hb147 rfl ?_
                refine wpL_q (U := NoB) rfl (q_pickF (v := B (false)) rfl hb147 rfl) ?_
                refine wpL_q (U := NoB) rfl (q_move (v := B (false)) rfl rfl) ?_
                refine wpL_gs rfl rfl rfl rfl rfl ?_
                refine wpL_gs rfl rfl rfl rfl rfl ?_
                refine wpL_gs rfl rfl rfl rfl rfl ?_
                refine wpL_q (U := NoB) rfl (q_pickF (v := B (false)) rfl rfl rfl) ?_
                refine wpL_q (U := NoB) rfl (q_assign (v := B (false)) rfl rfl) ?_
                exact ⟨(Eq.trans rfl (congrArg B (show (false) = true by revert hg118 hg121 hg124 hg127 hg130 hg145; simp only [hp, hq, hr, hs, ht]; cases takesA a 0 l <;> cases takesA b 0 l <;> simp))), hS117⟩
          · have hb129 := Eq.trans rfl (congrArg B (decide_eq_false hg127))
            refine wpL_gs rfl rfl rfl hb129 rfl ?_
            refine wpL_gs rfl rfl rfl hb129 rfl ?_
            refine wpL_gs rfl rfl rfl hb129 rfl ?_
            refine wpL_gs' rfl rfl rfl rfl ?_
            refine wpL_gs rfl rfl rfl hb129 rfl ?_
            refine wpL_gs rfl rfl rfl hb129 rfl ?_
            refine wpL_q (U := NoB) rfl (q_pickF (v := B (false)) rfl hb129 rfl) ?_
            refine wpL_q (U := NoB) rfl (q_move (v := B (false)) rfl rfl) ?_
            refine wpL_gs rfl rfl rfl rfl rfl ?_
            refine wpL_gs rfl rfl rfl rfl rfl ?_
            refine wpL_gs rfl rfl rfl rfl rfl ?_
            refine wpL_gs' rfl rfl rfl rfl ?_
            refine wpL_gs rfl rfl rfl rfl rfl ?_
            refine wpL_gs rfl rfl rfl rfl rfl ?_
            refine wpL_q (U := NoB) rfl (q_pickF (v := B (false)) rfl rfl rfl) ?_
            refine wpL_q (U := NoB) rfl (q_move (v := B (false)) rfl rfl) ?_
            refine wpL_gs rfl rfl rfl rfl rfl ?_
            refine wpL_gs rfl rfl rfl rfl rfl ?_
            refine wpL_gs rfl rfl rfl rfl rfl ?_
            refine wpL_q (U := NoB) rfl (q_pickF (v := B (false)) rfl rfl rfl) ?_
            refine wpL_q (U := NoB) rfl (q_assign (v := B (false)) rfl rfl) ?_
            exact ⟨(Eq.trans rfl (congrArg B (show (false) = true by revert hg118 hg121 hg124 hg127; simp only [hp, hq, hr, hs, ht]; cases takesA a 0 l <;> cases takesA b 0 l <;> simp))), hS117⟩
        · have hb126 := Eq.trans rfl (congrArg B (decide_eq_false hg124))
          refine wpL_gs rfl rfl rfl hb126 rfl ?_
          refine wpL_gs rfl rfl rfl hb126 rfl ?_
          refine wpL_gs rfl rfl rfl hb126 rfl ?_
          refine wpL_q (U := NoB) rfl (q_pickF (v := B (false)) rfl hb126 rfl) ?_
          refine wpL_q (U := NoB) rfl (q_move (v := B (false)) rfl rfl) ?_
          refine wpL_gs rfl rfl rfl rfl rfl ?_
          refine wpL_gs rfl rfl rfl rfl rfl ?_
          refine wpL_gs rfl rfl rfl rfl rfl ?_
          refine wpL_gs' rfl rfl rfl rfl ?_
          refine wpL_gs rfl rfl rfl rfl rfl ?_
          refine wpL_gs rfl rfl rfl rfl rfl ?_
          refine wpL_q (U := NoB) rfl (q_pickF (v := B (false)) rfl rfl rfl) ?_
          refine wpL_q (U := NoB) rfl (q_move (v := B (false)) rfl rfl) ?_
          refine wpL_gs rfl rfl rfl rfl rfl ?_
          refine wpL_gs rfl rfl rfl rfl rfl ?_
          refine wpL_gs rfl rfl rfl rfl rfl ?_
          refine wpL_gs' rfl rfl rfl rfl ?_
          refine wpL_gs rfl rfl rfl rfl rfl ?_
          refine wpL_gs rfl rfl rfl rfl rfl ?_
          refine wpL_q (U := NoB) rfl (q_pickF (v := B (false)) rfl rfl rfl) ?_
          refine wpL_q (U := NoB) rfl (q_move (v := B (false)) rfl rfl) ?_
          refine wpL_gs rfl rfl rfl rfl rfl ?_
          refine wpL_gs rfl rfl rfl rfl rfl ?_
          refine wpL_gs rfl rfl rfl rfl rfl ?_
          refine wpL_q (U := NoB) rfl (q_pickF (v := B (false)) rfl rfl rfl) ?_
          refine wpL_q (U := NoB) rfl (q_assign (v := B (false)) rfl rfl) ?_
          exact ⟨(Eq.trans rfl (congrArg B (show (false) = true by revert hg118 hg121 hg124; simp only [hp, hq, hr, hs, ht]; cases takesA a 0 l <;> cases takesA b 0 l <;> simp))), hS117⟩
      · have hb123 := Eq.trans rfl (congrArg B (decide_eq_false hg121))
        refine wpL_gs rfl rfl rfl hb123 rfl ?_
        refine wpL_gs rfl rfl rfl hb123 rfl ?_
        refine wpL_gs rfl rfl rfl hb123 rfl ?_
        refine wpL_q (U := NoB) rfl (q_pickF (v := B (false)) rfl hb123 rfl) ?_
        refine wpL_q (U := NoB) rfl (q_move (v := B (false)) rfl rfl) ?_
        refine wpL_gs rfl rfl rfl rfl rfl ?_
        refine wpL_gs rfl rfl rfl rfl rfl ?_
        refine wpL_gs rfl rfl rfl rfl rfl ?_
        refine wpL_q (U := NoB) rfl (q_pickF (v := B (false)) rfl rfl rfl) ?_
        refine wpL_q (U := NoB) rfl (q_move (v := B (false)) rfl rfl) ?_
        refine wpL_gs rfl rfl rfl rfl rfl ?_
        refine wpL_gs rfl rfl rfl rfl rfl ?_
        refine wpL_gs rfl rfl rfl rfl rfl ?_
        refine wpL_gs' rfl rfl rfl rfl ?_
        refine wpL_gs rfl rfl rfl rfl rfl ?_
        refine wpL_gs rfl rfl rfl rfl rfl ?_
        refine wpL_q (U := NoB) rfl (q_pickF (v := B (false)) rfl rfl rfl) ?_
        refine wpL_q (U := NoB) rfl (q_move (v := B (false)) rfl rfl) ?_
        refine wpL_gs rfl rfl rfl rfl rfl ?_
        refine wpL_gs rfl rfl rfl rfl rfl ?_
        refine wpL_gs rfl rfl rfl rfl rfl ?_
        refine wpL_gs' rfl rfl rfl rfl ?_
        refine wpL_gs rfl rfl rfl rfl rfl ?_
        refine wpL_gs rfl rfl rfl rfl rfl ?_
        refine wpL_q (U := NoB) rfl (q_pickF (v := B (false)) rfl rfl rfl) ?_
        refine wpL_q (U := NoB) rfl (q_move (v := B (false)) rfl rfl) ?_
        refine wpL_gs rfl rfl rfl rfl rfl ?_
        refine wpL_gs rfl rfl rfl rfl rfl ?_
        refine wpL_gs rfl rfl rfl rfl rfl ?_
        refine wpL_q (U := NoB) rfl (q_pickF (v := B (false)) rfl rfl rfl) ?_
        refine wpL_q (U := NoB) rfl (q_assign (v := B (false)) rfl rfl) ?_
        exact ⟨(Eq.trans rfl (congrArg B (show (false) = true by revert hg118 hg121; simp only [hp, hq, hr, hs, ht]; cases takesA a 0 l <;> cases takesA b 0 l <;> simp))), hS117⟩
    · have hb120 := Eq.trans rfl (congrArg B (decide_eq_false hg118))
      refine wpL_gs rfl rfl rfl hb120 rfl ?_
      refine wpL_gs rfl rfl rfl hb120 rfl ?_
      refine wpL_gs rfl rfl rfl hb120 rfl ?_
      refine wpL_q (U := NoB) rfl (q_pickF (v := B (false)) rfl hb120 rfl) ?_
      refine wpL_q (U := NoB) rfl (q_move (v := B (false)) rfl rfl) ?_
      refine wpL_gs rfl rfl rfl rfl rfl ?_
      refine wpL_gs rfl rfl rfl rfl rfl ?_
      refine wpL_gs rfl rfl rfl rfl rfl ?_
      refine wpL_q (U := NoB) rfl (q_pickF (v := B (false)) rfl rfl rfl) ?_
      refine wpL_q (U := NoB) rfl (q_move (v := B (false)) rfl rfl) ?_
      refine wpL_gs rfl rfl rfl rfl rfl ?_
      refine wpL_gs rfl rfl rfl rfl rfl ?_
      refine wpL_gs rfl rfl rfl rfl rfl ?_
      refine wpL_q (U := NoB) rfl (q_pickF (v := B (false)) rfl rfl rfl) ?_
      refine wpL_q (U := NoB) rfl (q_move (v := B (false)) rfl rfl) ?_
      refine wpL_gs rfl rfl rfl rfl rfl ?_
      refine wpL_gs rfl rfl rfl rfl rfl ?_
      refine wpL_gs rfl rfl rfl rfl rfl ?_
      refine wpL_gs' rfl rfl rfl rfl ?_
      refine wpL_gs rfl rfl rfl rfl rfl ?_
      refine wpL_gs rfl rfl rfl rfl rfl ?_
      refine wpL_q (U := NoB) rfl (q_pickF (v := B (false)) rfl rfl rfl) ?_
      refine wpL_q (U := NoB) rfl (q_move (v := B (false)) rfl rfl) ?_
      refine wpL_gs rfl rfl rfl rfl rfl ?_
      refine wpL_gs rfl rfl rfl rfl rfl ?_
      refine wpL_gs rfl rfl rfl rfl rfl ?_
      refine wpL_gs' rfl rfl rfl rfl ?_
      refine wpL_gs rfl rfl rfl rfl rfl ?_
      refine wpL_gs rfl rfl rfl rfl rfl ?_
      refine wpL_q (U := NoB) rfl (q_pickF (v := B (false)) rfl rfl rfl) ?_
      refine wpL_q (U := NoB) rfl (q_move (v := B (false)) rfl rfl) ?_
      refine wpL_gs rfl rfl rfl rfl rfl ?_
      refine wpL_gs rfl rfl rfl rfl rfl ?_
      refine wpL_gs rfl rfl rfl rfl rfl ?_
      refine wpL_q (U := NoB) rfl (q_pickF (v := B (false)) rfl rfl rfl) ?_
      refine wpL_q (U := NoB) rfl (q_assign (v := B (false)) rfl rfl) ?_
      exact ⟨(Eq.trans rfl (congrArg B (show (false) = true by revert hg118; simp only [hp, hq, hr, hs, ht]; cases takesA a 0 l <;> cases takesA b 0 l <;> simp))), hS117⟩
  rintro f157 H157 ⟨a157_6, hS157⟩
  clear a117_14 a117_16 a117_17 a117_18 a117_19 a117_20 a117_21 a117_22 a117_23
  refine wpF_ret ?_
  refine ⟨_, resT a157_6 resN, hS157.frame, ?_⟩
  show (B (true)) = B true
  rfl

end Go.Um
