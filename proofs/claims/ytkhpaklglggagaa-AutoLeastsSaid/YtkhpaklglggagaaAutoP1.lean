import Derived.Test.YtkhpaklglggagaaProg
import Derived.Test.YtkhpaklglggagaaAutoA3
import Derived.Test.YtkhpaklglggagaaSearch
import Derived.Test.YtkhpaklglggagaaUmSub
namespace Go.Um
open Go.Proofs
open GoT (sz ag rdc)
open KeyT (kv)

theorem el_Bool_4_AutoP1 : ElT Try.prog Bool 4 := ⟨Try.isAgg4, Try.sizeOf4⟩
theorem el_Int_3_AutoP1 : ElT Try.prog Int 3 := ⟨Try.isAgg3, Try.sizeOf3⟩
theorem el_LInt_22_AutoP1 : ElT Try.prog (List Int) 22 := ⟨Try.isAgg22, Try.sizeOf22⟩

set_option maxRecDepth 100000 in
theorem checks {H0 : Heap} (vn vt wn wt : Value) (a b : Auto) (rn : Rd NoB H0 vn a.Next) (rt : Rd NoB H0 vt a.Takes) (hsg : In64 a.Signs) (sw : Rd NoB H0 wn b.Next) (st : Rd NoB H0 wt b.Takes) (hsgb : In64 b.Signs) : CallsH Try.prog 59 #[Value.agg #[I (a.Signs), vn, vt], Value.agg #[I (b.Signs), wn, wt]] H0 (fun rv_ H' => Ext NoB H0 H' ∧ rv_ = Value.agg #[I (pairFault a b).1, I (pairFault a b).2]) := by
  have hS0 : St H0 NoB NoB [rdE vn a.Next, rdE vt a.Takes, rdE wn b.Next, rdE wt b.Takes] H0 := St.arg (St.arg (St.arg (St.arg (St.start (fun _ h => h.elim)) (Bl0.nil) st (fun _ h => h)) (Bl0.cons (Bl0.nil)) sw (fun _ h => h)) (Bl0.cons (Bl0.cons (Bl0.nil))) rt (fun _ h => h)) (Bl0.cons (Bl0.cons (Bl0.cons (Bl0.nil)))) rn (fun _ h => h)
  refine callsH_of_wpF (args := [Value.agg #[I (a.Signs), vn, vt], Value.agg #[I (b.Signs), wn, wt]]) (rs := [.cell 4 24]) Try.func59 rfl Try.ntmps59 Try.results59 (by kernel_rfl) (Nat.le_of_ble_eq_true rfl) ?_
  have a0_0 : argF [Value.agg #[I (a.Signs), vn, vt], Value.agg #[I (b.Signs), wn, wt]] 0 = Value.agg #[I (a.Signs), vn, vt] := rfl
  have a0_1 : argF [Value.agg #[I (a.Signs), vn, vt], Value.agg #[I (b.Signs), wn, wt]] 1 = Value.agg #[I (b.Signs), wn, wt] := rfl
  generalize argF [Value.agg #[I (a.Signs), vn, vt], Value.agg #[I (b.Signs), wn, wt]] = f0 at *
  refine wpF_seq ?_
  refine wpF_cut (fun f H => ∃ (g1 : Nat), ∃ (g4 : Nat), ∃ (g7 : Nat), f 2 = PT g1 0 ∧ f 3 = PT g4 0 ∧ f 4 = PT g7 0 ∧ St H0 NoB NoB [blkE g7 (.cells #[I (0), I (0)] 24), blkE g4 (.cells #[I (b.Signs), wn, wt] 36), blkE g1 (.cells #[I (a.Signs), vn, vt] 36), rdE vn a.Next, rdE vt a.Takes, rdE wn b.Next, rdE wt b.Takes] H) ?_ ?_
  · refine wpF_region ?_
    refine wpL_o rfl ?_
    refine e_box (v := Value.agg #[I (a.Signs), vn, vt]) rfl a0_0 hS0 (fun g1 H2 hS3 hxx => ?_)
    replace hS3 : St H0 NoB NoB [blkE g1 (.cells #[I (a.Signs), vn, vt] 36), rdE vn a.Next, rdE vt a.Takes, rdE wn b.Next, rdE wt b.Takes] H2 := hS3
    refine wpL_o rfl ?_
    refine e_box (v := Value.agg #[I (b.Signs), wn, wt]) rfl a0_1 hS3 (fun g4 H5 hS6 hxx => ?_)
    replace hS6 : St H0 NoB NoB [blkE g4 (.cells #[I (b.Signs), wn, wt] 36), blkE g1 (.cells #[I (a.Signs), vn, vt] 36), rdE vn a.Next, rdE vt a.Takes, rdE wn b.Next, rdE wt b.Takes] H5 := hS6
    refine wpL_o rfl ?_
    refine e_alloc rfl Try.zeroValue24 hS6 (fun g7 H8 hS9 hxx => ?_)
    replace hS9 : St H0 NoB NoB [blkE g7 (.cells #[I (0), I (0)] 24), blkE g4 (.cells #[I (b.Signs), wn, wt] 36), blkE g1 (.cells #[I (a.Signs), vn, vt] 36), rdE vn a.Next, rdE vt a.Takes, rdE wn b.Next, rdE wt b.Takes] H8 := hS9
    exact ⟨g1, g4, g7, rfl, rfl, rfl, hS9⟩
  rintro f10 H10 ⟨g1, g4, g7, a10_2, a10_3, a10_4, hS10⟩
  clear a0_0 a0_1
  refine wpF_seq ?_
  refine wpF_seq ?_
  refine wpF_cut (fun f H => ∃ (g14 : Nat), f 2 = PT g1 0 ∧ f 3 = PT g4 0 ∧ f 4 = PT g7 0 ∧ f 5 = PT g14 0 ∧ St H0 NoB NoB [blkE g14 (.cells #[I ((autoFault a).1), I ((autoFault a).2)] 24), blkE g7 (.cells #[I (0), I (0)] 24), blkE g4 (.cells #[I (b.Signs), wn, wt] 36), blkE g1 (.cells #[I (a.Signs), vn, vt] 36), rdE vn a.Next, rdE vt a.Takes, rdE wn b.Next, rdE wt b.Takes] H) ?_ ?_
  · refine wpF_region ?_
    refine wpL_q (U := NoB) rfl (q_loadBlkA rfl a10_2 Try.isAgg36 Try.sizeOf36 rfl (hS10.blk 2 rfl) (fun h => h)) ?_
    refine wpL_o rfl ?_
    refine e_call rfl Try.call21 (arr1 (v0 := Value.agg #[I (a.Signs), vn, vt]) rfl) (Check vn vt a (hS10.rdN 3 rfl) (hS10.rdN 4 rfl) hsg) ?_
    rintro _ H11 ⟨hxx, rfl⟩
    have hS12 : St H0 NoB NoB [blkE g7 (.cells #[I (0), I (0)] 24), blkE g4 (.cells #[I (b.Signs), wn, wt] 36), blkE g1 (.cells #[I (a.Signs), vn, vt] 36), rdE vn a.Next, rdE vt a.Takes, rdE wn b.Next, rdE wt b.Takes] H11 := hS10.ext hxx
    refine wpL_o rfl ?_
    refine e_alloc rfl Try.zeroValue24 hS12 (fun g14 H15 hS16 hxx => ?_)
    replace hS16 : St H0 NoB NoB [blkE g14 (.cells #[I (0), I (0)] 24), blkE g7 (.cells #[I (0), I (0)] 24), blkE g4 (.cells #[I (b.Signs), wn, wt] 36), blkE g1 (.cells #[I (a.Signs), vn, vt] 36), rdE vn a.Next, rdE vt a.Takes, rdE wn b.Next, rdE wt b.Takes] H15 := hS16
    refine wpL_o rfl ?_
    refine e_storeBlkA (cs' := #[I ((autoFault a).1), I ((autoFault a).2)]) rfl rfl rfl Try.sizeOf24 rfl rfl (List.forall_mem_cons.2 ⟨rfl, List.forall_mem_cons.2 ⟨rfl, List.forall_mem_nil _⟩⟩) hS16 (fun H17 hS18 hxx => ?_)
    replace hS18 : St H0 NoB NoB [blkE g14 (.cells #[I ((autoFault a).1), I ((autoFault a).2)] 24), blkE g7 (.cells #[I (0), I (0)] 24), blkE g4 (.cells #[I (b.Signs), wn, wt] 36), blkE g1 (.cells #[I (a.Signs), vn, vt] 36), rdE vn a.Next, rdE vt a.Takes, rdE wn b.Next, rdE wt b.Takes] H17 := hS18
    exact ⟨g14, a10_2, a10_3, a10_4, rfl, hS18⟩
  rintro f19 H19 ⟨g14, a19_2, a19_3, a19_4, a19_5, hS19⟩
  clear a10_2 a10_3 a10_4
  refine wpF_seq ?_
  refine wpF_cut (fun f H => f 2 = PT g1 0 ∧ f 3 = PT g4 0 ∧ f 4 = PT g7 0 ∧ f 5 = PT g14 0 ∧ f 11 = B (decide (((autoFault a).1) ≠ 0)) ∧ H19 = H) ?_ ?_
  · refine wpF_region ?_
    refine wpL_q (U := NoB) rfl (q_fieldAddr rfl Try.underlying24 rfl Try.sizeOf3 a19_5) ?_
    refine wpL_q (U := NoB) rfl (q_loadBlk rfl rfl Try.isAgg3 (hS19.blk 0 rfl) rfl (fun h => h)) ?_
    refine wpL_q (U := NoB) rfl (q_neq rfl rfl rfl) ?_
    exact ⟨a19_2, a19_3, a19_4, a19_5, rfl, rfl⟩
  rintro f20 _ ⟨a20_2, a20_3, a20_4, a20_5, a20_11, rfl⟩
  clear a19_2 a19_3 a19_4 a19_5
  refine wpF_condP a20_11 (fun h1 => ?t49) (fun h1 => ?e49)
  case t49 =>
    refine wpF_seq ?_
    refine wpF_cut (fun f H => f 4 = PT g7 0 ∧ St H0 NoB NoB [blkE g7 (.cells #[I ((autoFault a).1), I ((autoFault a).2)] 24), blkE g14 (.cells #[I ((autoFault a).1), I ((autoFault a).2)] 24), blkE g4 (.cells #[I (b.Signs), wn, wt] 36), blkE g1 (.cells #[I (a.Signs), vn, vt] 36), rdE vn a.Next, rdE vt a.Takes, rdE wn b.Next, rdE wt b.Takes] H) ?_ ?_
    · refine wpF_region ?_
      refine wpL_q (U := NoB) rfl (q_loadBlkA rfl a20_5 Try.isAgg24 Try.sizeOf24 rfl (hS19.blk 0 rfl) (fun h => h)) ?_
      refine wpL_o rfl ?_
      refine e_storeBlkA (cs' := #[I ((autoFault a).1), I ((autoFault a).2)]) rfl a20_4 rfl Try.sizeOf24 rfl rfl (List.forall_mem_cons.2 ⟨rfl, List.forall_mem_cons.2 ⟨rfl, List.forall_mem_nil _⟩⟩) (hS19.front 1 rfl) (fun H22 hS23 hxx => ?_)
      replace hS23 : St H0 NoB NoB [blkE g7 (.cells #[I ((autoFault a).1), I ((autoFault a).2)] 24), blkE g14 (.cells #[I ((autoFault a).1), I ((autoFault a).2)] 24), blkE g4 (.cells #[I (b.Signs), wn, wt] 36), blkE g1 (.cells #[I (a.Signs), vn, vt] 36), rdE vn a.Next, rdE vt a.Takes, rdE wn b.Next, rdE wt b.Takes] H22 := hS23
      exact ⟨a20_4, hS23⟩
    rintro f24 H24 ⟨a24_4, hS24⟩
    clear a20_11 a20_2 a20_3 a20_4 a20_5
    refine wpF_ret ?_
    refine ⟨_, resC a24_4 (loadV_blkA Try.isAgg24 Try.sizeOf24 rfl (hS24.blk 0 rfl)) (resN), hS24.frame, ?_⟩
    show (Value.agg #[I ((autoFault a).1), I ((autoFault a).2)]) = Value.agg #[I (pairFault a b).1, I (pairFault a b).2]
    have hq := pairFault_a (b := b) h1
    rw [hq]
  refine wpF_skip ?_
  refine wpF_seq ?_
  refine wpF_seq ?_
  refine wpF_cut (fun f H => ∃ (g28 : Nat), f 2 = PT g1 0 ∧ f 3 = PT g4 0 ∧ f 4 = PT g7 0 ∧ f 6 = PT g28 0 ∧ St H0 NoB NoB [blkE g28 (.cells #[I ((autoFault b).1), I ((autoFault b).2)] 24), blkE g14 (.cells #[I ((autoFault a).1), I ((autoFault a).2)] 24), blkE g7 (.cells #[I (0), I (0)] 24), blkE g4 (.cells #[I (b.Signs), wn, wt] 36), blkE g1 (.cells #[I (a.Signs), vn, vt] 36), rdE vn a.Next, rdE vt a.Takes, rdE wn b.Next, rdE wt b.Takes] H) ?_ ?_
  · refine wpF_region ?_
    refine wpL_q (U := NoB) rfl (q_loadBlkA rfl a20_3 Try.isAgg36 Try.sizeOf36 rfl (hS19.blk 2 rfl) (fun h => h)) ?_
    refine wpL_o rfl ?_
    refine e_call rfl Try.call21 (arr1 (v0 := Value.agg #[I (b.Signs), wn, wt]) rfl) (Check wn wt b (hS19.rdN 6 rfl) (hS19.rdN 7 rfl) (by assumption)) ?_
    rintro _ H25 ⟨hxx, rfl⟩
    have hS26 : St H0 NoB NoB [blkE g14 (.cells #[I ((autoFault a).1), I ((autoFault a).2)] 24), blkE g7 (.cells #[I (0), I (0)] 24), blkE g4 (.cells #[I (b.Signs), wn, wt] 36), blkE g1 (.cells #[I (a.Signs), vn, vt] 36), rdE vn a.Next, rdE vt a.Takes, rdE wn b.Next, rdE wt b.Takes] H25 := hS19.ext hxx
    refine wpL_o rfl ?_
    refine e_alloc rfl Try.zeroValue24 hS26 (fun g28 H29 hS30 hxx => ?_)
    replace hS30 : St H0 NoB NoB [blkE g28 (.cells #[I (0), I (0)] 24), blkE g14 (.cells #[I ((autoFault a).1), I ((autoFault a).2)] 24), blkE g7 (.cells #[I (0), I (0)] 24), blkE g4 (.cells #[I (b.Signs), wn, wt] 36), blkE g1 (.cells #[I (a.Signs), vn, vt] 36), rdE vn a.Next, rdE vt a.Takes, rdE wn b.Next, rdE wt b.Takes] H29 := hS30
    refine wpL_o rfl ?_
    refine e_storeBlkA (cs' := #[I ((autoFault b).1), I ((autoFault b).2)]) rfl rfl rfl Try.sizeOf24 rfl rfl (List.forall_mem_cons.2 ⟨rfl, List.forall_mem_cons.2 ⟨rfl, List.forall_mem_nil _⟩⟩) hS30 (fun H31 hS32 hxx => ?_)
    replace hS32 : St H0 NoB NoB [blkE g28 (.cells #[I ((autoFault b).1), I ((autoFault b).2)] 24), blkE g14 (.cells #[I ((autoFault a).1), I ((autoFault a).2)] 24), blkE g7 (.cells #[I (0), I (0)] 24), blkE g4 (.cells #[I (b.Signs), wn, wt] 36), blkE g1 (.cells #[I (a.Signs), vn, vt] 36), rdE vn a.Next, rdE vt a.Takes, rdE wn b.Next, rdE wt b.Takes] H31 := hS32
    exact ⟨g28, a20_2, a20_3, a20_4, rfl, hS32⟩
  rintro f33 H33 ⟨g28, a33_2, a33_3, a33_4, a33_6, hS33⟩
  clear a20_11 a20_2 a20_3 a20_4 a20_5
  refine wpF_seq ?_
  refine wpF_cut (fun f H => f 2 = PT g1 0 ∧ f 3 = PT g4 0 ∧ f 4 = PT g7 0 ∧ f 6 = PT g28 0 ∧ f 17 = B (decide (((autoFault b).1) ≠ 0)) ∧ H33 = H) ?_ ?_
  · refine wpF_region ?_
    refine wpL_q (U := NoB) rfl (q_fieldAddr rfl Try.underlying24 rfl Try.sizeOf3 a33_6) ?_
    refine wpL_q (U := NoB) rfl (q_loadBlk rfl rfl Try.isAgg3 (hS33.blk 0 rfl) rfl (fun h => h)) ?_
    refine wpL_q (U := NoB) rfl (q_neq rfl rfl rfl) ?_
    exact ⟨a33_2, a33_3, a33_4, a33_6, rfl, rfl⟩
  rintro f34 _ ⟨a34_2, a34_3, a34_4, a34_6, a34_17, rfl⟩
  clear a33_2 a33_3 a33_4 a33_6
  refine wpF_condP a34_17 (fun h2 => ?t48) (fun h2 => ?e48)
  case t48 =>
    refine wpF_seq ?_
    refine wpF_cut (fun f H => f 4 = PT g7 0 ∧ St H0 NoB NoB [blkE g7 (.cells #[I ((autoFault b).1), I ((autoFault b).2)] 24), blkE g28 (.cells #[I ((autoFault b).1), I ((autoFault b).2)] 24), blkE g14 (.cells #[I ((autoFault a).1), I ((autoFault a).2)] 24), blkE g4 (.cells #[I (b.Signs), wn, wt] 36), blkE g1 (.cells #[I (a.Signs), vn, vt] 36), rdE vn a.Next, rdE vt a.Takes, rdE wn b.Next, rdE wt b.Takes] H) ?_ ?_
    · refine wpF_region ?_
      refine wpL_q (U := NoB) rfl (q_loadBlkA rfl a34_6 Try.isAgg24 Try.sizeOf24 rfl (hS33.blk 0 rfl) (fun h => h)) ?_
      refine wpL_o rfl ?_
      refine e_storeBlkA (cs' := #[I ((autoFault b).1), I ((autoFault b).2)]) rfl a34_4 rfl Try.sizeOf24 rfl rfl (List.forall_mem_cons.2 ⟨rfl, List.forall_mem_cons.2 ⟨rfl, List.forall_mem_nil _⟩⟩) (hS33.front 2 rfl) (fun H36 hS37 hxx => ?_)
      replace hS37 : St H0 NoB NoB [blkE g7 (.cells #[I ((autoFault b).1), I ((autoFault b).2)] 24), blkE g28 (.cells #[I ((autoFault b).1), I ((autoFault b).2)] 24), blkE g14 (.cells #[I ((autoFault a).1), I ((autoFault a).2)] 24), blkE g4 (.cells #[I (b.Signs), wn, wt] 36), blkE g1 (.cells #[I (a.Signs), vn, vt] 36), rdE vn a.Next, rdE vt a.Takes, rdE wn b.Next, rdE wt b.Takes] H36 := hS37
      exact ⟨a34_4, hS37⟩
    rintro f38 H38 ⟨a38_4, hS38⟩
    clear a34_17 a34_2 a34_3 a34_4 a34_6
    refine wpF_ret ?_
    refine ⟨_, resC a38_4 (loadV_blkA Try.isAgg24 Try.sizeOf24 rfl (hS38.blk 0 rfl)) (resN), hS38.frame, ?_⟩
    show (Value.agg #[I ((autoFault b).1), I ((autoFault b).2)]) = Value.agg #[I (pairFault a b).1, I (pairFault a b).2]
    have hq := pairFault_b h1 h2
    rw [hq]
  refine wpF_skip ?_
  refine wpF_seq ?_
  refine wpF_seq ?_
  refine wpF_cut (fun f H => f 4 = PT g7 0 ∧ f 23 = B (decide (a.Signs ≠ b.Signs)) ∧ H33 = H) ?_ ?_
  · refine wpF_region ?_
    refine wpL_q (U := NoB) rfl (q_fieldAddr rfl Try.underlying36 rfl Try.sizeOf3 a34_2) ?_
    refine wpL_q (U := NoB) rfl (q_loadBlk rfl rfl Try.isAgg3 (hS33.blk 4 rfl) rfl (fun h => h)) ?_
    refine wpL_q (U := NoB) rfl (q_fieldAddr rfl Try.underlying36 rfl Try.sizeOf3 a34_3) ?_
    refine wpL_q (U := NoB) rfl (q_loadBlk rfl rfl Try.isAgg3 (hS33.blk 3 rfl) rfl (fun h => h)) ?_
    refine wpL_q (U := NoB) rfl (q_neq rfl rfl rfl) ?_
    exact ⟨a34_4, rfl, rfl⟩
  rintro f39 _ ⟨a39_4, a39_23, rfl⟩
  clear a34_17 a34_2 a34_3 a34_4 a34_6
  refine wpF_condP a39_23 (fun h3 => ?t47) (fun h3 => ?e47)
  case t47 =>
    refine wpF_seq ?_
    refine wpF_cut (fun f H => f 4 = PT g7 0 ∧ St H0 NoB NoB [blkE g7 (.cells #[I (11), I (-1)] 24), blkE g28 (.cells #[I ((autoFault b).1), I ((autoFault b).2)] 24), blkE g14 (.cells #[I ((autoFault a).1), I ((autoFault a).2)] 24), blkE g4 (.cells #[I (b.Signs), wn, wt] 36), blkE g1 (.cells #[I (a.Signs), vn, vt] 36), rdE vn a.Next, rdE vt a.Takes, rdE wn b.Next, rdE wt b.Takes] H) ?_ ?_
    · refine wpF_region ?_
      refine wpL_q (U := NoB) rfl (q_build (v := Value.agg #[I (11), I (-1)]) rfl (par2 (v0 := I (11)) (v1 := I (-1)) rfl rfl) (fun w => by kernel_rfl)) ?_
      refine wpL_o rfl ?_
      refine e_storeBlkA (cs' := #[I (11), I (-1)]) rfl a39_4 rfl Try.sizeOf24 rfl rfl (List.forall_mem_cons.2 ⟨rfl, List.forall_mem_cons.2 ⟨rfl, List.forall_mem_nil _⟩⟩) (hS33.front 2 rfl) (fun H41 hS42 hxx => ?_)
      replace hS42 : St H0 NoB NoB [blkE g7 (.cells #[I (11), I (-1)] 24), blkE g28 (.cells #[I ((autoFault b).1), I ((autoFault b).2)] 24), blkE g14 (.cells #[I ((autoFault a).1), I ((autoFault a).2)] 24), blkE g4 (.cells #[I (b.Signs), wn, wt] 36), blkE g1 (.cells #[I (a.Signs), vn, vt] 36), rdE vn a.Next, rdE vt a.Takes, rdE wn b.Next, rdE wt b.Takes] H41 := hS42
      exact ⟨a39_4, hS42⟩
    rintro f43 H43 ⟨a43_4, hS43⟩
    clear a39_23 a39_4
    refine wpF_ret ?_
    refine ⟨_, resC a43_4 (loadV_blkA Try.isAgg24 Try.sizeOf24 rfl (hS43.blk 0 rfl)) (resN), hS43.frame, ?_⟩
    show (Value.agg #[I (11), I (-1)]) = Value.agg #[I (pairFault a b).1, I (pairFault a b).2]
    have hq := pairFault_s h1 h2 h3
    rw [hq]
  refine wpF_skip ?_
  refine wpF_seq ?_
  refine wpF_cut (fun f H => f 4 = PT g7 0 ∧ St H0 NoB NoB [blkE g7 (.cells #[I (0), I (0)] 24), blkE g28 (.cells #[I ((autoFault b).1), I ((autoFault b).2)] 24), blkE g14 (.cells #[I ((autoFault a).1), I ((autoFault a).2)] 24), blkE g4 (.cells #[I (b.Signs), wn, wt] 36), blkE g1 (.cells #[I (a.Signs), vn, vt] 36), rdE vn a.Next, rdE vt a.Takes, rdE wn b.Next, rdE wt b.Takes] H) ?_ ?_
  · refine wpF_region ?_
    refine wpL_q (U := NoB) rfl (q_build (v := Value.agg #[I (0), I (0)]) rfl par0 (fun w => by kernel_rfl)) ?_
    refine wpL_o rfl ?_
    refine e_storeBlkA (cs' := #[I (0), I (0)]) rfl a39_4 rfl Try.sizeOf24 rfl rfl (List.forall_mem_cons.2 ⟨rfl, List.forall_mem_cons.2 ⟨rfl, List.forall_mem_nil _⟩⟩) (hS33.front 2 rfl) (fun H44 hS45 hxx => ?_)
    replace hS45 : St H0 NoB NoB [blkE g7 (.cells #[I (0), I (0)] 24), blkE g28 (.cells #[I ((autoFault b).1), I ((autoFault b).2)] 24), blkE g14 (.cells #[I ((autoFault a).1), I ((autoFault a).2)] 24), blkE g4 (.cells #[I (b.Signs), wn, wt] 36), blkE g1 (.cells #[I (a.Signs), vn, vt] 36), rdE vn a.Next, rdE vt a.Takes, rdE wn b.Next, rdE wt b.Takes] H44 := hS45
    exact ⟨a39_4, hS45⟩
  rintro f46 H46 ⟨a46_4, hS46⟩
  clear a39_23 a39_4
  refine wpF_ret ?_
  refine ⟨_, resC a46_4 (loadV_blkA Try.isAgg24 Try.sizeOf24 rfl (hS46.blk 0 rfl)) (resN), hS46.frame, ?_⟩
  show (Value.agg #[I (0), I (0)]) = Value.agg #[I (pairFault a b).1, I (pairFault a b).2]
  have hq := pairFault_no h1 h2 h3
  rw [hq]

set_option maxRecDepth 100000 in
theorem both_1 {H0 : Heap} (x : Int × Int) (c : Int) (ga gb : Nat) (c0 vn vt d0 wn wt : Value) (a b : Auto) (ha : H0[ga]? = some (.cells #[c0, vn, vt] 36)) (hb : H0[gb]? = some (.cells #[d0, wn, wt] 36)) (rn : Rd NoB H0 vn a.Next) (rt : Rd NoB H0 vt a.Takes) (sw : Rd NoB H0 wn b.Next) (st : Rd NoB H0 wt b.Takes) (hWa : WF a) (hWb : WF b) (hss : a.Signs = b.Signs) (hx : (0 ≤ x.1 ∧ x.1 < (a.Next.length : Int)) ∧ 0 ≤ x.2 ∧ x.2 < (b.Next.length : Int)) (hc : 0 ≤ c ∧ c < a.Signs) : CallsH Try.prog 75 #[Value.agg #[I (x.1), I (x.2)], I (c), PT ga 0, PT gb 0] H0 (fun rv_ H' => Ext NoB H0 H' ∧ rv_ = Value.agg #[I (stepA a x.1 c), I (stepA b x.2 c)]) := by
  have hra := hWa.rows x.1.toNat (by omega)
  have hrb := hWb.rows x.2.toNat (by omega)
  have hta := hWa.takes
  have htb := hWb.takes
  have hS0 : St H0 NoB NoB [fixE ga (.cells #[c0, vn, vt] 36), fixE gb (.cells #[d0, wn, wt] 36), rdE vn a.Next, rdE vt a.Takes, rdE wn b.Next, rdE wt b.Takes] H0 := St.argFix (St.argFix (St.arg (St.arg (St.arg (St.arg (St.start (fun _ h => h.elim)) (Bl0.nil) st (fun _ h => h)) (Bl0.cons (Bl0.nil)) sw (fun _ h => h)) (Bl0.cons (Bl0.cons (Bl0.nil))) rt (fun _ h => h)) (Bl0.cons (Bl0.cons (Bl0.cons (Bl0.nil)))) rn (fun _ h => h)) (Bl0.cons (Bl0.cons (Bl0.cons (Bl0.cons (Bl0.nil))))) hb (fun h => h)) (Bl0.consF (Bl0.cons (Bl0.cons (Bl0.cons (Bl0.cons (Bl0.nil)))))) ha (fun h => h)
  refine callsH_of_wpF (args := [Value.agg #[I (x.1), I (x.2)], I (c), PT ga 0, PT gb 0]) (rs := [.cell 6 87]) Try.func75 rfl Try.ntmps75 Try.results75 (by kernel_rfl) (Nat.le_of_ble_eq_true rfl) ?_
  have a0_0 : argF [Value.agg #[I (x.1), I (x.2)], I (c), PT ga 0, PT gb 0] 0 = Value.agg #[I (x.1), I (x.2)] := rfl
  have a0_1 : argF [Value.agg #[I (x.1), I (x.2)], I (c), PT ga 0, PT gb 0] 1 = I (c) := rfl
  have a0_2 : argF [Value.agg #[I (x.1), I (x.2)], I (c), PT ga 0, PT gb 0] 2 = PT ga 0 := rfl
  have a0_3 : argF [Value.agg #[I (x.1), I (x.2)], I (c), PT ga 0, PT gb 0] 3 = PT gb 0 := rfl
  generalize argF [Value.agg #[I (x.1), I (x.2)], I (c), PT ga 0, PT gb 0] = f0 at *
  refine wpF_seq ?_
  refine wpF_cut (fun f H => ∃ (g1 : Nat), ∃ (g4 : Nat), f 1 = I (c) ∧ f 2 = PT ga 0 ∧ f 3 = PT gb 0 ∧ f 4 = PT g1 0 ∧ f 6 = PT g4 0 ∧ St H0 NoB NoB [blkE g4 (.cells #[I (0), I (0)] 87), blkE g1 (.cells #[I (x.1), I (x.2)] 87), fixE ga (.cells #[c0, vn, vt] 36), fixE gb (.cells #[d0, wn, wt] 36), rdE vn a.Next, rdE vt a.Takes, rdE wn b.Next, rdE wt b.Takes] H) ?_ ?_
  · refine wpF_region ?_
    refine wpL_o rfl ?_
    refine e_box (v := Value.agg #[I (x.1), I (x.2)]) rfl a0_0 hS0 (fun g1 H2 hS3 hxx => ?_)
    replace hS3 : St H0 NoB NoB [blkE g1 (.cells #[I (x.1), I (x.2)] 87), fixE ga (.cells #[c0, vn, vt] 36), fixE gb (.cells #[d0, wn, wt] 36), rdE vn a.Next, rdE vt a.Takes, rdE wn b.Next, rdE wt b.Takes] H2 := hS3
    refine wpL_o rfl ?_
    refine e_alloc rfl Try.zeroValue87 hS3 (fun g4 H5 hS6 hxx => ?_)
    replace hS6 : St H0 NoB NoB [blkE g4 (.cells #[I (0), I (0)] 87), blkE g1 (.cells #[I (x.1), I (x.2)] 87), fixE ga (.cells #[c0, vn, vt] 36), fixE gb (.cells #[d0, wn, wt] 36), rdE vn a.Next, rdE vt a.Takes, rdE wn b.Next, rdE wt b.Takes] H5 := hS6
    exact ⟨g1, g4, a0_1, a0_2, a0_3, rfl, rfl, hS6⟩
  rintro f7 H7 ⟨g1, g4, a7_1, a7_2, a7_3, a7_4, a7_6, hS7⟩
  clear a0_0 a0_1 a0_2 a0_3
  refine wpF_seq ?_
  obtain ⟨u8o5, huu8o5, hlu8o5⟩ := (Rd.list.1 (hS7.rdS 4 rfl)).elem ((x.1).toNat) (by omega)
  have hS8o5 : St H0 NoB NoB [rdE u8o5 (nth a.Next ((x.1).toNat)), blkE g4 (.cells #[I (0), I (0)] 87), blkE g1 (.cells #[I (x.1), I (x.2)] 87), fixE ga (.cells #[c0, vn, vt] 36), fixE gb (.cells #[d0, wn, wt] 36), rdE vn a.Next, rdE vt a.Takes, rdE wn b.Next, rdE wt b.Takes] H7 := hS7.rd huu8o5
  obtain ⟨u8o14, huu8o14, hlu8o14⟩ := (Rd.list.1 (hS8o5.rdS 7 rfl)).elem ((x.2).toNat) (by omega)
  have hS8o14 : St H0 NoB NoB [rdE u8o14 (nth b.Next ((x.2).toNat)), rdE u8o5 (nth a.Next ((x.1).toNat)), blkE g4 (.cells #[I (0), I (0)] 87), blkE g1 (.cells #[I (x.1), I (x.2)] 87), fixE ga (.cells #[c0, vn, vt] 36), fixE gb (.cells #[d0, wn, wt] 36), rdE vn a.Next, rdE vt a.Takes, rdE wn b.Next, rdE wt b.Takes] H7 := hS8o5.rd huu8o14
  refine wpF_cut (fun f H => f 6 = PT g4 0 ∧ St H0 NoB NoB [blkE g4 (.cells #[I (nth (nth a.Next ((x.1).toNat)) ((c).toNat)), I (nth (nth b.Next ((x.2).toNat)) ((c).toNat))] 87), blkE g1 (.cells #[I (x.1), I (x.2)] 87), fixE ga (.cells #[c0, vn, vt] 36), fixE gb (.cells #[d0, wn, wt] 36), rdE vn a.Next, rdE vt a.Takes, rdE wn b.Next, rdE wt b.Takes] H) ?_ ?_
  · refine wpF_drawn [none, none, none, none, none, none, none, none, none, none, none, none, none, none, none, none, none, none, none, some 0] [[], [], [], [], [], [], [], [], [], [], [], [], [], [], [], [], [], [], [], []] (fun l b => match l with | 0 => True | _ => False) (by kernel_rfl) (by kernel_rfl) ?_
    refine wpR_q 0 (by kernel_rfl) rfl (quietAt rfl rfl (q_fieldAddr rfl Try.underlying36 rfl Try.sizeOf27 a7_2)) ?_
    refine wpR_q 1 (by kernel_rfl) rfl (quietAt rfl rfl (q_loadBlk rfl rfl Try.isAgg27 (hS7.fixd 2 rfl) rfl (labU_not [] rfl (List.forall_mem_nil _)))) ?_
    refine wpR_q 2 (by kernel_rfl) rfl (quietAt rfl rfl (q_indexAddrA (k := 0) rfl Try.underlying87 Try.sizeOf3 a7_4 rfl rfl (by decide))) ?_
    refine wpR_q 3 (by kernel_rfl) rfl (quietAt rfl rfl (q_loadBlk rfl rfl Try.isAgg3 (hS7.blk 1 rfl) rfl (labU_not [] rfl (List.forall_mem_nil _)))) ?_
    refine wpR_q 4 (by kernel_rfl) rfl (quietAt rfl rfl (q_indexRd (k := (x.1).toNat) rfl Try.underlying27 el_LInt_22_AutoP1 rfl rfl (hS7.rdl 4 rfl) (by omega) (by omega))) ?_
    refine wpR_q 5 (by kernel_rfl) rfl (quietAt rfl rfl (q_loadE rfl rfl (hlu8o5 Try.prog 22 _ el_LInt_22_AutoP1 (labU_sub [] rfl (List.forall_mem_nil _))))) ?_
    refine wpR_q 6 (by kernel_rfl) rfl (quietAt rfl rfl (q_move (v := I (c)) rfl a7_1)) ?_
    refine wpR_q 7 (by kernel_rfl) rfl (quietAt rfl rfl (q_indexRd (k := (c).toNat) rfl Try.underlying22 el_Int_3_AutoP1 rfl rfl (hS8o5.rdl 0 rfl) (by omega) (by omega))) ?_
    refine wpR_q 8 (by kernel_rfl) rfl (quietAt rfl rfl (q_loadInt (k := (c).toNat) rfl rfl el_Int_3_AutoP1 (hS8o5.rdl 0 rfl) (by omega) (labU_sub [] rfl (List.forall_mem_nil _)))) ?_
    refine wpR_q 9 (by kernel_rfl) rfl (quietAt rfl rfl (q_fieldAddr rfl Try.underlying36 rfl Try.sizeOf27 a7_3)) ?_
    refine wpR_q 10 (by kernel_rfl) rfl (quietAt rfl rfl (q_loadBlk rfl rfl Try.isAgg27 (hS8o5.fixd 4 rfl) rfl (labU_not [] rfl (List.forall_mem_nil _)))) ?_
    refine wpR_q 11 (by kernel_rfl) rfl (quietAt rfl rfl (q_indexAddrA (k := 1) rfl Try.underlying87 Try.sizeOf3 a7_4 rfl rfl (by decide))) ?_
    refine wpR_q 12 (by kernel_rfl) rfl (quietAt rfl rfl (q_loadBlk rfl rfl Try.isAgg3 (hS8o5.blk 2 rfl) rfl (labU_not [] rfl (List.forall_mem_nil _)))) ?_
    refine wpR_q 13 (by kernel_rfl) rfl (quietAt rfl rfl (q_indexRd (k := (x.2).toNat) rfl Try.underlying27 el_LInt_22_AutoP1 rfl rfl (hS8o5.rdl 7 rfl) (by omega) (by omega))) ?_
    refine wpR_q 14 (by kernel_rfl) rfl (quietAt rfl rfl (q_loadE rfl rfl (hlu8o14 Try.prog 22 _ el_LInt_22_AutoP1 (labU_sub [] rfl (List.forall_mem_nil _))))) ?_
    refine wpR_q 15 (by kernel_rfl) rfl (quietAt rfl rfl (q_move (v := I (c)) rfl a7_1)) ?_
    refine wpR_q 16 (by kernel_rfl) rfl (quietAt rfl rfl (q_indexRd (k := (c).toNat) rfl Try.underlying22 el_Int_3_AutoP1 rfl rfl (hS8o14.rdl 0 rfl) (by omega) (by omega))) ?_
    refine wpR_q 17 (by kernel_rfl) rfl (quietAt rfl rfl (q_loadInt (k := (c).toNat) rfl rfl el_Int_3_AutoP1 (hS8o14.rdl 0 rfl) (by omega) (labU_sub [] rfl (List.forall_mem_nil _)))) ?_
    refine wpR_q 18 (by kernel_rfl) rfl (quietAt rfl rfl (q_build (v := Value.agg #[I (nth (nth a.Next ((x.1).toNat)) ((c).toNat)), I (nth (nth b.Next ((x.2).toNat)) ((c).toNat))]) rfl (par2 (v0 := I (nth (nth a.Next ((x.1).toNat)) ((c).toNat))) (v1 := I (nth (nth b.Next ((x.2).toNat)) ((c).toNat))) rfl rfl) (fun w => by kernel_rfl))) ?_
    refine wpR_n [19] (by kernel_rfl) ?_
    refine List.forall_mem_cons.2 ⟨?_, List.forall_mem_nil _⟩
    refine exE rfl rfl ?_
    refine e_storeBlkA (cs' := #[I (nth (nth a.Next ((x.1).toNat)) ((c).toNat)), I (nth (nth b.Next ((x.2).toNat)) ((c).toNat))]) rfl a7_6 rfl Try.sizeOf87 rfl rfl (List.forall_mem_cons.2 ⟨rfl, List.forall_mem_cons.2 ⟨rfl, List.forall_mem_nil _⟩⟩) (hS8o14.front 2 rfl) (fun H8o19 hS8o19 hxx => ?_)
    replace hS8o19 : St H0 NoB NoB [blkE g4 (.cells #[I (nth (nth a.Next ((x.1).toNat)) ((c).toNat)), I (nth (nth b.Next ((x.2).toNat)) ((c).toNat))] 87), rdE u8o14 (nth b.Next ((x.2).toNat)), rdE u8o5 (nth a.Next ((x.1).toNat)), blkE g1 (.cells #[I (x.1), I (x.2)] 87), fixE ga (.cells #[c0, vn, vt] 36), fixE gb (.cells #[d0, wn, wt] 36), rdE vn a.Next, rdE vt a.Takes, rdE wn b.Next, rdE wt b.Takes] H8o19 := hS8o19
    refine ⟨Ext.mono hxx (labS_of 0 rfl (fun _ _ => trivial)), ?_⟩
    refine wpR_end (by kernel_rfl) ?_
    exact ⟨a7_6, (hS8o19.drop (sk (sn (sn (sk (sk (sk (sk (sk (sk (sk (List.Sublist.slnil))))))))))))⟩
  rintro f9 H9 ⟨a9_6, hS9⟩
  clear a7_1 a7_2 a7_3 a7_4 a7_6
  refine wpF_ret ?_
  refine ⟨_, resC a9_6 (loadV_blkA Try.isAgg87 Try.sizeOf87 rfl (hS9.blk 0 rfl)) (resN), hS9.frame, ?_⟩
  show (Value.agg #[I (nth (nth a.Next ((x.1).toNat)) ((c).toNat)), I (nth (nth b.Next ((x.2).toNat)) ((c).toNat))]) = Value.agg #[I (stepA a x.1 c), I (stepA b x.2 c)]
  rfl

set_option maxRecDepth 100000 in
theorem Same_1 {H0 : Heap} (x : Int × Int) (c : Int) (ga gb : Nat) (c0 vn vt d0 wn wt : Value) (a b : Auto) (ha : H0[ga]? = some (.cells #[c0, vn, vt] 36)) (hb : H0[gb]? = some (.cells #[d0, wn, wt] 36)) (rn : Rd NoB H0 vn a.Next) (rt : Rd NoB H0 vt a.Takes) (sw : Rd NoB H0 wn b.Next) (st : Rd NoB H0 wt b.Takes) (hWa : WF a) (hWb : WF b) (hss : a.Signs = b.Signs) (hx : (0 ≤ x.1 ∧ x.1 < (a.Next.length : Int)) ∧ 0 ≤ x.2 ∧ x.2 < (b.Next.length : Int)) (hc : 0 ≤ c ∧ c < a.Signs) : CallsH Try.prog 61 #[Value.agg #[I (x.1), I (x.2)], I (c), PT ga 0, PT gb 0] H0 (fun rv_ H' => Ext NoB H0 H' ∧ rv_ = Value.agg #[I (stepA a x.1 c), I (stepA b x.2 c)]) := by
  have hra := hWa.rows x.1.toNat (by omega)
  have hrb := hWb.rows x.2.toNat (by omega)
  have hta := hWa.takes
  have htb := hWb.takes
  have hS0 : St H0 NoB NoB [fixE ga (.cells #[c0, vn, vt] 36), fixE gb (.cells #[d0, wn, wt] 36), rdE vn a.Next, rdE vt a.Takes, rdE wn b.Next, rdE wt b.Takes] H0 := St.argFix (St.argFix (St.arg (St.arg (St.arg (St.arg (St.start (fun _ h => h.elim)) (Bl0.nil) st (fun _ h => h)) (Bl0.cons (Bl0.nil)) sw (fun _ h => h)) (Bl0.cons (Bl0.cons (Bl0.nil))) rt (fun _ h => h)) (Bl0.cons (Bl0.cons (Bl0.cons (Bl0.nil)))) rn (fun _ h => h)) (Bl0.cons (Bl0.cons (Bl0.cons (Bl0.cons (Bl0.nil))))) hb (fun h => h)) (Bl0.consF (Bl0.cons (Bl0.cons (Bl0.cons (Bl0.cons (Bl0.nil)))))) ha (fun h => h)
  refine callsH_of_wpF (args := [Value.agg #[I (x.1), I (x.2)], I (c), PT ga 0, PT gb 0]) (rs := [.cell 6 87]) Try.func61 rfl Try.ntmps61 Try.results61 (by kernel_rfl) (Nat.le_of_ble_eq_true rfl) ?_
  have a0_0 : argF [Value.agg #[I (x.1), I (x.2)], I (c), PT ga 0, PT gb 0] 0 = Value.agg #[I (x.1), I (x.2)] := rfl
  have a0_1 : argF [Value.agg #[I (x.1), I (x.2)], I (c), PT ga 0, PT gb 0] 1 = I (c) := rfl
  have a0_2 : argF [Value.agg #[I (x.1), I (x.2)], I (c), PT ga 0, PT gb 0] 2 = PT ga 0 := rfl
  have a0_3 : argF [Value.agg #[I (x.1), I (x.2)], I (c), PT ga 0, PT gb 0] 3 = PT gb 0 := rfl
  generalize argF [Value.agg #[I (x.1), I (x.2)], I (c), PT ga 0, PT gb 0] = f0 at *
  refine wpF_seq ?_
  refine wpF_cut (fun f H => ∃ (g1 : Nat), ∃ (g4 : Nat), f 1 = I (c) ∧ f 2 = PT ga 0 ∧ f 3 = PT gb 0 ∧ f 4 = PT g1 0 ∧ f 6 = PT g4 0 ∧ St H0 NoB NoB [blkE g4 (.cells #[I (0), I (0)] 87), blkE g1 (.cells #[I (x.1), I (x.2)] 87), fixE ga (.cells #[c0, vn, vt] 36), fixE gb (.cells #[d0, wn, wt] 36), rdE vn a.Next, rdE vt a.Takes, rdE wn b.Next, rdE wt b.Takes] H) ?_ ?_
  · refine wpF_region ?_
    refine wpL_o rfl ?_
    refine e_box (v := Value.agg #[I (x.1), I (x.2)]) rfl a0_0 hS0 (fun g1 H2 hS3 hxx => ?_)
    replace hS3 : St H0 NoB NoB [blkE g1 (.cells #[I (x.1), I (x.2)] 87), fixE ga (.cells #[c0, vn, vt] 36), fixE gb (.cells #[d0, wn, wt] 36), rdE vn a.Next, rdE vt a.Takes, rdE wn b.Next, rdE wt b.Takes] H2 := hS3
    refine wpL_o rfl ?_
    refine e_alloc rfl Try.zeroValue87 hS3 (fun g4 H5 hS6 hxx => ?_)
    replace hS6 : St H0 NoB NoB [blkE g4 (.cells #[I (0), I (0)] 87), blkE g1 (.cells #[I (x.1), I (x.2)] 87), fixE ga (.cells #[c0, vn, vt] 36), fixE gb (.cells #[d0, wn, wt] 36), rdE vn a.Next, rdE vt a.Takes, rdE wn b.Next, rdE wt b.Takes] H5 := hS6
    exact ⟨g1, g4, a0_1, a0_2, a0_3, rfl, rfl, hS6⟩
  rintro f7 H7 ⟨g1, g4, a7_1, a7_2, a7_3, a7_4, a7_6, hS7⟩
  clear a0_0 a0_1 a0_2 a0_3
  refine wpF_seq ?_
  obtain ⟨u8o5, huu8o5, hlu8o5⟩ := (Rd.list.1 (hS7.rdS 4 rfl)).elem ((x.1).toNat) (by omega)
  have hS8o5 : St H0 NoB NoB [rdE u8o5 (nth a.Next ((x.1).toNat)), blkE g4 (.cells #[I (0), I (0)] 87), blkE g1 (.cells #[I (x.1), I (x.2)] 87), fixE ga (.cells #[c0, vn, vt] 36), fixE gb (.cells #[d0, wn, wt] 36), rdE vn a.Next, rdE vt a.Takes, rdE wn b.Next, rdE wt b.Takes] H7 := hS7.rd huu8o5
  obtain ⟨u8o14, huu8o14, hlu8o14⟩ := (Rd.list.1 (hS8o5.rdS 7 rfl)).elem ((x.2).toNat) (by omega)
  have hS8o14 : St H0 NoB NoB [rdE u8o14 (nth b.Next ((x.2).toNat)), rdE u8o5 (nth a.Next ((x.1).toNat)), blkE g4 (.cells #[I (0), I (0)] 87), blkE g1 (.cells #[I (x.1), I (x.2)] 87), fixE ga (.cells #[c0, vn, vt] 36), fixE gb (.cells #[d0, wn, wt] 36), rdE vn a.Next, rdE vt a.Takes, rdE wn b.Next, rdE wt b.Takes] H7 := hS8o5.rd huu8o14
  refine wpF_cut (fun f H => f 6 = PT g4 0 ∧ St H0 NoB NoB [blkE g4 (.cells #[I (nth (nth a.Next ((x.1).toNat)) ((c).toNat)), I (nth (nth b.Next ((x.2).toNat)) ((c).toNat))] 87), blkE g1 (.cells #[I (x.1), I (x.2)] 87), fixE ga (.cells #[c0, vn, vt] 36), fixE gb (.cells #[d0, wn, wt] 36), rdE vn a.Next, rdE vt a.Takes, rdE wn b.Next, rdE wt b.Takes] H) ?_ ?_
  · refine wpF_drawn [none, none, none, none, none, none, none, none, none, none, none, none, none, none, none, none, none, none, none, some 0] [[], [], [], [], [], [], [], [], [], [], [], [], [], [], [], [], [], [], [], []] (fun l b => match l with | 0 => True | _ => False) (by kernel_rfl) (by kernel_rfl) ?_
    refine wpR_q 0 (by kernel_rfl) rfl (quietAt rfl rfl (q_fieldAddr rfl Try.underlying36 rfl Try.sizeOf27 a7_2)) ?_
    refine wpR_q 1 (by kernel_rfl) rfl (quietAt rfl rfl (q_loadBlk rfl rfl Try.isAgg27 (hS7.fixd 2 rfl) rfl (labU_not [] rfl (List.forall_mem_nil _)))) ?_
    refine wpR_q 2 (by kernel_rfl) rfl (quietAt rfl rfl (q_indexAddrA (k := 0) rfl Try.underlying87 Try.sizeOf3 a7_4 rfl rfl (by decide))) ?_
    refine wpR_q 3 (by kernel_rfl) rfl (quietAt rfl rfl (q_loadBlk rfl rfl Try.isAgg3 (hS7.blk 1 rfl) rfl (labU_not [] rfl (List.forall_mem_nil _)))) ?_
    refine wpR_q 4 (by kernel_rfl) rfl (quietAt rfl rfl (q_indexRd (k := (x.1).toNat) rfl Try.underlying27 el_LInt_22_AutoP1 rfl rfl (hS7.rdl 4 rfl) (by omega) (by omega))) ?_
    refine wpR_q 5 (by kernel_rfl) rfl (quietAt rfl rfl (q_loadE rfl rfl (hlu8o5 Try.prog 22 _ el_LInt_22_AutoP1 (labU_sub [] rfl (List.forall_mem_nil _))))) ?_
    refine wpR_q 6 (by kernel_rfl) rfl (quietAt rfl rfl (q_move (v := I (c)) rfl a7_1)) ?_
    refine wpR_q 7 (by kernel_rfl) rfl (quietAt rfl rfl (q_indexRd (k := (c).toNat) rfl Try.underlying22 el_Int_3_AutoP1 rfl rfl (hS8o5.rdl 0 rfl) (by omega) (by omega))) ?_
    refine wpR_q 8 (by kernel_rfl) rfl (quietAt rfl rfl (q_loadInt (k := (c).toNat) rfl rfl el_Int_3_AutoP1 (hS8o5.rdl 0 rfl) (by omega) (labU_sub [] rfl (List.forall_mem_nil _)))) ?_
    refine wpR_q 9 (by kernel_rfl) rfl (quietAt rfl rfl (q_fieldAddr rfl Try.underlying36 rfl Try.sizeOf27 a7_3)) ?_
    refine wpR_q 10 (by kernel_rfl) rfl (quietAt rfl rfl (q_loadBlk rfl rfl Try.isAgg27 (hS8o5.fixd 4 rfl) rfl (labU_not [] rfl (List.forall_mem_nil _)))) ?_
    refine wpR_q 11 (by kernel_rfl) rfl (quietAt rfl rfl (q_indexAddrA (k := 1) rfl Try.underlying87 Try.sizeOf3 a7_4 rfl rfl (by decide))) ?_
    refine wpR_q 12 (by kernel_rfl) rfl (quietAt rfl rfl (q_loadBlk rfl rfl Try.isAgg3 (hS8o5.blk 2 rfl) rfl (labU_not [] rfl (List.forall_mem_nil _)))) ?_
    refine wpR_q 13 (by kernel_rfl) rfl (quietAt rfl rfl (q_indexRd (k := (x.2).toNat) rfl Try.underlying27 el_LInt_22_AutoP1 rfl rfl (hS8o5.rdl 7 rfl) (by omega) (by omega))) ?_
    refine wpR_q 14 (by kernel_rfl) rfl (quietAt rfl rfl (q_loadE rfl rfl (hlu8o14 Try.prog 22 _ el_LInt_22_AutoP1 (labU_sub [] rfl (List.forall_mem_nil _))))) ?_
    refine wpR_q 15 (by kernel_rfl) rfl (quietAt rfl rfl (q_move (v := I (c)) rfl a7_1)) ?_
    refine wpR_q 16 (by kernel_rfl) rfl (quietAt rfl rfl (q_indexRd (k := (c).toNat) rfl Try.underlying22 el_Int_3_AutoP1 rfl rfl (hS8o14.rdl 0 rfl) (by omega) (by omega))) ?_
    refine wpR_q 17 (by kernel_rfl) rfl (quietAt rfl rfl (q_loadInt (k := (c).toNat) rfl rfl el_Int_3_AutoP1 (hS8o14.rdl 0 rfl) (by omega) (labU_sub [] rfl (List.forall_mem_nil _)))) ?_
    refine wpR_q 18 (by kernel_rfl) rfl (quietAt rfl rfl (q_build (v := Value.agg #[I (nth (nth a.Next ((x.1).toNat)) ((c).toNat)), I (nth (nth b.Next ((x.2).toNat)) ((c).toNat))]) rfl (par2 (v0 := I (nth (nth a.Next ((x.1).toNat)) ((c).toNat))) (v1 := I (nth (nth b.Next ((x.2).toNat)) ((c).toNat))) rfl rfl) (fun w => by kernel_rfl))) ?_
    refine wpR_n [19] (by kernel_rfl) ?_
    refine List.forall_mem_cons.2 ⟨?_, List.forall_mem_nil _⟩
    refine exE rfl rfl ?_
    refine e_storeBlkA (cs' := #[I (nth (nth a.Next ((x.1).toNat)) ((c).toNat)), I (nth (nth b.Next ((x.2).toNat)) ((c).toNat))]) rfl a7_6 rfl Try.sizeOf87 rfl rfl (List.forall_mem_cons.2 ⟨rfl, List.forall_mem_cons.2 ⟨rfl, List.forall_mem_nil _⟩⟩) (hS8o14.front 2 rfl) (fun H8o19 hS8o19 hxx => ?_)
    replace hS8o19 : St H0 NoB NoB [blkE g4 (.cells #[I (nth (nth a.Next ((x.1).toNat)) ((c).toNat)), I (nth (nth b.Next ((x.2).toNat)) ((c).toNat))] 87), rdE u8o14 (nth b.Next ((x.2).toNat)), rdE u8o5 (nth a.Next ((x.1).toNat)), blkE g1 (.cells #[I (x.1), I (x.2)] 87), fixE ga (.cells #[c0, vn, vt] 36), fixE gb (.cells #[d0, wn, wt] 36), rdE vn a.Next, rdE vt a.Takes, rdE wn b.Next, rdE wt b.Takes] H8o19 := hS8o19
    refine ⟨Ext.mono hxx (labS_of 0 rfl (fun _ _ => trivial)), ?_⟩
    refine wpR_end (by kernel_rfl) ?_
    exact ⟨a7_6, (hS8o19.drop (sk (sn (sn (sk (sk (sk (sk (sk (sk (sk (List.Sublist.slnil))))))))))))⟩
  rintro f9 H9 ⟨a9_6, hS9⟩
  clear a7_1 a7_2 a7_3 a7_4 a7_6
  refine wpF_ret ?_
  refine ⟨_, resC a9_6 (loadV_blkA Try.isAgg87 Try.sizeOf87 rfl (hS9.blk 0 rfl)) (resN), hS9.frame, ?_⟩
  show (Value.agg #[I (nth (nth a.Next ((x.1).toNat)) ((c).toNat)), I (nth (nth b.Next ((x.2).toNat)) ((c).toNat))]) = Value.agg #[I (stepA a x.1 c), I (stepA b x.2 c)]
  rfl

set_option maxRecDepth 100000 in
theorem Same_2 {H0 : Heap} (x : Int × Int) (ga gb : Nat) (c0 vn vt d0 wn wt : Value) (a b : Auto) (ha : H0[ga]? = some (.cells #[c0, vn, vt] 36)) (hb : H0[gb]? = some (.cells #[d0, wn, wt] 36)) (rn : Rd NoB H0 vn a.Next) (rt : Rd NoB H0 vt a.Takes) (sw : Rd NoB H0 wn b.Next) (st : Rd NoB H0 wt b.Takes) (hWa : WF a) (hWb : WF b) (hss : a.Signs = b.Signs) (hx : (0 ≤ x.1 ∧ x.1 < (a.Next.length : Int)) ∧ 0 ≤ x.2 ∧ x.2 < (b.Next.length : Int)) : CallsH Try.prog 63 #[Value.agg #[I (x.1), I (x.2)], PT ga 0, PT gb 0] H0 (fun rv_ H' => Ext NoB H0 H' ∧ rv_ = B (decide (nth a.Takes x.1.toNat ≠ nth b.Takes x.2.toNat))) := by
  have hra := hWa.rows x.1.toNat (by omega)
  have hrb := hWb.rows x.2.toNat (by omega)
  have hta := hWa.takes
  have htb := hWb.takes
  have hS0 : St H0 NoB NoB [fixE ga (.cells #[c0, vn, vt] 36), fixE gb (.cells #[d0, wn, wt] 36), rdE vn a.Next, rdE vt a.Takes, rdE wn b.Next, rdE wt b.Takes] H0 := St.argFix (St.argFix (St.arg (St.arg (St.arg (St.arg (St.start (fun _ h => h.elim)) (Bl0.nil) st (fun _ h => h)) (Bl0.cons (Bl0.nil)) sw (fun _ h => h)) (Bl0.cons (Bl0.cons (Bl0.nil))) rt (fun _ h => h)) (Bl0.cons (Bl0.cons (Bl0.cons (Bl0.nil)))) rn (fun _ h => h)) (Bl0.cons (Bl0.cons (Bl0.cons (Bl0.cons (Bl0.nil))))) hb (fun h => h)) (Bl0.consF (Bl0.cons (Bl0.cons (Bl0.cons (Bl0.cons (Bl0.nil)))))) ha (fun h => h)
  refine callsH_of_wpF (args := [Value.agg #[I (x.1), I (x.2)], PT ga 0, PT gb 0]) (rs := [.tmp 4]) Try.func63 rfl Try.ntmps63 Try.results63 (by kernel_rfl) (Nat.le_of_ble_eq_true rfl) ?_
  have a0_0 : argF [Value.agg #[I (x.1), I (x.2)], PT ga 0, PT gb 0] 0 = Value.agg #[I (x.1), I (x.2)] := rfl
  have a0_1 : argF [Value.agg #[I (x.1), I (x.2)], PT ga 0, PT gb 0] 1 = PT ga 0 := rfl
  have a0_2 : argF [Value.agg #[I (x.1), I (x.2)], PT ga 0, PT gb 0] 2 = PT gb 0 := rfl
  generalize argF [Value.agg #[I (x.1), I (x.2)], PT ga 0, PT gb 0] = f0 at *
  refine wpF_seq ?_
  refine wpF_cut (fun f H => ∃ (g1 : Nat), f 1 = PT ga 0 ∧ f 2 = PT gb 0 ∧ f 3 = PT g1 0 ∧ St H0 NoB NoB [blkE g1 (.cells #[I (x.1), I (x.2)] 87), fixE ga (.cells #[c0, vn, vt] 36), fixE gb (.cells #[d0, wn, wt] 36), rdE vn a.Next, rdE vt a.Takes, rdE wn b.Next, rdE wt b.Takes] H) ?_ ?_
  · refine wpF_region ?_
    refine wpL_o rfl ?_
    refine e_box (v := Value.agg #[I (x.1), I (x.2)]) rfl a0_0 hS0 (fun g1 H2 hS3 hxx => ?_)
    replace hS3 : St H0 NoB NoB [blkE g1 (.cells #[I (x.1), I (x.2)] 87), fixE ga (.cells #[c0, vn, vt] 36), fixE gb (.cells #[d0, wn, wt] 36), rdE vn a.Next, rdE vt a.Takes, rdE wn b.Next, rdE wt b.Takes] H2 := hS3
    refine wpL_q (U := NoB) rfl (q_assign (v := B (false)) rfl rfl) ?_
    exact ⟨g1, a0_1, a0_2, rfl, hS3⟩
  rintro f4 H4 ⟨g1, a4_1, a4_2, a4_3, hS4⟩
  clear a0_0 a0_1 a0_2
  refine wpF_seq ?_
  refine wpF_cut (fun f H => f 4 = B (decide ((nth a.Takes ((x.1).toNat)) ≠ (nth b.Takes ((x.2).toNat)))) ∧ H4 = H) ?_ ?_
  · refine wpF_drawn [] [] (fun _ _ => False) (by kernel_rfl) (by kernel_rfl) ?_
    refine wpR_q 0 (by kernel_rfl) rfl (quietAt rfl rfl (q_fieldAddr rfl Try.underlying36 rfl Try.sizeOf32 a4_1)) ?_
    refine wpR_q 1 (by kernel_rfl) rfl (quietAt rfl rfl (q_loadBlk rfl rfl Try.isAgg32 (hS4.fixd 1 rfl) rfl (labU_not [] rfl (List.forall_mem_nil _)))) ?_
    refine wpR_q 2 (by kernel_rfl) rfl (quietAt rfl rfl (q_indexAddrA (k := 0) rfl Try.underlying87 Try.sizeOf3 a4_3 rfl rfl (by decide))) ?_
    refine wpR_q 3 (by kernel_rfl) rfl (quietAt rfl rfl (q_loadBlk rfl rfl Try.isAgg3 (hS4.blk 0 rfl) rfl (labU_not [] rfl (List.forall_mem_nil _)))) ?_
    refine wpR_q 4 (by kernel_rfl) rfl (quietAt rfl rfl (q_indexRd (k := (x.1).toNat) rfl Try.underlying32 el_Bool_4_AutoP1 rfl rfl (hS4.rdl 4 rfl) (by omega) (by omega))) ?_
    refine wpR_q 5 (by kernel_rfl) rfl (quietAt rfl rfl (q_loadBool (k := (x.1).toNat) rfl rfl el_Bool_4_AutoP1 (hS4.rdl 4 rfl) (by omega) (labU_sub [] rfl (List.forall_mem_nil _)))) ?_
    refine wpR_q 6 (by kernel_rfl) rfl (quietAt rfl rfl (q_fieldAddr rfl Try.underlying36 rfl Try.sizeOf32 a4_2)) ?_
    refine wpR_q 7 (by kernel_rfl) rfl (quietAt rfl rfl (q_loadBlk rfl rfl Try.isAgg32 (hS4.fixd 2 rfl) rfl (labU_not [] rfl (List.forall_mem_nil _)))) ?_
    refine wpR_q 8 (by kernel_rfl) rfl (quietAt rfl rfl (q_indexAddrA (k := 1) rfl Try.underlying87 Try.sizeOf3 a4_3 rfl rfl (by decide))) ?_
    refine wpR_q 9 (by kernel_rfl) rfl (quietAt rfl rfl (q_loadBlk rfl rfl Try.isAgg3 (hS4.blk 0 rfl) rfl (labU_not [] rfl (List.forall_mem_nil _)))) ?_
    refine wpR_q 10 (by kernel_rfl) rfl (quietAt rfl rfl (q_indexRd (k := (x.2).toNat) rfl Try.underlying32 el_Bool_4_AutoP1 rfl rfl (hS4.rdl 6 rfl) (by omega) (by omega))) ?_
    refine wpR_q 11 (by kernel_rfl) rfl (quietAt rfl rfl (q_loadBool (k := (x.2).toNat) rfl rfl el_Bool_4_AutoP1 (hS4.rdl 6 rfl) (by omega) (labU_sub [] rfl (List.forall_mem_nil _)))) ?_
    refine wpR_q 12 (by kernel_rfl) rfl (quietAt rfl rfl (q_neqB rfl Try.underlying4 rfl rfl)) ?_
    refine wpR_q 13 (by kernel_rfl) rfl (quietAt rfl rfl (q_assign (v := B (decide ((nth a.Takes ((x.1).toNat)) ≠ (nth b.Takes ((x.2).toNat))))) rfl rfl)) ?_
    refine wpR_end (by kernel_rfl) ?_
    exact ⟨rfl, rfl⟩
  rintro f6 _ ⟨a6_4, rfl⟩
  clear a4_1 a4_2 a4_3
  refine wpF_ret ?_
  refine ⟨_, resT a6_4 resN, hS4.frame, ?_⟩
  show (B (decide ((nth a.Takes ((x.1).toNat)) ≠ (nth b.Takes ((x.2).toNat))))) = B (decide (nth a.Takes x.1.toNat ≠ nth b.Takes x.2.toNat))
  rfl

end Go.Um
