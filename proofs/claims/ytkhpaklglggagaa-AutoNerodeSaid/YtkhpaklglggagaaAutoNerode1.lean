import Derived.Test.YtkhpaklglggagaaProg
import Derived.Test.YtkhpaklglggagaaAutoN1
import Derived.Test.YtkhpaklglggagaaAutoL3
import Derived.Test.YtkhpaklglggagaaAutoP5
namespace Go.Um
open Go.Proofs
open GoT (sz ag rdc)
open KeyT (kv)

theorem fl24_AutoNerode1 (a b c d : Int) (w : World) : (Op.equalIn 10000 24 (.agg #[I a, I b]) (.agg #[I c, I d])).run Try.prog w = .ok (decide (a = c ∧ b = d)) w := eq2_run Try.underlying24 Try.underlying3 Try.underlying3 (by decide) (by decide) rfl rfl Try.isAgg3 Try.isAgg3 Try.stoodInHeld24 a b c d w

set_option maxHeartbeats 4000000 in
set_option maxRecDepth 100000 in
theorem AutoNerode_L {H0 : Heap} (vn vt wn wt vl : Value) (a b : Auto) (l : List Int) (rn : Rd NoB H0 vn a.Next) (rt : Rd NoB H0 vt a.Takes) (hsg : In64 a.Signs) (sw : Rd NoB H0 wn b.Next) (st : Rd NoB H0 wt b.Takes) (hsgb : In64 b.Signs) (rl : Rd NoB H0 vl l) : CallsH Try.prog 14 #[Value.agg #[I (a.Signs), vn, vt], Value.agg #[I (b.Signs), wn, wt], vl] H0 (fun rv_ H' => Ext NoB H0 H' ∧ rv_ = B true) := by
  have ga : In64 (leastR a).1.Signs := leastR_sg hsg
  have gb : In64 (leastR b).1.Signs := leastR_sg hsgb
  have hsn := (Rd.list.1 rn).small
  have hsm := (Rd.list.1 sw).small
  have hS0 : St H0 NoB NoB [rdE vn a.Next, rdE vt a.Takes, rdE wn b.Next, rdE wt b.Takes, rdE vl l] H0 := St.arg (St.arg (St.arg (St.arg (St.arg (St.start (fun _ h => h.elim)) (Bl0.nil) rl (fun _ h => h)) (Bl0.cons (Bl0.nil)) st (fun _ h => h)) (Bl0.cons (Bl0.cons (Bl0.nil))) sw (fun _ h => h)) (Bl0.cons (Bl0.cons (Bl0.cons (Bl0.nil)))) rt (fun _ h => h)) (Bl0.cons (Bl0.cons (Bl0.cons (Bl0.cons (Bl0.nil))))) rn (fun _ h => h)
  refine callsH_of_wpF (args := [Value.agg #[I (a.Signs), vn, vt], Value.agg #[I (b.Signs), wn, wt], vl]) (rs := [.tmp 6]) Try.func14 rfl Try.ntmps14 Try.results14 (by kernel_rfl) (Nat.le_of_ble_eq_true rfl) ?_
  have a0_0 : argF [Value.agg #[I (a.Signs), vn, vt], Value.agg #[I (b.Signs), wn, wt], vl] 0 = Value.agg #[I (a.Signs), vn, vt] := rfl
  have a0_1 : argF [Value.agg #[I (a.Signs), vn, vt], Value.agg #[I (b.Signs), wn, wt], vl] 1 = Value.agg #[I (b.Signs), wn, wt] := rfl
  have a0_2 : argF [Value.agg #[I (a.Signs), vn, vt], Value.agg #[I (b.Signs), wn, wt], vl] 2 = vl := rfl
  generalize argF [Value.agg #[I (a.Signs), vn, vt], Value.agg #[I (b.Signs), wn, wt], vl] = f0 at *
  refine wpF_seq ?_
  refine wpF_cut (fun f H => ∃ (g1 : Nat), ∃ (g4 : Nat), f 2 = vl ∧ f 3 = PT g1 0 ∧ f 4 = PT g4 0 ∧ St H0 NoB NoB [blkE g4 (.cells #[I (b.Signs), wn, wt] 36), blkE g1 (.cells #[I (a.Signs), vn, vt] 36), rdE vn a.Next, rdE vt a.Takes, rdE wn b.Next, rdE wt b.Takes, rdE vl l] H) ?_ ?_
  · refine wpF_region ?_
    refine wpL_o rfl ?_
    refine e_box (v := Value.agg #[I (a.Signs), vn, vt]) rfl a0_0 hS0 (fun g1 H2 hS3 hxx => ?_)
    replace hS3 : St H0 NoB NoB [blkE g1 (.cells #[I (a.Signs), vn, vt] 36), rdE vn a.Next, rdE vt a.Takes, rdE wn b.Next, rdE wt b.Takes, rdE vl l] H2 := hS3
    refine wpL_o rfl ?_
    refine e_box (v := Value.agg #[I (b.Signs), wn, wt]) rfl a0_1 hS3 (fun g4 H5 hS6 hxx => ?_)
    replace hS6 : St H0 NoB NoB [blkE g4 (.cells #[I (b.Signs), wn, wt] 36), blkE g1 (.cells #[I (a.Signs), vn, vt] 36), rdE vn a.Next, rdE vt a.Takes, rdE wn b.Next, rdE wt b.Takes, rdE vl l] H5 := hS6
    refine wpL_q (U := NoB) rfl (q_assign (v := B (false)) rfl rfl) ?_
    exact ⟨g1, g4, a0_2, rfl, rfl, hS6⟩
  rintro f7 H7 ⟨g1, g4, a7_2, a7_3, a7_4, hS7⟩
  clear a0_0 a0_1 a0_2
  refine wpF_seq ?_
  refine wpF_cut (fun f H => f 2 = vl ∧ f 3 = PT g1 0 ∧ f 4 = PT g4 0 ∧ f 7 = B (true) ∧ St H0 NoB NoB [blkE g4 (.cells #[I (b.Signs), wn, wt] 36), blkE g1 (.cells #[I (a.Signs), vn, vt] 36), rdE vn a.Next, rdE vt a.Takes, rdE wn b.Next, rdE wt b.Takes, rdE vl l] H) ?_ ?_
  · refine wpF_region ?_
    refine wpL_o rfl ?_
    refine e_call rfl Try.call27 arr0 (autoFact) ?_
    rintro _ H8 ⟨hxx, rfl⟩
    have hS9 : St H0 NoB NoB [blkE g4 (.cells #[I (b.Signs), wn, wt] 36), blkE g1 (.cells #[I (a.Signs), vn, vt] 36), rdE vn a.Next, rdE vt a.Takes, rdE wn b.Next, rdE wt b.Takes, rdE vl l] H8 := hS7.ext hxx
    refine wpL_q (U := NoB) rfl (q_assign (v := B (true)) rfl rfl) ?_
    exact ⟨a7_2, a7_3, a7_4, rfl, hS9⟩
  rintro f11 H11 ⟨a11_2, a11_3, a11_4, a11_7, hS11⟩
  clear a7_2 a7_3 a7_4
  refine wpF_seq ?_
  refine wpF_seq ?_
  refine wpF_cut (fun f H => f 2 = vl ∧ f 3 = PT g1 0 ∧ f 4 = PT g4 0 ∧ f 20 = B (false) ∧ H11 = H) ?_ ?_
  · refine wpF_region ?_
    refine wpL_q (U := NoB) rfl (q_move (v := B (true)) rfl a11_7) ?_
    refine wpL_q (U := NoB) rfl (q_not rfl rfl) ?_
    exact ⟨a11_2, a11_3, a11_4, rfl, rfl⟩
  rintro f12 _ ⟨a12_2, a12_3, a12_4, a12_20, rfl⟩
  clear a11_2 a11_3 a11_4 a11_7
  refine wpF_condF a12_20 ?_
  refine wpF_skip ?_
  refine wpF_seq ?_
  refine wpF_cut (fun f H => ∃ (r13 : Value), ∃ (r14 : Value), ∃ (g18 : Nat), ∃ (g21 : Nat), f 2 = vl ∧ f 3 = PT g1 0 ∧ f 4 = PT g4 0 ∧ f 8 = PT g18 0 ∧ f 9 = PT g21 0 ∧ St H0 NoB NoB [blkE g21 (.cells #[I ((leastR a).2.1), I ((leastR a).2.2)] 24), blkE g18 (.cells #[I ((leastR a).1.Signs), r13, r14] 36), rdE r13 ((leastR a).1.Next), rdE r14 ((leastR a).1.Takes), blkE g4 (.cells #[I (b.Signs), wn, wt] 36), blkE g1 (.cells #[I (a.Signs), vn, vt] 36), rdE vn a.Next, rdE vt a.Takes, rdE wn b.Next, rdE wt b.Takes, rdE vl l] H) ?_ ?_
  · refine wpF_region ?_
    refine wpL_q (U := NoB) rfl (q_loadBlkA rfl a12_3 Try.isAgg36 Try.sizeOf36 rfl (hS11.blk 1 rfl) (fun h => h)) ?_
    refine wpL_o rfl ?_
    refine e_call rfl Try.call40 (arr1 (v0 := Value.agg #[I (a.Signs), vn, vt]) rfl) (Least_L vn vt a (hS11.rdS 2 rfl) (hS11.rdS 3 rfl) hsg) ?_
    rintro _ H15 ⟨hxx, r13, r14, rfl, hrr13, hrr14⟩
    have hS16 : St H0 NoB NoB [rdE r13 ((leastR a).1.Next), rdE r14 ((leastR a).1.Takes), blkE g4 (.cells #[I (b.Signs), wn, wt] 36), blkE g1 (.cells #[I (a.Signs), vn, vt] 36), rdE vn a.Next, rdE vt a.Takes, rdE wn b.Next, rdE wt b.Takes, rdE vl l] H15 := (hS11.res2 hxx hrr13 hrr14)
    refine wpL_q (U := NoB) rfl (q_move (v := Value.tuple #[Value.agg #[I ((leastR a).1.Signs), r13, r14], Value.agg #[I ((leastR a).2.1), I ((leastR a).2.2)]]) rfl rfl) ?_
    refine wpL_q (U := NoB) rfl (q_extract (vs := #[Value.agg #[I ((leastR a).1.Signs), r13, r14], Value.agg #[I ((leastR a).2.1), I ((leastR a).2.2)]]) (v := Value.agg #[I ((leastR a).1.Signs), r13, r14]) rfl rfl rfl) ?_
    refine wpL_q (U := NoB) rfl (q_extract (vs := #[Value.agg #[I ((leastR a).1.Signs), r13, r14], Value.agg #[I ((leastR a).2.1), I ((leastR a).2.2)]]) (v := Value.agg #[I ((leastR a).2.1), I ((leastR a).2.2)]) rfl rfl rfl) ?_
    refine wpL_o rfl ?_
    refine e_alloc rfl Try.zeroValue36 hS16 (fun g18 H19 hS20 hxx => ?_)
    replace hS20 : St H0 NoB NoB [blkE g18 (.cells #[I (0), (Value.slice none 0 0), (Value.slice none 0 0)] 36), rdE r13 ((leastR a).1.Next), rdE r14 ((leastR a).1.Takes), blkE g4 (.cells #[I (b.Signs), wn, wt] 36), blkE g1 (.cells #[I (a.Signs), vn, vt] 36), rdE vn a.Next, rdE vt a.Takes, rdE wn b.Next, rdE wt b.Takes, rdE vl l] H19 := hS20
    refine wpL_o rfl ?_
    refine e_alloc rfl Try.zeroValue24 hS20 (fun g21 H22 hS23 hxx => ?_)
    replace hS23 : St H0 NoB NoB [blkE g21 (.cells #[I (0), I (0)] 24), blkE g18 (.cells #[I (0), (Value.slice none 0 0), (Value.slice none 0 0)] 36), rdE r13 ((leastR a).1.Next), rdE r14 ((leastR a).1.Takes), blkE g4 (.cells #[I (b.Signs), wn, wt] 36), blkE g1 (.cells #[I (a.Signs), vn, vt] 36), rdE vn a.Next, rdE vt a.Takes, rdE wn b.Next, rdE wt b.Takes, rdE vl l] H22 := hS23
    refine wpL_o rfl ?_
    refine e_storeBlkA (cs' := #[I ((leastR a).1.Signs), r13, r14]) rfl rfl rfl Try.sizeOf36 rfl rfl (List.forall_mem_cons.2 ⟨rfl, List.forall_mem_cons.2 ⟨(oneCell_rdL (hS23.rdl 2 rfl)), List.forall_mem_cons.2 ⟨(oneCell_rdL (hS23.rdl 3 rfl)), List.forall_mem_nil _⟩⟩⟩) (hS23.front 1 rfl) (fun H24 hS25 hxx => ?_)
    replace hS25 : St H0 NoB NoB [blkE g18 (.cells #[I ((leastR a).1.Signs), r13, r14] 36), blkE g21 (.cells #[I (0), I (0)] 24), rdE r13 ((leastR a).1.Next), rdE r14 ((leastR a).1.Takes), blkE g4 (.cells #[I (b.Signs), wn, wt] 36), blkE g1 (.cells #[I (a.Signs), vn, vt] 36), rdE vn a.Next, rdE vt a.Takes, rdE wn b.Next, rdE wt b.Takes, rdE vl l] H24 := hS25
    refine wpL_o rfl ?_
    refine e_storeBlkA (cs' := #[I ((leastR a).2.1), I ((leastR a).2.2)]) rfl rfl rfl Try.sizeOf24 rfl rfl (List.forall_mem_cons.2 ⟨rfl, List.forall_mem_cons.2 ⟨rfl, List.forall_mem_nil _⟩⟩) (hS25.front 1 rfl) (fun H26 hS27 hxx => ?_)
    replace hS27 : St H0 NoB NoB [blkE g21 (.cells #[I ((leastR a).2.1), I ((leastR a).2.2)] 24), blkE g18 (.cells #[I ((leastR a).1.Signs), r13, r14] 36), rdE r13 ((leastR a).1.Next), rdE r14 ((leastR a).1.Takes), blkE g4 (.cells #[I (b.Signs), wn, wt] 36), blkE g1 (.cells #[I (a.Signs), vn, vt] 36), rdE vn a.Next, rdE vt a.Takes, rdE wn b.Next, rdE wt b.Takes, rdE vl l] H26 := hS27
    exact ⟨r13, r14, g18, g21, a12_2, a12_3, a12_4, rfl, rfl, hS27⟩
  rintro f28 H28 ⟨r13, r14, g18, g21, a28_2, a28_3, a28_4, a28_8, a28_9, hS28⟩
  clear a12_2 a12_20 a12_3 a12_4
  refine wpF_seq ?_
  refine wpF_cut (fun f H => ∃ (r29 : Value), ∃ (r30 : Value), ∃ (g34 : Nat), ∃ (g37 : Nat), f 2 = vl ∧ f 3 = PT g1 0 ∧ f 4 = PT g4 0 ∧ f 8 = PT g18 0 ∧ f 9 = PT g21 0 ∧ f 10 = PT g34 0 ∧ f 11 = PT g37 0 ∧ St H0 NoB NoB [blkE g37 (.cells #[I ((leastR b).2.1), I ((leastR b).2.2)] 24), blkE g34 (.cells #[I ((leastR b).1.Signs), r29, r30] 36), rdE r29 ((leastR b).1.Next), rdE r30 ((leastR b).1.Takes), blkE g21 (.cells #[I ((leastR a).2.1), I ((leastR a).2.2)] 24), blkE g18 (.cells #[I ((leastR a).1.Signs), r13, r14] 36), rdE r13 ((leastR a).1.Next), rdE r14 ((leastR a).1.Takes), blkE g4 (.cells #[I (b.Signs), wn, wt] 36), blkE g1 (.cells #[I (a.Signs), vn, vt] 36), rdE vn a.Next, rdE vt a.Takes, rdE wn b.Next, rdE wt b.Takes, rdE vl l] H) ?_ ?_
  · refine wpF_region ?_
    refine wpL_q (U := NoB) rfl (q_loadBlkA rfl a28_4 Try.isAgg36 Try.sizeOf36 rfl (hS28.blk 4 rfl) (fun h => h)) ?_
    refine wpL_o rfl ?_
    refine e_call rfl Try.call40 (arr1 (v0 := Value.agg #[I (b.Signs), wn, wt]) rfl) (Least_L wn wt b (hS28.rdS 8 rfl) (hS28.rdS 9 rfl) hsgb) ?_
    rintro _ H31 ⟨hxx, r29, r30, rfl, hrr29, hrr30⟩
    have hS32 : St H0 NoB NoB [rdE r29 ((leastR b).1.Next), rdE r30 ((leastR b).1.Takes), blkE g21 (.cells #[I ((leastR a).2.1), I ((leastR a).2.2)] 24), blkE g18 (.cells #[I ((leastR a).1.Signs), r13, r14] 36), rdE r13 ((leastR a).1.Next), rdE r14 ((leastR a).1.Takes), blkE g4 (.cells #[I (b.Signs), wn, wt] 36), blkE g1 (.cells #[I (a.Signs), vn, vt] 36), rdE vn a.Next, rdE vt a.Takes, rdE wn b.Next, rdE wt b.Takes, rdE vl l] H31 := (hS28.res2 hxx hrr29 hrr30)
    refine wpL_q (U := NoB) rfl (q_move (v := Value.tuple #[Value.agg #[I ((leastR b).1.Signs), r29, r30], Value.agg #[I ((leastR b).2.1), I ((leastR b).2.2)]]) rfl rfl) ?_
    refine wpL_q (U := NoB) rfl (q_extract (vs := #[Value.agg #[I ((leastR b).1.Signs), r29, r30], Value.agg #[I ((leastR b).2.1), I ((leastR b).2.2)]]) (v := Value.agg #[I ((leastR b).1.Signs), r29, r30]) rfl rfl rfl) ?_
    refine wpL_q (U := NoB) rfl (q_extract (vs := #[Value.agg #[I ((leastR b).1.Signs), r29, r30], Value.agg #[I ((leastR b).2.1), I ((leastR b).2.2)]]) (v := Value.agg #[I ((leastR b).2.1), I ((leastR b).2.2)]) rfl rfl rfl) ?_
    refine wpL_o rfl ?_
    refine e_alloc rfl Try.zeroValue36 hS32 (fun g34 H35 hS36 hxx => ?_)
    replace hS36 : St H0 NoB NoB [blkE g34 (.cells #[I (0), (Value.slice none 0 0), (Value.slice none 0 0)] 36), rdE r29 ((leastR b).1.Next), rdE r30 ((leastR b).1.Takes), blkE g21 (.cells #[I ((leastR a).2.1), I ((leastR a).2.2)] 24), blkE g18 (.cells #[I ((leastR a).1.Signs), r13, r14] 36), rdE r13 ((leastR a).1.Next), rdE r14 ((leastR a).1.Takes), blkE g4 (.cells #[I (b.Signs), wn, wt] 36), blkE g1 (.cells #[I (a.Signs), vn, vt] 36), rdE vn a.Next, rdE vt a.Takes, rdE wn b.Next, rdE wt b.Takes, rdE vl l] H35 := hS36
    refine wpL_o rfl ?_
    refine e_alloc rfl Try.zeroValue24 hS36 (fun g37 H38 hS39 hxx => ?_)
    replace hS39 : St H0 NoB NoB [blkE g37 (.cells #[I (0), I (0)] 24), blkE g34 (.cells #[I (0), (Value.slice none 0 0), (Value.slice none 0 0)] 36), rdE r29 ((leastR b).1.Next), rdE r30 ((leastR b).1.Takes), blkE g21 (.cells #[I ((leastR a).2.1), I ((leastR a).2.2)] 24), blkE g18 (.cells #[I ((leastR a).1.Signs), r13, r14] 36), rdE r13 ((leastR a).1.Next), rdE r14 ((leastR a).1.Takes), blkE g4 (.cells #[I (b.Signs), wn, wt] 36), blkE g1 (.cells #[I (a.Signs), vn, vt] 36), rdE vn a.Next, rdE vt a.Takes, rdE wn b.Next, rdE wt b.Takes, rdE vl l] H38 := hS39
    refine wpL_o rfl ?_
    refine e_storeBlkA (cs' := #[I ((leastR b).1.Signs), r29, r30]) rfl rfl rfl Try.sizeOf36 rfl rfl (List.forall_mem_cons.2 ⟨rfl, List.forall_mem_cons.2 ⟨(oneCell_rdL (hS39.rdl 2 rfl)), List.forall_mem_cons.2 ⟨(oneCell_rdL (hS39.rdl 3 rfl)), List.forall_mem_nil _⟩⟩⟩) (hS39.front 1 rfl) (fun H40 hS41 hxx => ?_)
    replace hS41 : St H0 NoB NoB [blkE g34 (.cells #[I ((leastR b).1.Signs), r29, r30] 36), blkE g37 (.cells #[I (0), I (0)] 24), rdE r29 ((leastR b).1.Next), rdE r30 ((leastR b).1.Takes), blkE g21 (.cells #[I ((leastR a).2.1), I ((leastR a).2.2)] 24), blkE g18 (.cells #[I ((leastR a).1.Signs), r13, r14] 36), rdE r13 ((leastR a).1.Next), rdE r14 ((leastR a).1.Takes), blkE g4 (.cells #[I (b.Signs), wn, wt] 36), blkE g1 (.cells #[I (a.Signs), vn, vt] 36), rdE vn a.Next, rdE vt a.Takes, rdE wn b.Next, rdE wt b.Takes, rdE vl l] H40 := hS41
    refine wpL_o rfl ?_
    refine e_storeBlkA (cs' := #[I ((leastR b).2.1), I ((leastR b).2.2)]) rfl rfl rfl Try.sizeOf24 rfl rfl (List.forall_mem_cons.2 ⟨rfl, List.forall_mem_cons.2 ⟨rfl, List.forall_mem_nil _⟩⟩) (hS41.front 1 rfl) (fun H42 hS43 hxx => ?_)
    replace hS43 : St H0 NoB NoB [blkE g37 (.cells #[I ((leastR b).2.1), I ((leastR b).2.2)] 24), blkE g34 (.cells #[I ((leastR b).1.Signs), r29, r30] 36), rdE r29 ((leastR b).1.Next), rdE r30 ((leastR b).1.Takes), blkE g21 (.cells #[I ((leastR a).2.1), I ((leastR a).2.2)] 24), blkE g18 (.cells #[I ((leastR a).1.Signs), r13, r14] 36), rdE r13 ((leastR a).1.Next), rdE r14 ((leastR a).1.Takes), blkE g4 (.cells #[I (b.Signs), wn, wt] 36), blkE g1 (.cells #[I (a.Signs), vn, vt] 36), rdE vn a.Next, rdE vt a.Takes, rdE wn b.Next, rdE wt b.Takes, rdE vl l] H42 := hS43
    exact ⟨r29, r30, g34, g37, a28_2, a28_3, a28_4, a28_8, a28_9, rfl, rfl, hS43⟩
  rintro f44 H44 ⟨r29, r30, g34, g37, a44_2, a44_3, a44_4, a44_8, a44_9, a44_10, a44_11, hS44⟩
  clear a28_2 a28_3 a28_4 a28_8 a28_9
  refine wpF_seq ?_
  refine wpF_seq ?_
  refine wpF_cut (fun f H => f 2 = vl ∧ f 3 = PT g1 0 ∧ f 4 = PT g4 0 ∧ f 8 = PT g18 0 ∧ f 9 = PT g21 0 ∧ f 10 = PT g34 0 ∧ f 38 = B (decide ((((leastR a).2.1) ≠ 0) ∨ (((leastR b).2.1) ≠ 0))) ∧ H44 = H) ?_ ?_
  · refine wpF_region ?_
    refine wpL_q (U := NoB) rfl (q_fieldAddr rfl Try.underlying24 rfl Try.sizeOf3 a44_9) ?_
    refine wpL_q (U := NoB) rfl (q_loadBlk rfl rfl Try.isAgg3 (hS44.blk 4 rfl) rfl (fun h => h)) ?_
    refine wpL_q (U := NoB) rfl (q_neq rfl rfl rfl) ?_
    refine wpL_q (U := NoB) rfl (q_move (v := B (decide (((leastR a).2.1) ≠ 0))) rfl rfl) ?_
    by_cases hg45 : ((leastR a).2.1) ≠ 0
    · have hb46 := Eq.trans rfl (congrArg B (decide_eq_true hg45))
      refine wpL_gs rfl rfl rfl hb46 rfl ?_
      refine wpL_gs rfl rfl rfl hb46 rfl ?_
      refine wpL_gs rfl rfl rfl hb46 rfl ?_
      refine wpL_q (U := NoB) rfl (q_pickT (v := B (true)) rfl hb46 rfl) ?_
      exact ⟨a44_2, a44_3, a44_4, a44_8, a44_9, a44_10, (Eq.trans rfl (congrArg B ((decide_eq_true (Or.inl hg45)).symm))), rfl⟩
    · have hb47 := Eq.trans rfl (congrArg B (decide_eq_false hg45))
      refine wpL_gq (U := NoB) rfl rfl rfl hb47 (q_fieldAddr rfl Try.underlying24 rfl Try.sizeOf3 a44_11) ?_
      refine wpL_gq (U := NoB) rfl rfl rfl hb47 (q_loadBlk rfl rfl Try.isAgg3 (hS44.blk 0 rfl) rfl (fun h => h)) ?_
      refine wpL_gq (U := NoB) rfl rfl rfl hb47 (q_neq rfl rfl rfl) ?_
      refine wpL_q (U := NoB) rfl (q_pickF (v := B (decide (((leastR b).2.1) ≠ 0))) rfl hb47 rfl) ?_
      exact ⟨a44_2, a44_3, a44_4, a44_8, a44_9, a44_10, (Eq.trans rfl (congrArg B (decide_congr_of ((Iff.rfl).trans (((or_iff_right hg45).trans Iff.rfl)).symm)))), rfl⟩
  rintro f48 _ ⟨a48_2, a48_3, a48_4, a48_8, a48_9, a48_10, a48_38, rfl⟩
  clear a44_10 a44_11 a44_2 a44_3 a44_4 a44_8 a44_9
  refine wpF_condP a48_38 (fun h38 => ?t113) (fun h38 => ?e113)
  case t113 =>
    refine wpF_seq ?_
    refine wpF_cut (fun f H => f 6 = B (decide ((((leastR a).2.1) = 0) ∨ ((((leastR a).1.Next).length : Int) = 0))) ∧ H44 = H) ?_ ?_
    · refine wpF_region ?_
      refine wpL_q (U := NoB) rfl (q_fieldAddr rfl Try.underlying24 rfl Try.sizeOf3 a48_9) ?_
      refine wpL_q (U := NoB) rfl (q_loadBlk rfl rfl Try.isAgg3 (hS44.blk 4 rfl) rfl (fun h => h)) ?_
      refine wpL_q (U := NoB) rfl (q_eql rfl rfl rfl) ?_
      refine wpL_q (U := NoB) rfl (q_move (v := B (decide (((leastR a).2.1) = 0))) rfl rfl) ?_
      by_cases hg50 : ((leastR a).2.1) = 0
      · have hb51 := Eq.trans rfl (congrArg B (decide_eq_true hg50))
        refine wpL_gs rfl rfl rfl hb51 rfl ?_
        refine wpL_gs rfl rfl rfl hb51 rfl ?_
        refine wpL_gs rfl rfl rfl hb51 rfl ?_
        refine wpL_gs rfl rfl rfl hb51 rfl ?_
        refine wpL_q (U := NoB) rfl (q_pickT (v := B (true)) rfl hb51 rfl) ?_
        refine wpL_q (U := NoB) rfl (q_assign (v := B (true)) rfl rfl) ?_
        exact ⟨(Eq.trans rfl (congrArg B ((decide_eq_true (Or.inl hg50)).symm))), rfl⟩
      · have hb52 := Eq.trans rfl (congrArg B (decide_eq_false hg50))
        refine wpL_gq (U := NoB) rfl rfl rfl hb52 (q_fieldAddr rfl Try.underlying36 rfl Try.sizeOf27 a48_8) ?_
        refine wpL_gq (U := NoB) rfl rfl rfl hb52 (q_loadBlk rfl rfl Try.isAgg27 (hS44.blk 5 rfl) rfl (fun h => h)) ?_
        refine wpL_gq (U := NoB) rfl rfl rfl hb52 (q_lenRd rfl Try.underlying27 rfl (hS44.rdl 6 rfl)) ?_
        refine wpL_gq (U := NoB) rfl rfl rfl hb52 (q_eql rfl rfl rfl) ?_
        refine wpL_q (U := NoB) rfl (q_pickF (v := B (decide ((((leastR a).1.Next).length : Int) = 0))) rfl hb52 rfl) ?_
        refine wpL_q (U := NoB) rfl (q_assign (v := B (decide ((((leastR a).1.Next).length : Int) = 0))) rfl rfl) ?_
        exact ⟨(Eq.trans rfl (congrArg B (decide_congr_of ((Iff.rfl).trans (((or_iff_right hg50).trans Iff.rfl)).symm)))), rfl⟩
    rintro f53 _ ⟨a53_6, rfl⟩
    clear a48_10 a48_2 a48_3 a48_38 a48_4 a48_8 a48_9
    refine wpF_ret ?_
    refine ⟨_, resT a53_6 resN, hS44.frame, ?_⟩
    show (B (decide ((((leastR a).2.1) = 0) ∨ ((((leastR a).1.Next).length : Int) = 0)))) = B true
    exact congrArg B (decide_eq_true (by by_cases h0 : (leastR a).2.1 = 0; exact .inl h0; exact .inr (by rw [leastR_none h0]; rfl)))
  obtain ⟨hWa, hqa⟩ := leastR_zero (a := a) (Decidable.of_not_not fun h => h38 (.inl h))
  obtain ⟨hWb, hqb⟩ := leastR_zero (a := b) (Decidable.of_not_not fun h => h38 (.inr h))
  obtain ⟨n1, n2, n3, n4, n5, n6, n7⟩ := nerode_law hWa hWb l
  refine wpF_skip ?_
  refine wpF_seq ?_
  refine wpF_seq ?_
  refine wpF_cut (fun f H => f 2 = vl ∧ f 3 = PT g1 0 ∧ f 4 = PT g4 0 ∧ f 8 = PT g18 0 ∧ f 10 = PT g34 0 ∧ f 61 = B (decide (((a.Next.length : Int) < (((leastR a).1.Next).length : Int)) ∨ (((leastR a).1.Signs) ≠ a.Signs))) ∧ H44 = H) ?_ ?_
  · refine wpF_region ?_
    refine wpL_q (U := NoB) rfl (q_fieldAddr rfl Try.underlying36 rfl Try.sizeOf27 a48_8) ?_
    refine wpL_q (U := NoB) rfl (q_loadBlk rfl rfl Try.isAgg27 (hS44.blk 5 rfl) rfl (fun h => h)) ?_
    refine wpL_q (U := NoB) rfl (q_lenRd rfl Try.underlying27 rfl (hS44.rdl 6 rfl)) ?_
    refine wpL_q (U := NoB) rfl (q_fieldAddr rfl Try.underlying36 rfl Try.sizeOf27 a48_3) ?_
    refine wpL_q (U := NoB) rfl (q_loadBlk rfl rfl Try.isAgg27 (hS44.blk 9 rfl) rfl (fun h => h)) ?_
    refine wpL_q (U := NoB) rfl (q_lenRd rfl Try.underlying27 rfl (hS44.rdl 10 rfl)) ?_
    refine wpL_q (U := NoB) rfl (q_gtr rfl rfl rfl) ?_
    refine wpL_q (U := NoB) rfl (q_move (v := B (decide ((a.Next.length : Int) < (((leastR a).1.Next).length : Int)))) rfl rfl) ?_
    by_cases hg54 : (a.Next.length : Int) < (((leastR a).1.Next).length : Int)
    · have hb55 := Eq.trans rfl (congrArg B (decide_eq_true hg54))
      refine wpL_gs rfl rfl rfl hb55 rfl ?_
      refine wpL_gs rfl rfl rfl hb55 rfl ?_
      refine wpL_gs rfl rfl rfl hb55 rfl ?_
      refine wpL_gs rfl rfl rfl hb55 rfl ?_
      refine wpL_gs rfl rfl rfl hb55 rfl ?_
      refine wpL_q (U := NoB) rfl (q_pickT (v := B (true)) rfl hb55 rfl) ?_
      exact ⟨a48_2, a48_3, a48_4, a48_8, a48_10, (Eq.trans rfl (congrArg B ((decide_eq_true (Or.inl hg54)).symm))), rfl⟩
    · have hb56 := Eq.trans rfl (congrArg B (decide_eq_false hg54))
      refine wpL_gq (U := NoB) rfl rfl rfl hb56 (q_fieldAddr rfl Try.underlying36 rfl Try.sizeOf3 a48_8) ?_
      refine wpL_gq (U := NoB) rfl rfl rfl hb56 (q_loadBlk rfl rfl Try.isAgg3 (hS44.blk 5 rfl) rfl (fun h => h)) ?_
      refine wpL_gq (U := NoB) rfl rfl rfl hb56 (q_fieldAddr rfl Try.underlying36 rfl Try.sizeOf3 a48_3) ?_
      refine wpL_gq (U := NoB) rfl rfl rfl hb56 (q_loadBlk rfl rfl Try.isAgg3 (hS44.blk 9 rfl) rfl (fun h => h)) ?_
      refine wpL_gq (U := NoB) rfl rfl rfl hb56 (q_neq rfl rfl rfl) ?_
      refine wpL_q (U := NoB) rfl (q_pickF (v := B (decide (((leastR a).1.Signs) ≠ a.Signs))) rfl hb56 rfl) ?_
      exact ⟨a48_2, a48_3, a48_4, a48_8, a48_10, (Eq.trans rfl (congrArg B (decide_congr_of ((Iff.rfl).trans (((or_iff_right hg54).trans Iff.rfl)).symm)))), rfl⟩
  rintro f57 _ ⟨a57_2, a57_3, a57_4, a57_8, a57_10, a57_61, rfl⟩
  clear a48_10 a48_2 a48_3 a48_38 a48_4 a48_8 a48_9
  refine wpF_condP a57_61 (fun h61 => ?t112) (fun h61 => ?e112)
  case t112 =>
    refine wpF_seq ?_
    refine wpF_cut (fun f H => f 6 = B (false) ∧ H44 = H) ?_ ?_
    · refine wpF_region ?_
      refine wpL_q (U := NoB) rfl (q_assign (v := B (false)) rfl rfl) ?_
      exact ⟨rfl, rfl⟩
    rintro f59 _ ⟨a59_6, rfl⟩
    clear a57_10 a57_2 a57_3 a57_4 a57_61 a57_8
    refine wpF_ret ?_
    refine ⟨_, resT a59_6 resN, hS44.frame, ?_⟩
    show (B (false)) = B true
    exfalso
    rw [hqa] at h61
    dsimp only at h61
    rcases h61 with h | h
    · omega
    · exact h n2
  refine wpF_skip ?_
  refine wpF_seq ?_
  refine wpF_cut (fun f H => ∃ (g63 : Nat), f 2 = vl ∧ f 3 = PT g1 0 ∧ f 4 = PT g4 0 ∧ f 8 = PT g18 0 ∧ f 10 = PT g34 0 ∧ f 12 = B ((autoTakes a l).1) ∧ f 13 = PT g63 0 ∧ St H0 NoB NoB [blkE g63 (.cells #[I ((autoTakes a l).2.1), I ((autoTakes a l).2.2)] 24), blkE g37 (.cells #[I ((leastR b).2.1), I ((leastR b).2.2)] 24), blkE g34 (.cells #[I ((leastR b).1.Signs), r29, r30] 36), rdE r29 ((leastR b).1.Next), rdE r30 ((leastR b).1.Takes), blkE g21 (.cells #[I ((leastR a).2.1), I ((leastR a).2.2)] 24), blkE g18 (.cells #[I ((leastR a).1.Signs), r13, r14] 36), rdE r13 ((leastR a).1.Next), rdE r14 ((leastR a).1.Takes), blkE g4 (.cells #[I (b.Signs), wn, wt] 36), blkE g1 (.cells #[I (a.Signs), vn, vt] 36), rdE vn a.Next, rdE vt a.Takes, rdE wn b.Next, rdE wt b.Takes, rdE vl l] H) ?_ ?_
  · refine wpF_region ?_
    refine wpL_q (U := NoB) rfl (q_loadBlkA rfl a57_3 Try.isAgg36 Try.sizeOf36 rfl (hS44.blk 9 rfl) (fun h => h)) ?_
    refine wpL_q (U := NoB) rfl (q_move (v := vl) rfl a57_2) ?_
    refine wpL_o rfl ?_
    refine e_call rfl Try.call24 (arr2 (v0 := Value.agg #[I (a.Signs), vn, vt]) (v1 := vl) rfl rfl) (Takes vn vt vl a l (hS44.rdN 10 rfl) (hS44.rdN 11 rfl) hsg (hS44.rdN 14 rfl)) ?_
    rintro _ H60 ⟨hxx, rfl⟩
    have hS61 : St H0 NoB NoB [blkE g37 (.cells #[I ((leastR b).2.1), I ((leastR b).2.2)] 24), blkE g34 (.cells #[I ((leastR b).1.Signs), r29, r30] 36), rdE r29 ((leastR b).1.Next), rdE r30 ((leastR b).1.Takes), blkE g21 (.cells #[I ((leastR a).2.1), I ((leastR a).2.2)] 24), blkE g18 (.cells #[I ((leastR a).1.Signs), r13, r14] 36), rdE r13 ((leastR a).1.Next), rdE r14 ((leastR a).1.Takes), blkE g4 (.cells #[I (b.Signs), wn, wt] 36), blkE g1 (.cells #[I (a.Signs), vn, vt] 36), rdE vn a.Next, rdE vt a.Takes, rdE wn b.Next, rdE wt b.Takes, rdE vl l] H60 := hS44.ext hxx
    refine wpL_q (U := NoB) rfl (q_move (v := Value.tuple #[B ((autoTakes a l).1), Value.agg #[I ((autoTakes a l).2.1), I ((autoTakes a l).2.2)]]) rfl rfl) ?_
    refine wpL_q (U := NoB) rfl (q_extract (vs := #[B ((autoTakes a l).1), Value.agg #[I ((autoTakes a l).2.1), I ((autoTakes a l).2.2)]]) (v := B ((autoTakes a l).1)) rfl rfl rfl) ?_
    refine wpL_q (U := NoB) rfl (q_extract (vs := #[B ((autoTakes a l).1), Value.agg #[I ((autoTakes a l).2.1), I ((autoTakes a l).2.2)]]) (v := Value.agg #[I ((autoTakes a l).2.1), I ((autoTakes a l).2.2)]) rfl rfl rfl) ?_
    refine wpL_o rfl ?_
    refine e_alloc rfl Try.zeroValue24 hS61 (fun g63 H64 hS65 hxx => ?_)
    replace hS65 : St H0 NoB NoB [blkE g63 (.cells #[I (0), I (0)] 24), blkE g37 (.cells #[I ((leastR b).2.1), I ((leastR b).2.2)] 24), blkE g34 (.cells #[I ((leastR b).1.Signs), r29, r30] 36), rdE r29 ((leastR b).1.Next), rdE r30 ((leastR b).1.Takes), blkE g21 (.cells #[I ((leastR a).2.1), I ((leastR a).2.2)] 24), blkE g18 (.cells #[I ((leastR a).1.Signs), r13, r14] 36), rdE r13 ((leastR a).1.Next), rdE r14 ((leastR a).1.Takes), blkE g4 (.cells #[I (b.Signs), wn, wt] 36), blkE g1 (.cells #[I (a.Signs), vn, vt] 36), rdE vn a.Next, rdE vt a.Takes, rdE wn b.Next, rdE wt b.Takes, rdE vl l] H64 := hS65
    refine wpL_q (U := NoB) rfl (q_assign (v := B ((autoTakes a l).1)) rfl rfl) ?_
    refine wpL_o rfl ?_
    refine e_storeBlkA (cs' := #[I ((autoTakes a l).2.1), I ((autoTakes a l).2.2)]) rfl rfl rfl Try.sizeOf24 rfl rfl (List.forall_mem_cons.2 ⟨rfl, List.forall_mem_cons.2 ⟨rfl, List.forall_mem_nil _⟩⟩) hS65 (fun H66 hS67 hxx => ?_)
    replace hS67 : St H0 NoB NoB [blkE g63 (.cells #[I ((autoTakes a l).2.1), I ((autoTakes a l).2.2)] 24), blkE g37 (.cells #[I ((leastR b).2.1), I ((leastR b).2.2)] 24), blkE g34 (.cells #[I ((leastR b).1.Signs), r29, r30] 36), rdE r29 ((leastR b).1.Next), rdE r30 ((leastR b).1.Takes), blkE g21 (.cells #[I ((leastR a).2.1), I ((leastR a).2.2)] 24), blkE g18 (.cells #[I ((leastR a).1.Signs), r13, r14] 36), rdE r13 ((leastR a).1.Next), rdE r14 ((leastR a).1.Takes), blkE g4 (.cells #[I (b.Signs), wn, wt] 36), blkE g1 (.cells #[I (a.Signs), vn, vt] 36), rdE vn a.Next, rdE vt a.Takes, rdE wn b.Next, rdE wt b.Takes, rdE vl l] H66 := hS67
    exact ⟨g63, a57_2, a57_3, a57_4, a57_8, a57_10, rfl, rfl, hS67⟩
  rintro f68 H68 ⟨g63, a68_2, a68_3, a68_4, a68_8, a68_10, a68_12, a68_13, hS68⟩
  clear a57_10 a57_2 a57_3 a57_4 a57_61 a57_8
  refine wpF_seq ?_
  refine wpF_cut (fun f H => ∃ (g72 : Nat), f 3 = PT g1 0 ∧ f 4 = PT g4 0 ∧ f 8 = PT g18 0 ∧ f 10 = PT g34 0 ∧ f 12 = B ((autoTakes a l).1) ∧ f 13 = PT g63 0 ∧ f 14 = B ((autoTakes (leastR a).1 l).1) ∧ f 15 = PT g72 0 ∧ St H0 NoB NoB [blkE g72 (.cells #[I ((autoTakes (leastR a).1 l).2.1), I ((autoTakes (leastR a).1 l).2.2)] 24), blkE g63 (.cells #[I ((autoTakes a l).2.1), I ((autoTakes a l).2.2)] 24), blkE g37 (.cells #[I ((leastR b).2.1), I ((leastR b).2.2)] 24), blkE g34 (.cells #[I ((leastR b).1.Signs), r29, r30] 36), rdE r29 ((leastR b).1.Next), rdE r30 ((leastR b).1.Takes), blkE g21 (.cells #[I ((leastR a).2.1), I ((leastR a).2.2)] 24), blkE g18 (.cells #[I ((leastR a).1.Signs), r13, r14] 36), rdE r13 ((leastR a).1.Next), rdE r14 ((leastR a).1.Takes), blkE g4 (.cells #[I (b.Signs), wn, wt] 36), blkE g1 (.cells #[I (a.Signs), vn, vt] 36), rdE vn a.Next, rdE vt a.Takes, rdE wn b.Next, rdE wt b.Takes, rdE vl l] H) ?_ ?_
  · refine wpF_region ?_
    refine wpL_q (U := NoB) rfl (q_loadBlkA rfl a68_8 Try.isAgg36 Try.sizeOf36 rfl (hS68.blk 6 rfl) (fun h => h)) ?_
    refine wpL_q (U := NoB) rfl (q_move (v := vl) rfl a68_2) ?_
    refine wpL_o rfl ?_
    refine e_call rfl Try.call24 (arr2 (v0 := Value.agg #[I ((leastR a).1.Signs), r13, r14]) (v1 := vl) rfl rfl) (Takes r13 r14 vl (leastR a).1 l (hS68.rdN 7 rfl) (hS68.rdN 8 rfl) (by assumption) (hS68.rdN 15 rfl)) ?_
    rintro _ H69 ⟨hxx, rfl⟩
    have hS70 : St H0 NoB NoB [blkE g63 (.cells #[I ((autoTakes a l).2.1), I ((autoTakes a l).2.2)] 24), blkE g37 (.cells #[I ((leastR b).2.1), I ((leastR b).2.2)] 24), blkE g34 (.cells #[I ((leastR b).1.Signs), r29, r30] 36), rdE r29 ((leastR b).1.Next), rdE r30 ((leastR b).1.Takes), blkE g21 (.cells #[I ((leastR a).2.1), I ((leastR a).2.2)] 24), blkE g18 (.cells #[I ((leastR a).1.Signs), r13, r14] 36), rdE r13 ((leastR a).1.Next), rdE r14 ((leastR a).1.Takes), blkE g4 (.cells #[I (b.Signs), wn, wt] 36), blkE g1 (.cells #[I (a.Signs), vn, vt] 36), rdE vn a.Next, rdE vt a.Takes, rdE wn b.Next, rdE wt b.Takes, rdE vl l] H69 := hS68.ext hxx
    refine wpL_q (U := NoB) rfl (q_move (v := Value.tuple #[B ((autoTakes (leastR a).1 l).1), Value.agg #[I ((autoTakes (leastR a).1 l).2.1), I ((autoTakes (leastR a).1 l).2.2)]]) rfl rfl) ?_
    refine wpL_q (U := NoB) rfl (q_extract (vs := #[B ((autoTakes (leastR a).1 l).1), Value.agg #[I ((autoTakes (leastR a).1 l).2.1), I ((autoTakes (leastR a).1 l).2.2)]]) (v := B ((autoTakes (leastR a).1 l).1)) rfl rfl rfl) ?_
    refine wpL_q (U := NoB) rfl (q_extract (vs := #[B ((autoTakes (leastR a).1 l).1), Value.agg #[I ((autoTakes (leastR a).1 l).2.1), I ((autoTakes (leastR a).1 l).2.2)]]) (v := Value.agg #[I ((autoTakes (leastR a).1 l).2.1), I ((autoTakes (leastR a).1 l).2.2)]) rfl rfl rfl) ?_
    refine wpL_o rfl ?_
    refine e_alloc rfl Try.zeroValue24 hS70 (fun g72 H73 hS74 hxx => ?_)
    replace hS74 : St H0 NoB NoB [blkE g72 (.cells #[I (0), I (0)] 24), blkE g63 (.cells #[I ((autoTakes a l).2.1), I ((autoTakes a l).2.2)] 24), blkE g37 (.cells #[I ((leastR b).2.1), I ((leastR b).2.2)] 24), blkE g34 (.cells #[I ((leastR b).1.Signs), r29, r30] 36), rdE r29 ((leastR b).1.Next), rdE r30 ((leastR b).1.Takes), blkE g21 (.cells #[I ((leastR a).2.1), I ((leastR a).2.2)] 24), blkE g18 (.cells #[I ((leastR a).1.Signs), r13, r14] 36), rdE r13 ((leastR a).1.Next), rdE r14 ((leastR a).1.Takes), blkE g4 (.cells #[I (b.Signs), wn, wt] 36), blkE g1 (.cells #[I (a.Signs), vn, vt] 36), rdE vn a.Next, rdE vt a.Takes, rdE wn b.Next, rdE wt b.Takes, rdE vl l] H73 := hS74
    refine wpL_q (U := NoB) rfl (q_assign (v := B ((autoTakes (leastR a).1 l).1)) rfl rfl) ?_
    refine wpL_o rfl ?_
    refine e_storeBlkA (cs' := #[I ((autoTakes (leastR a).1 l).2.1), I ((autoTakes (leastR a).1 l).2.2)]) rfl rfl rfl Try.sizeOf24 rfl rfl (List.forall_mem_cons.2 ⟨rfl, List.forall_mem_cons.2 ⟨rfl, List.forall_mem_nil _⟩⟩) hS74 (fun H75 hS76 hxx => ?_)
    replace hS76 : St H0 NoB NoB [blkE g72 (.cells #[I ((autoTakes (leastR a).1 l).2.1), I ((autoTakes (leastR a).1 l).2.2)] 24), blkE g63 (.cells #[I ((autoTakes a l).2.1), I ((autoTakes a l).2.2)] 24), blkE g37 (.cells #[I ((leastR b).2.1), I ((leastR b).2.2)] 24), blkE g34 (.cells #[I ((leastR b).1.Signs), r29, r30] 36), rdE r29 ((leastR b).1.Next), rdE r30 ((leastR b).1.Takes), blkE g21 (.cells #[I ((leastR a).2.1), I ((leastR a).2.2)] 24), blkE g18 (.cells #[I ((leastR a).1.Signs), r13, r14] 36), rdE r13 ((leastR a).1.Next), rdE r14 ((leastR a).1.Takes), blkE g4 (.cells #[I (b.Signs), wn, wt] 36), blkE g1 (.cells #[I (a.Signs), vn, vt] 36), rdE vn a.Next, rdE vt a.Takes, rdE wn b.Next, rdE wt b.Takes, rdE vl l] H75 := hS76
    exact ⟨g72, a68_3, a68_4, a68_8, a68_10, a68_12, a68_13, rfl, rfl, hS76⟩
  rintro f77 H77 ⟨g72, a77_3, a77_4, a77_8, a77_10, a77_12, a77_13, a77_14, a77_15, hS77⟩
  clear a68_10 a68_12 a68_13 a68_2 a68_3 a68_4 a68_8
  refine wpF_seq ?_
  refine wpF_seq ?_
  refine wpF_cut (fun f H => f 3 = PT g1 0 ∧ f 4 = PT g4 0 ∧ f 8 = PT g18 0 ∧ f 10 = PT g34 0 ∧ f 13 = PT g63 0 ∧ f 81 = B (decide ((¬ (((autoTakes a l).2.1) = ((autoTakes (leastR a).1 l).2.1) ∧ ((autoTakes a l).2.2) = ((autoTakes (leastR a).1 l).2.2))) ∨ (((autoTakes a l).1) ≠ ((autoTakes (leastR a).1 l).1)))) ∧ H77 = H) ?_ ?_
  · refine wpF_region ?_
    refine wpL_q (U := NoB) rfl (q_loadBlkA rfl a77_13 Try.isAgg24 Try.sizeOf24 rfl (hS77.blk 1 rfl) (fun h => h)) ?_
    refine wpL_q (U := NoB) rfl (q_loadBlkA rfl a77_15 Try.isAgg24 Try.sizeOf24 rfl (hS77.blk 0 rfl) (fun h => h)) ?_
    refine wpL_q (U := NoB) rfl (q_neqF2 rfl Try.eqGuardType24 (fl24_AutoNerode1 _ _ _ _) rfl rfl) ?_
    refine wpL_q (U := NoB) rfl (q_move (v := B (decide (¬ (((autoTakes a l).2.1) = ((autoTakes (leastR a).1 l).2.1) ∧ ((autoTakes a l).2.2) = ((autoTakes (leastR a).1 l).2.2))))) rfl rfl) ?_
    by_cases hg78 : ¬ (((autoTakes a l).2.1) = ((autoTakes (leastR a).1 l).2.1) ∧ ((autoTakes a l).2.2) = ((autoTakes (leastR a).1 l).2.2))
    · have hb79 := Eq.trans rfl (congrArg B (decide_eq_true hg78))
      refine wpL_gs rfl rfl rfl hb79 rfl ?_
      refine wpL_gs rfl rfl rfl hb79 rfl ?_
      refine wpL_gs rfl rfl rfl hb79 rfl ?_
      refine wpL_q (U := NoB) rfl (q_pickT (v := B (true)) rfl hb79 rfl) ?_
      exact ⟨a77_3, a77_4, a77_8, a77_10, a77_13, (Eq.trans rfl (congrArg B ((decide_eq_true (Or.inl hg78)).symm))), rfl⟩
    · have hb80 := Eq.trans rfl (congrArg B (decide_eq_false hg78))
      refine wpL_gq (U := NoB) rfl rfl rfl hb80 (q_move (v := B ((autoTakes a l).1)) rfl a77_12) ?_
      refine wpL_gq (U := NoB) rfl rfl rfl hb80 (q_move (v := B ((autoTakes (leastR a).1 l).1)) rfl a77_14) ?_
      refine wpL_gq (U := NoB) rfl rfl rfl hb80 (q_neqB rfl Try.underlying4 rfl rfl) ?_
      refine wpL_q (U := NoB) rfl (q_pickF (v := B (decide (((autoTakes a l).1) ≠ ((autoTakes (leastR a).1 l).1)))) rfl hb80 rfl) ?_
      exact ⟨a77_3, a77_4, a77_8, a77_10, a77_13, (Eq.trans rfl (congrArg B (decide_congr_of ((Iff.rfl).trans (((or_iff_right hg78).trans Iff.rfl)).symm)))), rfl⟩
  rintro f81 _ ⟨a81_3, a81_4, a81_8, a81_10, a81_13, a81_81, rfl⟩
  clear a77_10 a77_12 a77_13 a77_14 a77_15 a77_3 a77_4 a77_8
  refine wpF_condP a81_81 (fun h81 => ?t111) (fun h81 => ?e111)
  case t111 =>
    refine wpF_seq ?_
    refine wpF_cut (fun f H => f 6 = B (false) ∧ H77 = H) ?_ ?_
    · refine wpF_region ?_
      refine wpL_q (U := NoB) rfl (q_assign (v := B (false)) rfl rfl) ?_
      exact ⟨rfl, rfl⟩
    rintro f83 _ ⟨a83_6, rfl⟩
    clear a81_10 a81_13 a81_3 a81_4 a81_8 a81_81
    refine wpF_ret ?_
    refine ⟨_, resT a83_6 resN, hS77.frame, ?_⟩
    show (B (false)) = B true
    exfalso
    rw [hqa] at h81
    simp [n3] at h81
  refine wpF_skip ?_
  refine wpF_seq ?_
  refine wpF_cut (fun f H => f 3 = PT g1 0 ∧ f 8 = PT g18 0 ∧ f 10 = PT g34 0 ∧ f 13 = PT g63 0 ∧ f 16 = B (sameR a b) ∧ St H0 NoB NoB [blkE g63 (.cells #[I ((pairFault a b).1), I ((pairFault a b).2)] 24), blkE g72 (.cells #[I ((autoTakes (leastR a).1 l).2.1), I ((autoTakes (leastR a).1 l).2.2)] 24), blkE g37 (.cells #[I ((leastR b).2.1), I ((leastR b).2.2)] 24), blkE g34 (.cells #[I ((leastR b).1.Signs), r29, r30] 36), rdE r29 ((leastR b).1.Next), rdE r30 ((leastR b).1.Takes), blkE g21 (.cells #[I ((leastR a).2.1), I ((leastR a).2.2)] 24), blkE g18 (.cells #[I ((leastR a).1.Signs), r13, r14] 36), rdE r13 ((leastR a).1.Next), rdE r14 ((leastR a).1.Takes), blkE g4 (.cells #[I (b.Signs), wn, wt] 36), blkE g1 (.cells #[I (a.Signs), vn, vt] 36), rdE vn a.Next, rdE vt a.Takes, rdE wn b.Next, rdE wt b.Takes, rdE vl l] H) ?_ ?_
  · refine wpF_region ?_
    refine wpL_q (U := NoB) rfl (q_loadBlkA rfl a81_3 Try.isAgg36 Try.sizeOf36 rfl (hS77.blk 11 rfl) (fun h => h)) ?_
    refine wpL_q (U := NoB) rfl (q_loadBlkA rfl a81_4 Try.isAgg36 Try.sizeOf36 rfl (hS77.blk 10 rfl) (fun h => h)) ?_
    refine wpL_o rfl ?_
    refine e_call rfl Try.call35 (arr2 (v0 := Value.agg #[I (a.Signs), vn, vt]) (v1 := Value.agg #[I (b.Signs), wn, wt]) rfl rfl) (Same_L vn vt wn wt a b (hS77.rdN 12 rfl) (hS77.rdN 13 rfl) hsg (hS77.rdN 14 rfl) (hS77.rdN 15 rfl) hsgb) ?_
    rintro _ H84 ⟨hxx, rfl⟩
    have hS85 : St H0 NoB NoB [blkE g72 (.cells #[I ((autoTakes (leastR a).1 l).2.1), I ((autoTakes (leastR a).1 l).2.2)] 24), blkE g63 (.cells #[I ((autoTakes a l).2.1), I ((autoTakes a l).2.2)] 24), blkE g37 (.cells #[I ((leastR b).2.1), I ((leastR b).2.2)] 24), blkE g34 (.cells #[I ((leastR b).1.Signs), r29, r30] 36), rdE r29 ((leastR b).1.Next), rdE r30 ((leastR b).1.Takes), blkE g21 (.cells #[I ((leastR a).2.1), I ((leastR a).2.2)] 24), blkE g18 (.cells #[I ((leastR a).1.Signs), r13, r14] 36), rdE r13 ((leastR a).1.Next), rdE r14 ((leastR a).1.Takes), blkE g4 (.cells #[I (b.Signs), wn, wt] 36), blkE g1 (.cells #[I (a.Signs), vn, vt] 36), rdE vn a.Next, rdE vt a.Takes, rdE wn b.Next, rdE wt b.Takes, rdE vl l] H84 := hS77.ext hxx
    refine wpL_q (U := NoB) rfl (q_move (v := Value.tuple #[B (sameR a b), Value.agg #[I ((pairFault a b).1), I ((pairFault a b).2)]]) rfl rfl) ?_
    refine wpL_q (U := NoB) rfl (q_extract (vs := #[B (sameR a b), Value.agg #[I ((pairFault a b).1), I ((pairFault a b).2)]]) (v := B (sameR a b)) rfl rfl rfl) ?_
    refine wpL_q (U := NoB) rfl (q_extract (vs := #[B (sameR a b), Value.agg #[I ((pairFault a b).1), I ((pairFault a b).2)]]) (v := Value.agg #[I ((pairFault a b).1), I ((pairFault a b).2)]) rfl rfl rfl) ?_
    refine wpL_q (U := NoB) rfl (q_assign (v := B (sameR a b)) rfl rfl) ?_
    refine wpL_o rfl ?_
    refine e_storeBlkA (cs' := #[I ((pairFault a b).1), I ((pairFault a b).2)]) rfl a81_13 rfl Try.sizeOf24 rfl rfl (List.forall_mem_cons.2 ⟨rfl, List.forall_mem_cons.2 ⟨rfl, List.forall_mem_nil _⟩⟩) (hS85.front 1 rfl) (fun H87 hS88 hxx => ?_)
    replace hS88 : St H0 NoB NoB [blkE g63 (.cells #[I ((pairFault a b).1), I ((pairFault a b).2)] 24), blkE g72 (.cells #[I ((autoTakes (leastR a).1 l).2.1), I ((autoTakes (leastR a).1 l).2.2)] 24), blkE g37 (.cells #[I ((leastR b).2.1), I ((leastR b).2.2)] 24), blkE g34 (.cells #[I ((leastR b).1.Signs), r29, r30] 36), rdE r29 ((leastR b).1.Next), rdE r30 ((leastR b).1.Takes), blkE g21 (.cells #[I ((leastR a).2.1), I ((leastR a).2.2)] 24), blkE g18 (.cells #[I ((leastR a).1.Signs), r13, r14] 36), rdE r13 ((leastR a).1.Next), rdE r14 ((leastR a).1.Takes), blkE g4 (.cells #[I (b.Signs), wn, wt] 36), blkE g1 (.cells #[I (a.Signs), vn, vt] 36), rdE vn a.Next, rdE vt a.Takes, rdE wn b.Next, rdE wt b.Takes, rdE vl l] H87 := hS88
    exact ⟨a81_3, a81_8, a81_10, a81_13, rfl, hS88⟩
  rintro f89 H89 ⟨a89_3, a89_8, a89_10, a89_13, a89_16, hS89⟩
  clear a81_10 a81_13 a81_3 a81_4 a81_8 a81_81
  refine wpF_seq ?_
  refine wpF_seq ?_
  refine wpF_cut (fun f H => f 3 = PT g1 0 ∧ f 8 = PT g18 0 ∧ f 10 = PT g34 0 ∧ f 13 = PT g63 0 ∧ f 16 = B (sameR a b) ∧ f 90 = B (decide (((pairFault a b).1) ≠ 0)) ∧ H89 = H) ?_ ?_
  · refine wpF_region ?_
    refine wpL_q (U := NoB) rfl (q_fieldAddr rfl Try.underlying24 rfl Try.sizeOf3 a89_13) ?_
    refine wpL_q (U := NoB) rfl (q_loadBlk rfl rfl Try.isAgg3 (hS89.blk 0 rfl) rfl (fun h => h)) ?_
    refine wpL_q (U := NoB) rfl (q_neq rfl rfl rfl) ?_
    exact ⟨a89_3, a89_8, a89_10, a89_13, a89_16, rfl, rfl⟩
  rintro f90 _ ⟨a90_3, a90_8, a90_10, a90_13, a90_16, a90_90, rfl⟩
  clear a89_10 a89_13 a89_16 a89_3 a89_8
  refine wpF_condP a90_90 (fun h90 => ?t110) (fun h90 => ?e110)
  case t110 =>
    refine wpF_seq ?_
    refine wpF_cut (fun f H => f 6 = B (decide (((pairFault a b).1) = 11 ∧ ((pairFault a b).2) = (-1))) ∧ St H0 NoB NoB [blkE g63 (.cells #[I ((pairFault a b).1), I ((pairFault a b).2)] 24), blkE g72 (.cells #[I ((autoTakes (leastR a).1 l).2.1), I ((autoTakes (leastR a).1 l).2.2)] 24), blkE g37 (.cells #[I ((leastR b).2.1), I ((leastR b).2.2)] 24), blkE g34 (.cells #[I ((leastR b).1.Signs), r29, r30] 36), rdE r29 ((leastR b).1.Next), rdE r30 ((leastR b).1.Takes), blkE g21 (.cells #[I ((leastR a).2.1), I ((leastR a).2.2)] 24), blkE g18 (.cells #[I ((leastR a).1.Signs), r13, r14] 36), rdE r13 ((leastR a).1.Next), rdE r14 ((leastR a).1.Takes), blkE g4 (.cells #[I (b.Signs), wn, wt] 36), blkE g1 (.cells #[I (a.Signs), vn, vt] 36), rdE vn a.Next, rdE vt a.Takes, rdE wn b.Next, rdE wt b.Takes, rdE vl l] H) ?_ ?_
    · refine wpF_drawn [] [] (fun _ _ => False) (by kernel_rfl) (by kernel_rfl) ?_
      refine wpR_q 0 (by kernel_rfl) rfl (quietAt rfl rfl (q_loadBlkA rfl a90_13 Try.isAgg24 Try.sizeOf24 rfl (hS89.blk 0 rfl) (labU_not [] rfl (List.forall_mem_nil _)))) ?_
      refine wpR_n [1] (by kernel_rfl) ?_
      refine List.forall_mem_cons.2 ⟨?_, List.forall_mem_nil _⟩
      refine exE rfl rfl ?_
      refine e_call rfl Try.call15 (arr2 (v0 := I (11)) (v1 := I (-1)) rfl rfl) (fault_L 11 (-1)) ?_
      rintro _ H92o1 ⟨hxx, rfl⟩
      have hS92o1 : St H0 NoB NoB [blkE g63 (.cells #[I ((pairFault a b).1), I ((pairFault a b).2)] 24), blkE g72 (.cells #[I ((autoTakes (leastR a).1 l).2.1), I ((autoTakes (leastR a).1 l).2.2)] 24), blkE g37 (.cells #[I ((leastR b).2.1), I ((leastR b).2.2)] 24), blkE g34 (.cells #[I ((leastR b).1.Signs), r29, r30] 36), rdE r29 ((leastR b).1.Next), rdE r30 ((leastR b).1.Takes), blkE g21 (.cells #[I ((leastR a).2.1), I ((leastR a).2.2)] 24), blkE g18 (.cells #[I ((leastR a).1.Signs), r13, r14] 36), rdE r13 ((leastR a).1.Next), rdE r14 ((leastR a).1.Takes), blkE g4 (.cells #[I (b.Signs), wn, wt] 36), blkE g1 (.cells #[I (a.Signs), vn, vt] 36), rdE vn a.Next, rdE vt a.Takes, rdE wn b.Next, rdE wt b.Takes, rdE vl l] H92o1 := hS89.ext hxx
      refine ⟨Ext.mono hxx (fun _ h => h.elim), ?_⟩
      refine wpR_q 2 (by kernel_rfl) rfl (quietAt rfl rfl (q_eqlF2 rfl Try.eqGuardType24 (fl24_AutoNerode1 _ _ _ _) rfl rfl)) ?_
      refine wpR_q 3 (by kernel_rfl) rfl (quietAt rfl rfl (q_assign (v := B (decide (((pairFault a b).1) = 11 ∧ ((pairFault a b).2) = (-1)))) rfl rfl)) ?_
      refine wpR_end (by kernel_rfl) ?_
      exact ⟨rfl, hS92o1⟩
    rintro f93 H93 ⟨a93_6, hS93⟩
    clear a90_10 a90_13 a90_16 a90_3 a90_8 a90_90
    refine wpF_ret ?_
    refine ⟨_, resT a93_6 resN, hS93.frame, ?_⟩
    show (B (decide (((pairFault a b).1) = 11 ∧ ((pairFault a b).2) = (-1)))) = B true
    exact congrArg B (decide_eq_true (by rw [n6 h90]; simp))
  refine wpF_skip ?_
  refine wpF_seq ?_
  refine wpF_cut (fun f H => f 8 = PT g18 0 ∧ f 10 = PT g34 0 ∧ f 13 = PT g63 0 ∧ f 16 = B (sameR a b) ∧ f 17 = B (sameR a (leastR a).1) ∧ St H0 NoB NoB [blkE g63 (.cells #[I ((pairFault a (leastR a).1).1), I ((pairFault a (leastR a).1).2)] 24), blkE g72 (.cells #[I ((autoTakes (leastR a).1 l).2.1), I ((autoTakes (leastR a).1 l).2.2)] 24), blkE g37 (.cells #[I ((leastR b).2.1), I ((leastR b).2.2)] 24), blkE g34 (.cells #[I ((leastR b).1.Signs), r29, r30] 36), rdE r29 ((leastR b).1.Next), rdE r30 ((leastR b).1.Takes), blkE g21 (.cells #[I ((leastR a).2.1), I ((leastR a).2.2)] 24), blkE g18 (.cells #[I ((leastR a).1.Signs), r13, r14] 36), rdE r13 ((leastR a).1.Next), rdE r14 ((leastR a).1.Takes), blkE g4 (.cells #[I (b.Signs), wn, wt] 36), blkE g1 (.cells #[I (a.Signs), vn, vt] 36), rdE vn a.Next, rdE vt a.Takes, rdE wn b.Next, rdE wt b.Takes, rdE vl l] H) ?_ ?_
  · refine wpF_region ?_
    refine wpL_q (U := NoB) rfl (q_loadBlkA rfl a90_3 Try.isAgg36 Try.sizeOf36 rfl (hS89.blk 11 rfl) (fun h => h)) ?_
    refine wpL_q (U := NoB) rfl (q_loadBlkA rfl a90_8 Try.isAgg36 Try.sizeOf36 rfl (hS89.blk 7 rfl) (fun h => h)) ?_
    refine wpL_o rfl ?_
    refine e_call rfl Try.call35 (arr2 (v0 := Value.agg #[I (a.Signs), vn, vt]) (v1 := Value.agg #[I ((leastR a).1.Signs), r13, r14]) rfl rfl) (Same_L vn vt r13 r14 a (leastR a).1 (hS89.rdN 12 rfl) (hS89.rdN 13 rfl) hsg (hS89.rdN 8 rfl) (hS89.rdN 9 rfl) (by assumption)) ?_
    rintro _ H94 ⟨hxx, rfl⟩
    have hS95 : St H0 NoB NoB [blkE g63 (.cells #[I ((pairFault a b).1), I ((pairFault a b).2)] 24), blkE g72 (.cells #[I ((autoTakes (leastR a).1 l).2.1), I ((autoTakes (leastR a).1 l).2.2)] 24), blkE g37 (.cells #[I ((leastR b).2.1), I ((leastR b).2.2)] 24), blkE g34 (.cells #[I ((leastR b).1.Signs), r29, r30] 36), rdE r29 ((leastR b).1.Next), rdE r30 ((leastR b).1.Takes), blkE g21 (.cells #[I ((leastR a).2.1), I ((leastR a).2.2)] 24), blkE g18 (.cells #[I ((leastR a).1.Signs), r13, r14] 36), rdE r13 ((leastR a).1.Next), rdE r14 ((leastR a).1.Takes), blkE g4 (.cells #[I (b.Signs), wn, wt] 36), blkE g1 (.cells #[I (a.Signs), vn, vt] 36), rdE vn a.Next, rdE vt a.Takes, rdE wn b.Next, rdE wt b.Takes, rdE vl l] H94 := hS89.ext hxx
    refine wpL_q (U := NoB) rfl (q_move (v := Value.tuple #[B (sameR a (leastR a).1), Value.agg #[I ((pairFault a (leastR a).1).1), I ((pairFault a (leastR a).1).2)]]) rfl rfl) ?_
    refine wpL_q (U := NoB) rfl (q_extract (vs := #[B (sameR a (leastR a).1), Value.agg #[I ((pairFault a (leastR a).1).1), I ((pairFault a (leastR a).1).2)]]) (v := B (sameR a (leastR a).1)) rfl rfl rfl) ?_
    refine wpL_q (U := NoB) rfl (q_extract (vs := #[B (sameR a (leastR a).1), Value.agg #[I ((pairFault a (leastR a).1).1), I ((pairFault a (leastR a).1).2)]]) (v := Value.agg #[I ((pairFault a (leastR a).1).1), I ((pairFault a (leastR a).1).2)]) rfl rfl rfl) ?_
    refine wpL_q (U := NoB) rfl (q_assign (v := B (sameR a (leastR a).1)) rfl rfl) ?_
    refine wpL_o rfl ?_
    refine e_storeBlkA (cs' := #[I ((pairFault a (leastR a).1).1), I ((pairFault a (leastR a).1).2)]) rfl a90_13 rfl Try.sizeOf24 rfl rfl (List.forall_mem_cons.2 ⟨rfl, List.forall_mem_cons.2 ⟨rfl, List.forall_mem_nil _⟩⟩) hS95 (fun H97 hS98 hxx => ?_)
    replace hS98 : St H0 NoB NoB [blkE g63 (.cells #[I ((pairFault a (leastR a).1).1), I ((pairFault a (leastR a).1).2)] 24), blkE g72 (.cells #[I ((autoTakes (leastR a).1 l).2.1), I ((autoTakes (leastR a).1 l).2.2)] 24), blkE g37 (.cells #[I ((leastR b).2.1), I ((leastR b).2.2)] 24), blkE g34 (.cells #[I ((leastR b).1.Signs), r29, r30] 36), rdE r29 ((leastR b).1.Next), rdE r30 ((leastR b).1.Takes), blkE g21 (.cells #[I ((leastR a).2.1), I ((leastR a).2.2)] 24), blkE g18 (.cells #[I ((leastR a).1.Signs), r13, r14] 36), rdE r13 ((leastR a).1.Next), rdE r14 ((leastR a).1.Takes), blkE g4 (.cells #[I (b.Signs), wn, wt] 36), blkE g1 (.cells #[I (a.Signs), vn, vt] 36), rdE vn a.Next, rdE vt a.Takes, rdE wn b.Next, rdE wt b.Takes, rdE vl l] H97 := hS98
    exact ⟨a90_8, a90_10, a90_13, a90_16, rfl, hS98⟩
  rintro f99 H99 ⟨a99_8, a99_10, a99_13, a99_16, a99_17, hS99⟩
  clear a90_10 a90_13 a90_16 a90_3 a90_8 a90_90
  refine wpF_seq ?_
  refine wpF_cut (fun f H => f 6 = B (decide (((((pairFault a (leastR a).1).1) = 0) ∧ ((sameR a (leastR a).1) = true)) ∧ ((sameR a b) = (decide ((leastR a).1 = (leastR b).1))))) ∧ St H0 NoB NoB [blkE g63 (.cells #[I ((pairFault a (leastR a).1).1), I ((pairFault a (leastR a).1).2)] 24), blkE g72 (.cells #[I ((autoTakes (leastR a).1 l).2.1), I ((autoTakes (leastR a).1 l).2.2)] 24), blkE g37 (.cells #[I ((leastR b).2.1), I ((leastR b).2.2)] 24), blkE g34 (.cells #[I ((leastR b).1.Signs), r29, r30] 36), rdE r29 ((leastR b).1.Next), rdE r30 ((leastR b).1.Takes), blkE g21 (.cells #[I ((leastR a).2.1), I ((leastR a).2.2)] 24), blkE g18 (.cells #[I ((leastR a).1.Signs), r13, r14] 36), rdE r13 ((leastR a).1.Next), rdE r14 ((leastR a).1.Takes), blkE g4 (.cells #[I (b.Signs), wn, wt] 36), blkE g1 (.cells #[I (a.Signs), vn, vt] 36), rdE vn a.Next, rdE vt a.Takes, rdE wn b.Next, rdE wt b.Takes, rdE vl l] H) ?_ ?_
  · refine wpF_region ?_
    refine wpL_q (U := NoB) rfl (q_fieldAddr rfl Try.underlying24 rfl Try.sizeOf3 a99_13) ?_
    refine wpL_q (U := NoB) rfl (q_loadBlk rfl rfl Try.isAgg3 (hS99.blk 0 rfl) rfl (fun h => h)) ?_
    refine wpL_q (U := NoB) rfl (q_eql rfl rfl rfl) ?_
    refine wpL_q (U := NoB) rfl (q_move (v := B (decide (((pairFault a (leastR a).1).1) = 0))) rfl rfl) ?_
    by_cases hg100 : ((pairFault a (leastR a).1).1) = 0
    · have hb101 := Eq.trans rfl (congrArg B (decide_eq_true hg100))
      refine wpL_gq (U := NoB) rfl rfl rfl hb101 (q_move (v := B (sameR a (leastR a).1)) rfl a99_17) ?_
      refine wpL_q (U := NoB) rfl (q_pickT (v := B (sameR a (leastR a).1)) rfl hb101 rfl) ?_
      refine wpL_q (U := NoB) rfl (q_move (v := B (sameR a (leastR a).1)) rfl rfl) ?_
      by_cases hg103 : (sameR a (leastR a).1) = true
      · have hb104 := Eq.trans rfl (congrArg B hg103)
        refine wpL_gq (U := NoB) rfl rfl rfl hb104 (q_move (v := B (sameR a b)) rfl a99_16) ?_
        refine wpL_gq (U := NoB) rfl rfl rfl hb104 (q_loadBlkA rfl a99_8 Try.isAgg36 Try.sizeOf36 rfl (hS99.blk 7 rfl) (fun h => h)) ?_
        refine wpL_gq (U := NoB) rfl rfl rfl hb104 (q_loadBlkA rfl a99_10 Try.isAgg36 Try.sizeOf36 rfl (hS99.blk 3 rfl) (fun h => h)) ?_
        refine wpL_go rfl rfl rfl hb104 ?_
        refine e_call rfl Try.call36 (arr2 (v0 := Value.agg #[I ((leastR a).1.Signs), r13, r14]) (v1 := Value.agg #[I ((leastR b).1.Signs), r29, r30]) rfl rfl) (SameAuto_R r13 r14 r29 r30 (leastR a).1 (leastR b).1 (hS99.rdN 8 rfl) (hS99.rdN 9 rfl) (by assumption) (hS99.rdN 4 rfl) (hS99.rdN 5 rfl) (by assumption)) ?_
        rintro _ H106 ⟨hxx, rfl⟩
        have hS107 : St H0 NoB NoB [blkE g63 (.cells #[I ((pairFault a (leastR a).1).1), I ((pairFault a (leastR a).1).2)] 24), blkE g72 (.cells #[I ((autoTakes (leastR a).1 l).2.1), I ((autoTakes (leastR a).1 l).2.2)] 24), blkE g37 (.cells #[I ((leastR b).2.1), I ((leastR b).2.2)] 24), blkE g34 (.cells #[I ((leastR b).1.Signs), r29, r30] 36), rdE r29 ((leastR b).1.Next), rdE r30 ((leastR b).1.Takes), blkE g21 (.cells #[I ((leastR a).2.1), I ((leastR a).2.2)] 24), blkE g18 (.cells #[I ((leastR a).1.Signs), r13, r14] 36), rdE r13 ((leastR a).1.Next), rdE r14 ((leastR a).1.Takes), blkE g4 (.cells #[I (b.Signs), wn, wt] 36), blkE g1 (.cells #[I (a.Signs), vn, vt] 36), rdE vn a.Next, rdE vt a.Takes, rdE wn b.Next, rdE wt b.Takes, rdE vl l] H106 := hS99.ext hxx
        refine wpL_gq (U := NoB) rfl rfl rfl hb104 (q_eqlB rfl Try.underlying4 rfl rfl) ?_
        refine wpL_q (U := NoB) rfl (q_pickT (v := B (decide ((sameR a b) = (decide ((leastR a).1 = (leastR b).1))))) rfl hb104 rfl) ?_
        refine wpL_q (U := NoB) rfl (q_assign (v := B (decide ((sameR a b) = (decide ((leastR a).1 = (leastR b).1))))) rfl rfl) ?_
        exact ⟨(Eq.trans rfl (congrArg B (decide_congr_of ((Iff.rfl).trans (((and_iff_right ⟨hg100, hg103⟩).trans Iff.rfl)).symm)))), hS107⟩
      · have hb105 := Eq.trans rfl (congrArg B (Bool.eq_false_iff.2 hg103))
        refine wpL_gs rfl rfl rfl hb105 rfl ?_
        refine wpL_gs rfl rfl rfl hb105 rfl ?_
        refine wpL_gs rfl rfl rfl hb105 rfl ?_
        refine wpL_gs rfl rfl rfl hb105 rfl ?_
        refine wpL_gs rfl rfl rfl hb105 rfl ?_
        refine wpL_q (U := NoB) rfl (q_pickF (v := B (false)) rfl hb105 rfl) ?_
        refine wpL_q (U := NoB) rfl (q_assign (v := B (false)) rfl rfl) ?_
        exact ⟨(Eq.trans rfl (congrArg B ((decide_eq_false (fun h => (fun h => hg103 h.2) h.1)).symm))), hS99⟩
    · have hb102 := Eq.trans rfl (congrArg B (decide_eq_false hg100))
      refine wpL_gs rfl rfl rfl hb102 rfl ?_
      refine wpL_q (U := NoB) rfl (q_pickF (v := B (false)) rfl hb102 rfl) ?_
      refine wpL_q (U := NoB) rfl (q_move (v := B (false)) rfl rfl) ?_
      refine wpL_gs rfl rfl rfl rfl rfl ?_
      refine wpL_gs rfl rfl rfl rfl rfl ?_
      refine wpL_gs rfl rfl rfl rfl rfl ?_
      refine wpL_gs rfl rfl rfl rfl rfl ?_
      refine wpL_gs rfl rfl rfl rfl rfl ?_
      refine wpL_q (U := NoB) rfl (q_pickF (v := B (false)) rfl rfl rfl) ?_
      refine wpL_q (U := NoB) rfl (q_assign (v := B (false)) rfl rfl) ?_
      exact ⟨(Eq.trans rfl (congrArg B ((decide_eq_false (fun h => (fun h => hg100 h.1) h.1)).symm))), hS99⟩
  rintro f109 H109 ⟨a109_6, hS109⟩
  clear a99_10 a99_13 a99_16 a99_17 a99_8
  refine wpF_ret ?_
  refine ⟨_, resT a109_6 resN, hS109.frame, ?_⟩
  show (B (decide (((((pairFault a (leastR a).1).1) = 0) ∧ ((sameR a (leastR a).1) = true)) ∧ ((sameR a b) = (decide ((leastR a).1 = (leastR b).1)))))) = B true
  exact congrArg B (decide_eq_true (by rw [hqa, hqb, n4, n5, n7 h90]; simp))

end Go.Um
