import Derived.Test.YtkhpaklglggagaaProg
import Derived.Test.YtkhpaklglggagaaAutoP4
import Derived.Test.YtkhpaklglggagaaUmSub
namespace Go.Um
open Go.Proofs
open GoT (sz ag rdc)
open KeyT (kv)

theorem el_IntInt_87_AutoP5 : ElT Try.prog (Int × Int) 87 := ⟨Try.isAgg87, Try.sizeOf87⟩

set_option maxRecDepth 100000 in
theorem IndexFuncP {H0 : Heap} (vs vf : Value) (l : List (Int × Int)) (gp : Int × Int → Bool) (rs : Rd NoB H0 vs l) (hf : ∀ x, x ∈ l → ∀ H, Ext NoB H0 H → FnH Try.prog vf #[Value.agg #[I x.1, I x.2]] H (fun rv H' => Ext NoB H H' ∧ rv = B (gp x))) : CallsH Try.prog 77 #[vs, vf] H0 (fun rv_ H' => Ext NoB H0 H' ∧ rv_ = I (idxOf gp l)) := by
  have hsm := (Rd.list.1 rs).small
  have hS0 : St H0 NoB NoB [rdE vs l] H0 := St.arg (St.start (fun _ h => h.elim)) (Bl0.nil) rs (fun _ h => h)
  refine callsH_of_wpF (args := [vs, vf]) (rs := [.tmp 4]) Try.func77 rfl Try.ntmps77 Try.results77 (by kernel_rfl) (Nat.le_of_ble_eq_true rfl) ?_
  have a0_0 : argF [vs, vf] 0 = vs := rfl
  have a0_1 : argF [vs, vf] 1 = vf := rfl
  generalize argF [vs, vf] = f0 at *
  refine wpF_seq ?_
  refine wpF_cut (fun f H => f 0 = vs ∧ f 1 = vf ∧ H0 = H) ?_ ?_
  · refine wpF_region ?_
    refine wpL_q (U := NoB) rfl (q_assign (v := I (0)) rfl rfl) ?_
    exact ⟨a0_0, a0_1, rfl⟩
  rintro f1 _ ⟨a1_0, a1_1, rfl⟩
  clear a0_0 a0_1
  refine wpF_seq ?_
  refine wpF_seq ?_
  refine wpF_cut (fun f H => f 0 = vs ∧ f 1 = vf ∧ f 7 = I ((l.length : Int)) ∧ f 8 = I (0) ∧ H0 = H) ?_ ?_
  · refine wpF_region ?_
    refine wpL_q (U := NoB) rfl (q_move (v := vs) rfl a1_0) ?_
    refine wpL_q (U := NoB) rfl (q_lenRd rfl Try.underlying83 rfl (hS0.rdl 0 rfl)) ?_
    refine wpL_q (U := NoB) rfl (q_move (v := I (0)) rfl rfl) ?_
    exact ⟨a1_0, a1_1, rfl, rfl, rfl⟩
  rintro f2 _ ⟨a2_0, a2_1, a2_7, a2_8, rfl⟩
  clear a1_0 a1_1
  refine wpF_block ?_
  refine wpF_loop (fun mz f H => ∃ (k : Nat), mz = l.length - k ∧ (k ≤ l.length) ∧ (∀ j, j < k → gp (nth l j) = false) ∧ f 0 = vs ∧ f 1 = vf ∧ f 7 = I ((l.length : Int)) ∧ f 8 = I ((k : Int)) ∧ St H0 NoB NoB [rdE vs l] H) (l.length - 0) ?_ ?_
  · exact ⟨0, rfl, Nat.zero_le _, (fun j hj => absurd hj (Nat.not_lt_zero j)), a2_0, a2_1, a2_7, (Eq.trans a2_8 (congrArg I (by omega))), hS0⟩
  intro m3 f3 H3 hI3
  obtain ⟨k, hm3, hk, hno, a3_0, a3_1, a3_7, a3_8, hS3⟩ := hI3
  clear a2_0 a2_1 a2_7 a2_8
  refine wpF_seq ?_
  refine wpF_cut (fun f H => f 0 = vs ∧ f 1 = vf ∧ f 7 = I ((l.length : Int)) ∧ f 8 = I ((k : Int)) ∧ f 9 = B (decide ((k : Int) < (l.length : Int))) ∧ H3 = H) ?_ ?_
  · refine wpF_region ?_
    refine wpL_q (U := NoB) rfl (q_lss rfl a3_8 a3_7) ?_
    exact ⟨a3_0, a3_1, a3_7, a3_8, rfl, rfl⟩
  rintro f4 _ ⟨a4_0, a4_1, a4_7, a4_8, a4_9, rfl⟩
  clear a3_0 a3_1 a3_7 a3_8
  refine wpF_seq ?_
  refine wpF_condP a4_9 (fun hlt => ?t17) (fun hlt => ?e17)
  case e17 =>
    refine wpF_exit ?_
    refine atX_here ?_
    refine wpF_seq ?_
    refine wpF_cut (fun f H => f 4 = I (-1) ∧ H3 = H) ?_ ?_
    · refine wpF_region ?_
      refine wpL_q (U := NoB) rfl (q_assign (v := I (-1)) rfl rfl) ?_
      exact ⟨rfl, rfl⟩
    rintro f16 _ ⟨a16_4, rfl⟩
    clear a4_0 a4_1 a4_7 a4_8 a4_9
    refine wpF_ret ?_
    refine ⟨_, resT a16_4 resN, hS3.frame, ?_⟩
    show (I (-1)) = I (idxOf gp l)
    exact congrArg I (idxOf_no fun j hj => hno j (by omega)).symm
  refine wpF_skip ?_
  refine wpF_seq ?_
  refine wpF_block ?_
  refine wpF_seq ?_
  refine wpF_cut (fun f H => f 0 = vs ∧ f 1 = vf ∧ f 5 = I ((k : Int)) ∧ f 7 = I ((l.length : Int)) ∧ f 8 = I ((k : Int)) ∧ H3 = H) ?_ ?_
  · refine wpF_region ?_
    refine wpL_q (U := NoB) rfl (q_move (v := I ((k : Int))) rfl a4_8) ?_
    refine wpL_q (U := NoB) rfl (q_assign (v := I ((k : Int))) rfl rfl) ?_
    exact ⟨a4_0, a4_1, rfl, a4_7, a4_8, rfl⟩
  rintro f6 _ ⟨a6_0, a6_1, a6_5, a6_7, a6_8, rfl⟩
  clear a4_0 a4_1 a4_7 a4_8 a4_9
  refine wpF_seq ?_
  refine wpF_cut (fun f H => (In64 (nth l k).1) ∧ (In64 (nth l k).2) ∧ f 0 = vs ∧ f 1 = vf ∧ f 5 = I ((k : Int)) ∧ f 7 = I ((l.length : Int)) ∧ f 8 = I ((k : Int)) ∧ f 16 = B (gp ((nth l k))) ∧ St H0 NoB NoB [rdE vs l] H) ?_ ?_
  · refine wpF_region ?_
    refine wpL_q (U := NoB) rfl (q_move (v := vf) rfl a6_1) ?_
    refine wpL_q (U := NoB) rfl (q_move (v := vs) rfl a6_0) ?_
    refine wpL_q (U := NoB) rfl (q_move (v := I ((k : Int))) rfl a6_5) ?_
    refine wpL_q (U := NoB) rfl (q_indexRd (k := k) rfl Try.underlying83 el_IntInt_87_AutoP5 rfl rfl (hS3.rdl 0 rfl) (by omega) (by omega)) ?_
    obtain ⟨u7, huu7, hlu7⟩ := (Rd.list.1 (hS3.rdS 0 rfl)).elem k (by omega)
    obtain ⟨rfl, hu70, hu71⟩ := Rd.pair.1 huu7
    refine wpL_q (U := NoB) rfl (q_loadE rfl rfl (hlu7 Try.prog 87 _ el_IntInt_87_AutoP5 (fun _ h => False.elim h))) ?_
    refine wpL_o rfl ?_
    refine e_callF rfl rfl (arr1 (v0 := Value.agg #[I ((nth l k).1), I ((nth l k).2)]) rfl) (hf _ (nth_mem (by omega)) _ hS3.frame) ?_
    rintro _ H8 ⟨hxx, rfl⟩
    have hS9 : St H0 NoB NoB [rdE vs l] H8 := hS3.ext hxx
    exact ⟨hu70, hu71, a6_0, a6_1, a6_5, a6_7, a6_8, rfl, hS9⟩
  rintro f11 H11 ⟨hu70, hu71, a11_0, a11_1, a11_5, a11_7, a11_8, a11_16, hS11⟩
  clear a6_0 a6_1 a6_5 a6_7 a6_8
  refine wpF_cond a11_16 (fun hg => ?t15) (fun hg => ?e15)
  case e15 =>
    refine wpF_skip ?_
    refine wpF_cut (fun f H => f 0 = vs ∧ f 1 = vf ∧ f 7 = I ((l.length : Int)) ∧ f 8 = I ((k : Int) + 1) ∧ H11 = H) ?_ ?_
    · refine wpF_region ?_
      refine wpL_q (U := NoB) rfl (q_add rfl a11_8 rfl (by constructor <;> omega)) ?_
      refine wpL_q (U := NoB) rfl (q_move (v := I ((k : Int) + 1)) rfl rfl) ?_
      exact ⟨a11_0, a11_1, a11_7, rfl, rfl⟩
    rintro f14 _ ⟨a14_0, a14_1, a14_7, a14_8, rfl⟩
    clear a11_0 a11_1 a11_16 a11_5 a11_7 a11_8
    refine ⟨_, ?_, k + 1, rfl, (by omega), (all_succ hno (by simpa using hg)), a14_0, a14_1, a14_7, (Eq.trans a14_8 (congrArg I (by omega))), hS11⟩
    omega
  refine wpF_seq ?_
  refine wpF_cut (fun f H => f 4 = I ((k : Int)) ∧ H11 = H) ?_ ?_
  · refine wpF_region ?_
    refine wpL_q (U := NoB) rfl (q_move (v := I ((k : Int))) rfl a11_5) ?_
    refine wpL_q (U := NoB) rfl (q_assign (v := I ((k : Int))) rfl rfl) ?_
    exact ⟨rfl, rfl⟩
  rintro f13 _ ⟨a13_4, rfl⟩
  clear a11_0 a11_1 a11_16 a11_5 a11_7 a11_8
  refine wpF_ret ?_
  refine ⟨_, resT a13_4 resN, hS11.frame, ?_⟩
  show (I ((k : Int))) = I (idxOf gp l)
  exact congrArg I (idxOf_at (by omega) hno (by simpa using hg)).symm

set_option maxRecDepth 100000 in
theorem ContainsFuncP {H0 : Heap} (vs vf : Value) (l : List (Int × Int)) (gp : Int × Int → Bool) (rs : Rd NoB H0 vs l) (hf : ∀ x, x ∈ l → ∀ H, Ext NoB H0 H → FnH Try.prog vf #[Value.agg #[I x.1, I x.2]] H (fun rv H' => Ext NoB H H' ∧ rv = B (gp x))) : CallsH Try.prog 62 #[vs, vf] H0 (fun rv_ H' => Ext NoB H0 H' ∧ rv_ = B (l.any gp)) := by
  have hS0 : St H0 NoB NoB [rdE vs l] H0 := St.arg (St.start (fun _ h => h.elim)) (Bl0.nil) rs (fun _ h => h)
  refine callsH_of_wpF (args := [vs, vf]) (rs := [.tmp 4]) Try.func62 rfl Try.ntmps62 Try.results62 (by kernel_rfl) (Nat.le_of_ble_eq_true rfl) ?_
  have a0_0 : argF [vs, vf] 0 = vs := rfl
  have a0_1 : argF [vs, vf] 1 = vf := rfl
  generalize argF [vs, vf] = f0 at *
  refine wpF_seq ?_
  refine wpF_cut (fun f H => f 0 = vs ∧ f 1 = vf ∧ H0 = H) ?_ ?_
  · refine wpF_region ?_
    refine wpL_q (U := NoB) rfl (q_assign (v := B (false)) rfl rfl) ?_
    exact ⟨a0_0, a0_1, rfl⟩
  rintro f1 _ ⟨a1_0, a1_1, rfl⟩
  clear a0_0 a0_1
  refine wpF_seq ?_
  refine wpF_cut (fun f H => f 4 = B (decide (0 ≤ (idxOf gp l))) ∧ St H0 NoB NoB [] H) ?_ ?_
  · refine wpF_region ?_
    refine wpL_q (U := NoB) rfl (q_move (v := vs) rfl a1_0) ?_
    refine wpL_q (U := NoB) rfl (q_move (v := vf) rfl a1_1) ?_
    refine wpL_o rfl ?_
    refine e_call rfl Try.call77 (arr2 (v0 := vs) (v1 := vf) rfl rfl) (IndexFuncP vs vf l gp (hS0.rdN 0 rfl) (fun x hx H hE => hf x hx H (hS0.frame.trans hE))) ?_
    rintro _ H2 ⟨hxx, rfl⟩
    have hS3 : St H0 NoB NoB [rdE vs l] H2 := hS0.ext hxx
    refine wpL_q (U := NoB) rfl (q_geq rfl rfl rfl) ?_
    refine wpL_q (U := NoB) rfl (q_assign (v := B (decide (0 ≤ (idxOf gp l)))) rfl rfl) ?_
    exact ⟨rfl, (hS3.drop (sn (List.Sublist.slnil)))⟩
  rintro f5 H5 ⟨a5_4, hS5⟩
  clear a1_0 a1_1
  refine wpF_ret ?_
  refine ⟨_, resT a5_4 resN, hS5.frame, ?_⟩
  show (B (decide (0 ≤ (idxOf gp l)))) = B (l.any gp)
  exact congrArg B (bool_congr_of idxOf_any.symm).symm

set_option maxRecDepth 100000 in
theorem Same_L {H0 : Heap} (vn vt wn wt : Value) (a b : Auto) (rn : Rd NoB H0 vn a.Next) (rt : Rd NoB H0 vt a.Takes) (hsg : In64 a.Signs) (sw : Rd NoB H0 wn b.Next) (st : Rd NoB H0 wt b.Takes) (hsgb : In64 b.Signs) : CallsH Try.prog 35 #[Value.agg #[I (a.Signs), vn, vt], Value.agg #[I (b.Signs), wn, wt]] H0 (fun rv_ H' => Ext NoB H0 H' ∧ rv_ = Value.tuple #[B (sameR a b), Value.agg #[I (pairFault a b).1, I (pairFault a b).2]]) := by
  have hS0 : St H0 NoB NoB [rdE vn a.Next, rdE vt a.Takes, rdE wn b.Next, rdE wt b.Takes] H0 := St.arg (St.arg (St.arg (St.arg (St.start (fun _ h => h.elim)) (Bl0.nil) st (fun _ h => h)) (Bl0.cons (Bl0.nil)) sw (fun _ h => h)) (Bl0.cons (Bl0.cons (Bl0.nil))) rt (fun _ h => h)) (Bl0.cons (Bl0.cons (Bl0.cons (Bl0.nil)))) rn (fun _ h => h)
  refine callsH_of_wpF (args := [Value.agg #[I (a.Signs), vn, vt], Value.agg #[I (b.Signs), wn, wt]]) (rs := [.tmp 4, .cell 5 24]) Try.func35 rfl Try.ntmps35 Try.results35 (by kernel_rfl) (Nat.le_of_ble_eq_true rfl) ?_
  have a0_0 : argF [Value.agg #[I (a.Signs), vn, vt], Value.agg #[I (b.Signs), wn, wt]] 0 = Value.agg #[I (a.Signs), vn, vt] := rfl
  have a0_1 : argF [Value.agg #[I (a.Signs), vn, vt], Value.agg #[I (b.Signs), wn, wt]] 1 = Value.agg #[I (b.Signs), wn, wt] := rfl
  generalize argF [Value.agg #[I (a.Signs), vn, vt], Value.agg #[I (b.Signs), wn, wt]] = f0 at *
  refine wpF_seq ?_
  refine wpF_cut (fun f H => ∃ (g1 : Nat), ∃ (g4 : Nat), ∃ (g7 : Nat), f 2 = PT g1 0 ∧ f 3 = PT g4 0 ∧ f 5 = PT g7 0 ∧ St H0 NoB NoB [blkE g7 (.cells #[I (0), I (0)] 24), blkE g4 (.cells #[I (b.Signs), wn, wt] 36), blkE g1 (.cells #[I (a.Signs), vn, vt] 36), rdE vn a.Next, rdE vt a.Takes, rdE wn b.Next, rdE wt b.Takes] H) ?_ ?_
  · refine wpF_region ?_
    refine wpL_o rfl ?_
    refine e_box (v := Value.agg #[I (a.Signs), vn, vt]) rfl a0_0 hS0 (fun g1 H2 hS3 hxx => ?_)
    replace hS3 : St H0 NoB NoB [blkE g1 (.cells #[I (a.Signs), vn, vt] 36), rdE vn a.Next, rdE vt a.Takes, rdE wn b.Next, rdE wt b.Takes] H2 := hS3
    refine wpL_o rfl ?_
    refine e_box (v := Value.agg #[I (b.Signs), wn, wt]) rfl a0_1 hS3 (fun g4 H5 hS6 hxx => ?_)
    replace hS6 : St H0 NoB NoB [blkE g4 (.cells #[I (b.Signs), wn, wt] 36), blkE g1 (.cells #[I (a.Signs), vn, vt] 36), rdE vn a.Next, rdE vt a.Takes, rdE wn b.Next, rdE wt b.Takes] H5 := hS6
    refine wpL_q (U := NoB) rfl (q_assign (v := B (false)) rfl rfl) ?_
    refine wpL_o rfl ?_
    refine e_alloc rfl Try.zeroValue24 hS6 (fun g7 H8 hS9 hxx => ?_)
    replace hS9 : St H0 NoB NoB [blkE g7 (.cells #[I (0), I (0)] 24), blkE g4 (.cells #[I (b.Signs), wn, wt] 36), blkE g1 (.cells #[I (a.Signs), vn, vt] 36), rdE vn a.Next, rdE vt a.Takes, rdE wn b.Next, rdE wt b.Takes] H8 := hS9
    exact ⟨g1, g4, g7, rfl, rfl, rfl, hS9⟩
  rintro f10 H10 ⟨g1, g4, g7, a10_2, a10_3, a10_5, hS10⟩
  clear a0_0 a0_1
  refine wpF_seq ?_
  refine wpF_seq ?_
  refine wpF_cut (fun f H => ∃ (g14 : Nat), f 2 = PT g1 0 ∧ f 3 = PT g4 0 ∧ f 5 = PT g7 0 ∧ f 6 = PT g14 0 ∧ St H0 NoB NoB [blkE g14 (.cells #[I ((pairFault a b).1), I ((pairFault a b).2)] 24), blkE g7 (.cells #[I (0), I (0)] 24), blkE g4 (.cells #[I (b.Signs), wn, wt] 36), blkE g1 (.cells #[I (a.Signs), vn, vt] 36), rdE vn a.Next, rdE vt a.Takes, rdE wn b.Next, rdE wt b.Takes] H) ?_ ?_
  · refine wpF_region ?_
    refine wpL_q (U := NoB) rfl (q_loadBlkA rfl a10_2 Try.isAgg36 Try.sizeOf36 rfl (hS10.blk 2 rfl) (fun h => h)) ?_
    refine wpL_q (U := NoB) rfl (q_loadBlkA rfl a10_3 Try.isAgg36 Try.sizeOf36 rfl (hS10.blk 1 rfl) (fun h => h)) ?_
    refine wpL_o rfl ?_
    refine e_call rfl Try.call59 (arr2 (v0 := Value.agg #[I (a.Signs), vn, vt]) (v1 := Value.agg #[I (b.Signs), wn, wt]) rfl rfl) (checks vn vt wn wt a b (hS10.rdN 3 rfl) (hS10.rdN 4 rfl) hsg (hS10.rdN 5 rfl) (hS10.rdN 6 rfl) hsgb) ?_
    rintro _ H11 ⟨hxx, rfl⟩
    have hS12 : St H0 NoB NoB [blkE g7 (.cells #[I (0), I (0)] 24), blkE g4 (.cells #[I (b.Signs), wn, wt] 36), blkE g1 (.cells #[I (a.Signs), vn, vt] 36), rdE vn a.Next, rdE vt a.Takes, rdE wn b.Next, rdE wt b.Takes] H11 := hS10.ext hxx
    refine wpL_o rfl ?_
    refine e_alloc rfl Try.zeroValue24 hS12 (fun g14 H15 hS16 hxx => ?_)
    replace hS16 : St H0 NoB NoB [blkE g14 (.cells #[I (0), I (0)] 24), blkE g7 (.cells #[I (0), I (0)] 24), blkE g4 (.cells #[I (b.Signs), wn, wt] 36), blkE g1 (.cells #[I (a.Signs), vn, vt] 36), rdE vn a.Next, rdE vt a.Takes, rdE wn b.Next, rdE wt b.Takes] H15 := hS16
    refine wpL_o rfl ?_
    refine e_storeBlkA (cs' := #[I ((pairFault a b).1), I ((pairFault a b).2)]) rfl rfl rfl Try.sizeOf24 rfl rfl (List.forall_mem_cons.2 ⟨rfl, List.forall_mem_cons.2 ⟨rfl, List.forall_mem_nil _⟩⟩) hS16 (fun H17 hS18 hxx => ?_)
    replace hS18 : St H0 NoB NoB [blkE g14 (.cells #[I ((pairFault a b).1), I ((pairFault a b).2)] 24), blkE g7 (.cells #[I (0), I (0)] 24), blkE g4 (.cells #[I (b.Signs), wn, wt] 36), blkE g1 (.cells #[I (a.Signs), vn, vt] 36), rdE vn a.Next, rdE vt a.Takes, rdE wn b.Next, rdE wt b.Takes] H17 := hS18
    exact ⟨g14, a10_2, a10_3, a10_5, rfl, hS18⟩
  rintro f19 H19 ⟨g14, a19_2, a19_3, a19_5, a19_6, hS19⟩
  clear a10_2 a10_3 a10_5
  refine wpF_seq ?_
  refine wpF_cut (fun f H => f 2 = PT g1 0 ∧ f 3 = PT g4 0 ∧ f 5 = PT g7 0 ∧ f 6 = PT g14 0 ∧ f 14 = B (decide (((pairFault a b).1) ≠ 0)) ∧ H19 = H) ?_ ?_
  · refine wpF_region ?_
    refine wpL_q (U := NoB) rfl (q_fieldAddr rfl Try.underlying24 rfl Try.sizeOf3 a19_6) ?_
    refine wpL_q (U := NoB) rfl (q_loadBlk rfl rfl Try.isAgg3 (hS19.blk 0 rfl) rfl (fun h => h)) ?_
    refine wpL_q (U := NoB) rfl (q_neq rfl rfl rfl) ?_
    exact ⟨a19_2, a19_3, a19_5, a19_6, rfl, rfl⟩
  rintro f20 _ ⟨a20_2, a20_3, a20_5, a20_6, a20_14, rfl⟩
  clear a19_2 a19_3 a19_5 a19_6
  refine wpF_condP a20_14 (fun h1 => ?t38) (fun h1 => ?e38)
  case t38 =>
    refine wpF_seq ?_
    refine wpF_cut (fun f H => f 4 = B (false) ∧ f 5 = PT g7 0 ∧ St H0 NoB NoB [blkE g7 (.cells #[I ((pairFault a b).1), I ((pairFault a b).2)] 24), blkE g14 (.cells #[I ((pairFault a b).1), I ((pairFault a b).2)] 24), blkE g4 (.cells #[I (b.Signs), wn, wt] 36), blkE g1 (.cells #[I (a.Signs), vn, vt] 36), rdE vn a.Next, rdE vt a.Takes, rdE wn b.Next, rdE wt b.Takes] H) ?_ ?_
    · refine wpF_drawn [none, none, some 0] [[], [], []] (fun l b => match l with | 0 => True | _ => False) (by kernel_rfl) (by kernel_rfl) ?_
      refine wpR_q 0 (by kernel_rfl) rfl (quietAt rfl rfl (q_loadBlkA rfl a20_6 Try.isAgg24 Try.sizeOf24 rfl (hS19.blk 0 rfl) (labU_not [] rfl (List.forall_mem_nil _)))) ?_
      refine wpR_q 1 (by kernel_rfl) rfl (quietAt rfl rfl (q_assign (v := B (false)) rfl rfl)) ?_
      refine wpR_n [2] (by kernel_rfl) ?_
      refine List.forall_mem_cons.2 ⟨?_, List.forall_mem_nil _⟩
      refine exE rfl rfl ?_
      refine e_storeBlkA (cs' := #[I ((pairFault a b).1), I ((pairFault a b).2)]) rfl a20_5 rfl Try.sizeOf24 rfl rfl (List.forall_mem_cons.2 ⟨rfl, List.forall_mem_cons.2 ⟨rfl, List.forall_mem_nil _⟩⟩) (hS19.front 1 rfl) (fun H22o2 hS22o2 hxx => ?_)
      replace hS22o2 : St H0 NoB NoB [blkE g7 (.cells #[I ((pairFault a b).1), I ((pairFault a b).2)] 24), blkE g14 (.cells #[I ((pairFault a b).1), I ((pairFault a b).2)] 24), blkE g4 (.cells #[I (b.Signs), wn, wt] 36), blkE g1 (.cells #[I (a.Signs), vn, vt] 36), rdE vn a.Next, rdE vt a.Takes, rdE wn b.Next, rdE wt b.Takes] H22o2 := hS22o2
      refine ⟨Ext.mono hxx (labS_of 0 rfl (fun _ _ => trivial)), ?_⟩
      refine wpR_end (by kernel_rfl) ?_
      exact ⟨rfl, a20_5, hS22o2⟩
    rintro f23 H23 ⟨a23_4, a23_5, hS23⟩
    clear a20_14 a20_2 a20_3 a20_5 a20_6
    refine wpF_ret ?_
    refine ⟨_, resT a23_4 (resC a23_5 (loadV_blkA Try.isAgg24 Try.sizeOf24 rfl (hS23.blk 0 rfl)) (resN)), hS23.frame, ?_⟩
    show (Value.tuple #[B (false), Value.agg #[I ((pairFault a b).1), I ((pairFault a b).2)]]) = Value.tuple #[B (sameR a b), Value.agg #[I (pairFault a b).1, I (pairFault a b).2]]
    have hq : sameR a b = false := by rw [sameR, if_pos h1]
    rw [hq]
  refine wpF_skip ?_
  refine wpF_seq ?_
  obtain ⟨hpz, hWa, hWb, hss⟩ := pairFault_zero (Decidable.of_not_not h1)
  have hsga := hWa.signs
  refine wpF_cut (fun f H => ∃ (v24 : Value), ∃ (r25 : Nat), ∃ (m26 : List ((Int × Int) × Int)), ∃ (i27 : Nat), (Ended (stepP a b) a.Signs.toNat (0, 0) i27) ∧ (Nums (bfs (stepP a b) a.Signs.toNat (0, 0) i27) (mget m26)) ∧ f 2 = PT g1 0 ∧ f 3 = PT g4 0 ∧ f 5 = PT g7 0 ∧ f 7 = v24 ∧ St H0 NoB NoB [rdE v24 (bfs (stepP a b) a.Signs.toNat (0, 0) i27), mapE r25 (m26 : List ((Int × Int) × Int)), blkE g14 (.cells #[I ((pairFault a b).1), I ((pairFault a b).2)] 24), blkE g7 (.cells #[I (0), I (0)] 24), blkE g4 (.cells #[I (b.Signs), wn, wt] 36), blkE g1 (.cells #[I (a.Signs), vn, vt] 36), rdE vn a.Next, rdE vt a.Takes, rdE wn b.Next, rdE wt b.Takes] H) ?_ ?_
  · refine wpF_region ?_
    refine wpL_q (U := NoB) rfl (q_build (v := Value.agg #[I (0), I (0)]) rfl par0 (fun w => by kernel_rfl)) ?_
    refine wpL_q (U := NoB) rfl (q_fieldAddr rfl Try.underlying36 rfl Try.sizeOf3 a20_2) ?_
    refine wpL_q (U := NoB) rfl (q_loadBlk rfl rfl Try.isAgg3 (hS19.blk 3 rfl) rfl (fun h => h)) ?_
    refine wpL_q (U := NoB) rfl (q_makeFunc (fi' := #[]) rfl (by simp) (arr2 (v0 := PT g1 0) (v1 := PT g4 0) a20_2 a20_3)) ?_
    refine wpL_o rfl ?_
    refine e_call rfl Try.call60 (arr3 (v0 := Value.agg #[I (0), I (0)]) (v1 := I (a.Signs)) (v2 := Value.func (.func 61) #[] #[PT g1 0, PT g4 0]) rfl rfl rfl) (found_Pw (S := SL NoB [blkE g14 (.cells #[I ((pairFault a b).1), I ((pairFault a b).2)] 24), blkE g7 (.cells #[I (0), I (0)] 24), blkE g4 (.cells #[I (b.Signs), wn, wt] 36), blkE g1 (.cells #[I (a.Signs), vn, vt] 36), rdE vn a.Next, rdE vt a.Takes, rdE wn b.Next, rdE wt b.Takes]) (Value.func (.func 61) #[] #[PT g1 0, PT g4 0]) (0, 0) a.Signs.toNat (stepP a b) (Pr a b) a.Signs (by omega) (Pr.start hWa hWb) (fun x c hx h0 h1 => Pr.step hWa hWb hss hx ⟨h0, by omega⟩) (fun x hx => Pr.in64 hWa hWb hx) (Pr.few hWa hWb) (by omega) (fun x c hx hc0 hc1 H hE => ⟨_, _, rfl, Try.call61, Same_1 x c g1 g4 _ vn vt _ wn wt a b (hE.blk (hS19.blk 3 rfl)) (hE.blk (hS19.blk 2 rfl)) ((hS19.rdN 4 rfl).extN hE) ((hS19.rdN 5 rfl).extN hE) ((hS19.rdN 6 rfl).extN hE) ((hS19.rdN 7 rfl).extN hE) hWa hWb hss hx ⟨hc0, by omega⟩⟩)) ?_
    rintro _ H28 ⟨hxx, v24, r25, m26, i27, rfl, hEm26, hNm26, hok, hge⟩
    have hS29 : St H0 NoB NoB [rdE v24 (bfs (stepP a b) a.Signs.toNat (0, 0) i27), mapE r25 (m26 : List ((Int × Int) × Int)), blkE g14 (.cells #[I ((pairFault a b).1), I ((pairFault a b).2)] 24), blkE g7 (.cells #[I (0), I (0)] 24), blkE g4 (.cells #[I (b.Signs), wn, wt] 36), blkE g1 (.cells #[I (a.Signs), vn, vt] 36), rdE vn a.Next, rdE vt a.Takes, rdE wn b.Next, rdE wt b.Takes] H28 := St.got (A' := [rdE v24 (bfs (stepP a b) a.Signs.toNat (0, 0) i27), mapE r25 (m26 : List ((Int × Int) × Int))]) hS19 hxx hok hge (pw2 (fun b h1 h2 => h1.elim))
    refine wpL_q (U := NoB) rfl (q_move (v := Value.tuple #[v24, (Value.map (some r25))]) rfl rfl) ?_
    refine wpL_q (U := NoB) rfl (q_extract (vs := #[v24, (Value.map (some r25))]) (v := v24) rfl rfl rfl) ?_
    refine wpL_q (U := NoB) rfl (q_extract (vs := #[v24, (Value.map (some r25))]) (v := (Value.map (some r25))) rfl rfl rfl) ?_
    refine wpL_q (U := NoB) rfl (q_assign (v := v24) rfl rfl) ?_
    refine wpL_q (U := NoB) rfl (q_assign (v := (Value.map (some r25))) rfl rfl) ?_
    exact ⟨v24, r25, m26, i27, hEm26, hNm26, a20_2, a20_3, a20_5, rfl, hS29⟩
  rintro f31 H31 ⟨v24, r25, m26, i27, hEm26, hNm26, a31_2, a31_3, a31_5, a31_7, hS31⟩
  clear a20_14 a20_2 a20_3 a20_5 a20_6
  have hallP := hEm26.all (I := Pr a b) (Pr.start hWa hWb) (fun x c hx h0 h1 => Pr.step hWa hWb hss hx ⟨h0, by omega⟩)
  have hend := hEm26.endL
  refine wpF_seq ?_
  refine wpF_cut (fun f H => f 4 = B (!((bfs (stepP a b) a.Signs.toNat (0, 0) i27).any (fun p => decide (nth a.Takes p.1.toNat ≠ nth b.Takes p.2.toNat)))) ∧ f 5 = PT g7 0 ∧ St H0 NoB NoB [blkE g7 (.cells #[I (0), I (0)] 24), mapE r25 (m26 : List ((Int × Int) × Int)), blkE g14 (.cells #[I ((pairFault a b).1), I ((pairFault a b).2)] 24), blkE g4 (.cells #[I (b.Signs), wn, wt] 36), blkE g1 (.cells #[I (a.Signs), vn, vt] 36), rdE vn a.Next, rdE vt a.Takes, rdE wn b.Next, rdE wt b.Takes] H) ?_ ?_
  · refine wpF_region ?_
    refine wpL_q (U := NoB) rfl (q_move (v := v24) rfl a31_7) ?_
    refine wpL_q (U := NoB) rfl (q_makeFunc (fi' := #[]) rfl (by simp) (arr2 (v0 := PT g1 0) (v1 := PT g4 0) a31_2 a31_3)) ?_
    refine wpL_o rfl ?_
    refine e_call rfl Try.call62 (arr2 (v0 := v24) (v1 := Value.func (.func 63) #[] #[PT g1 0, PT g4 0]) rfl rfl) (ContainsFuncP v24 (Value.func (.func 63) #[] #[PT g1 0, PT g4 0]) (bfs (stepP a b) a.Signs.toNat (0, 0) i27) (fun p => decide (nth a.Takes p.1.toNat ≠ nth b.Takes p.2.toNat)) (hS31.rdN 0 rfl) (fun x hx H hE => ⟨_, _, rfl, Try.call63, Same_2 x g1 g4 _ vn vt _ wn wt a b (hE.blk (hS31.blk 5 rfl)) (hE.blk (hS31.blk 4 rfl)) ((hS31.rdN 6 rfl).extN hE) ((hS31.rdN 7 rfl).extN hE) ((hS31.rdN 8 rfl).extN hE) ((hS31.rdN 9 rfl).extN hE) hWa hWb hss (hallP x hx)⟩)) ?_
    rintro _ H32 ⟨hxx, rfl⟩
    have hS33 : St H0 NoB NoB [rdE v24 (bfs (stepP a b) a.Signs.toNat (0, 0) i27), mapE r25 (m26 : List ((Int × Int) × Int)), blkE g14 (.cells #[I ((pairFault a b).1), I ((pairFault a b).2)] 24), blkE g7 (.cells #[I (0), I (0)] 24), blkE g4 (.cells #[I (b.Signs), wn, wt] 36), blkE g1 (.cells #[I (a.Signs), vn, vt] 36), rdE vn a.Next, rdE vt a.Takes, rdE wn b.Next, rdE wt b.Takes] H32 := hS31.ext hxx
    refine wpL_q (U := NoB) rfl (q_not rfl rfl) ?_
    refine wpL_q (U := NoB) rfl (q_build (v := Value.agg #[I (0), I (0)]) rfl par0 (fun w => by kernel_rfl)) ?_
    refine wpL_q (U := NoB) rfl (q_assign (v := B (!((bfs (stepP a b) a.Signs.toNat (0, 0) i27).any (fun p => decide (nth a.Takes p.1.toNat ≠ nth b.Takes p.2.toNat))))) rfl rfl) ?_
    refine wpL_o rfl ?_
    refine e_storeBlkA (cs' := #[I (0), I (0)]) rfl a31_5 rfl Try.sizeOf24 rfl rfl (List.forall_mem_cons.2 ⟨rfl, List.forall_mem_cons.2 ⟨rfl, List.forall_mem_nil _⟩⟩) (hS33.front 3 rfl) (fun H35 hS36 hxx => ?_)
    replace hS36 : St H0 NoB NoB [blkE g7 (.cells #[I (0), I (0)] 24), rdE v24 (bfs (stepP a b) a.Signs.toNat (0, 0) i27), mapE r25 (m26 : List ((Int × Int) × Int)), blkE g14 (.cells #[I ((pairFault a b).1), I ((pairFault a b).2)] 24), blkE g4 (.cells #[I (b.Signs), wn, wt] 36), blkE g1 (.cells #[I (a.Signs), vn, vt] 36), rdE vn a.Next, rdE vt a.Takes, rdE wn b.Next, rdE wt b.Takes] H35 := hS36
    exact ⟨rfl, a31_5, (hS36.drop (sk (sn (sk (sk (sk (sk (sk (sk (sk (sk (List.Sublist.slnil))))))))))))⟩
  rintro f37 H37 ⟨a37_4, a37_5, hS37⟩
  clear a31_2 a31_3 a31_5 a31_7
  refine wpF_ret ?_
  refine ⟨_, resT a37_4 (resC a37_5 (loadV_blkA Try.isAgg24 Try.sizeOf24 rfl (hS37.blk 0 rfl)) (resN)), hS37.frame, ?_⟩
  show (Value.tuple #[B (!((bfs (stepP a b) a.Signs.toNat (0, 0) i27).any (fun p => decide (nth a.Takes p.1.toNat ≠ nth b.Takes p.2.toNat)))), Value.agg #[I (0), I (0)]]) = Value.tuple #[B (sameR a b), Value.agg #[I (pairFault a b).1, I (pairFault a b).2]]
  have hq : sameR a b = sameB a b := by rw [sameR, if_neg h1]
  rw [hq, hpz, sameB, hend]

end Go.Um
