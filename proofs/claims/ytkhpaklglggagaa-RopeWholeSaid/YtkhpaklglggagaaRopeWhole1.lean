import Derived.Test.YtkhpaklglggagaaProg
import Derived.Test.YtkhpaklglggagaaRopeF1
namespace Go.Um
open Go.Proofs
open GoT (sz ag rdc)
open KeyT (kv)



set_option maxRecDepth 100000 in
theorem RopeWhole_L {H0 : Heap} (vl vt : Value) (l : List Auto) (t : List Int) (rl : Rd NoB H0 vl l) (rt : Rd NoB H0 vt t) : CallsH Try.prog 13 #[vl, vt] H0 (fun rv_ H' => Ext NoB H0 H' ∧ rv_ = B true) := by
  have hsl := (Rd.list.1 rl).small
  have hst := (Rd.list.1 rt).small
  have hS0 : St H0 NoB NoB [rdE vl (l : List Auto), rdE vt (t : List Int)] H0 := St.arg (St.arg (St.start (fun _ h => h.elim)) (Bl0.nil) rt (fun _ h => h)) (Bl0.cons (Bl0.nil)) rl (fun _ h => h)
  refine callsH_of_wpF (args := [vl, vt]) (rs := [.tmp 4]) Try.func13 rfl Try.ntmps13 Try.results13 (by kernel_rfl) (Nat.le_of_ble_eq_true rfl) ?_
  have a0_0 : argF [vl, vt] 0 = vl := rfl
  have a0_1 : argF [vl, vt] 1 = vt := rfl
  generalize argF [vl, vt] = f0 at *
  refine wpF_seq ?_
  refine wpF_cut (fun f H => f 0 = vl ∧ f 1 = vt ∧ H0 = H) ?_ ?_
  · refine wpF_region ?_
    refine wpL_q (U := NoB) rfl (q_assign (v := B (false)) rfl rfl) ?_
    exact ⟨a0_0, a0_1, rfl⟩
  rintro f1 _ ⟨a1_0, a1_1, rfl⟩
  clear a0_0 a0_1
  refine wpF_seq ?_
  refine wpF_cut (fun f H => f 0 = vl ∧ f 1 = vt ∧ f 5 = B (true) ∧ St H0 NoB NoB [rdE vl (l : List Auto), rdE vt (t : List Int)] H) ?_ ?_
  · refine wpF_region ?_
    refine wpL_o rfl ?_
    refine e_call rfl Try.call43 arr0 (ropeFact) ?_
    rintro _ H2 ⟨hxx, rfl⟩
    have hS3 : St H0 NoB NoB [rdE vl (l : List Auto), rdE vt (t : List Int)] H2 := hS0.ext hxx
    refine wpL_q (U := NoB) rfl (q_assign (v := B (true)) rfl rfl) ?_
    exact ⟨a1_0, a1_1, rfl, hS3⟩
  rintro f5 H5 ⟨a5_0, a5_1, a5_5, hS5⟩
  clear a1_0 a1_1
  refine wpF_seq ?_
  refine wpF_seq ?_
  refine wpF_cut (fun f H => f 0 = vl ∧ f 1 = vt ∧ f 15 = B (false) ∧ H5 = H) ?_ ?_
  · refine wpF_region ?_
    refine wpL_q (U := NoB) rfl (q_move (v := B (true)) rfl a5_5) ?_
    refine wpL_q (U := NoB) rfl (q_not rfl rfl) ?_
    exact ⟨a5_0, a5_1, rfl, rfl⟩
  rintro f6 _ ⟨a6_0, a6_1, a6_15, rfl⟩
  clear a5_0 a5_1 a5_5
  refine wpF_condF a6_15 ?_
  refine wpF_skip ?_
  refine wpF_seq ?_
  refine wpF_cut (fun f H => ∃ (r7 : Value), ∃ (g11 : Nat), f 0 = vl ∧ f 1 = vt ∧ f 6 = r7 ∧ f 7 = B (cutOk l t) ∧ f 8 = PT g11 0 ∧ St H0 NoB NoB [blkE g11 (.cells #[I ((cutFault l t).1), I ((cutFault l t).2)] 24), rdE r7 (cutList l t : List Int), rdE vl (l : List Auto), rdE vt (t : List Int)] H) ?_ ?_
  · refine wpF_region ?_
    refine wpL_q (U := NoB) rfl (q_move (v := vl) rfl a6_0) ?_
    refine wpL_q (U := NoB) rfl (q_move (v := vt) rfl a6_1) ?_
    refine wpL_o rfl ?_
    refine e_call rfl Try.call30 (arr2 (v0 := vl) (v1 := vt) rfl rfl) (rope_Cut vl vt l t (hS5.rdS 0 rfl) (hS5.rdS 1 rfl)) ?_
    rintro _ H8 ⟨hxx, r7, rfl, hrr7⟩
    have hS9 : St H0 NoB NoB [rdE r7 (cutList l t : List Int), rdE vl (l : List Auto), rdE vt (t : List Int)] H8 := (hS5.res hxx hrr7)
    refine wpL_q (U := NoB) rfl (q_move (v := Value.tuple #[r7, B (cutOk l t), Value.agg #[I ((cutFault l t).1), I ((cutFault l t).2)]]) rfl rfl) ?_
    refine wpL_q (U := NoB) rfl (q_extract (vs := #[r7, B (cutOk l t), Value.agg #[I ((cutFault l t).1), I ((cutFault l t).2)]]) (v := r7) rfl rfl rfl) ?_
    refine wpL_q (U := NoB) rfl (q_extract (vs := #[r7, B (cutOk l t), Value.agg #[I ((cutFault l t).1), I ((cutFault l t).2)]]) (v := B (cutOk l t)) rfl rfl rfl) ?_
    refine wpL_q (U := NoB) rfl (q_extract (vs := #[r7, B (cutOk l t), Value.agg #[I ((cutFault l t).1), I ((cutFault l t).2)]]) (v := Value.agg #[I ((cutFault l t).1), I ((cutFault l t).2)]) rfl rfl rfl) ?_
    refine wpL_o rfl ?_
    refine e_alloc rfl Try.zeroValue24 hS9 (fun g11 H12 hS13 hxx => ?_)
    replace hS13 : St H0 NoB NoB [blkE g11 (.cells #[I (0), I (0)] 24), rdE r7 (cutList l t : List Int), rdE vl (l : List Auto), rdE vt (t : List Int)] H12 := hS13
    refine wpL_q (U := NoB) rfl (q_assign (v := r7) rfl rfl) ?_
    refine wpL_q (U := NoB) rfl (q_assign (v := B (cutOk l t)) rfl rfl) ?_
    refine wpL_o rfl ?_
    refine e_storeBlkA (cs' := #[I ((cutFault l t).1), I ((cutFault l t).2)]) rfl rfl rfl Try.sizeOf24 rfl rfl (List.forall_mem_cons.2 ⟨rfl, List.forall_mem_cons.2 ⟨rfl, List.forall_mem_nil _⟩⟩) hS13 (fun H14 hS15 hxx => ?_)
    replace hS15 : St H0 NoB NoB [blkE g11 (.cells #[I ((cutFault l t).1), I ((cutFault l t).2)] 24), rdE r7 (cutList l t : List Int), rdE vl (l : List Auto), rdE vt (t : List Int)] H14 := hS15
    exact ⟨r7, g11, a6_0, a6_1, rfl, rfl, rfl, hS15⟩
  rintro f16 H16 ⟨r7, g11, a16_0, a16_1, a16_6, a16_7, a16_8, hS16⟩
  clear a6_0 a6_1 a6_15
  refine wpF_seq ?_
  refine wpF_seq ?_
  refine wpF_cut (fun f H => f 0 = vl ∧ f 1 = vt ∧ f 6 = r7 ∧ f 29 = B (decide ((((cutFault l t).1) ≠ 0) ∨ ((!(cutOk l t)) = true))) ∧ H16 = H) ?_ ?_
  · refine wpF_region ?_
    refine wpL_q (U := NoB) rfl (q_fieldAddr rfl Try.underlying24 rfl Try.sizeOf3 a16_8) ?_
    refine wpL_q (U := NoB) rfl (q_loadBlk rfl rfl Try.isAgg3 (hS16.blk 0 rfl) rfl (fun h => h)) ?_
    refine wpL_q (U := NoB) rfl (q_neq rfl rfl rfl) ?_
    refine wpL_q (U := NoB) rfl (q_move (v := B (decide (((cutFault l t).1) ≠ 0))) rfl rfl) ?_
    by_cases hg17 : ((cutFault l t).1) ≠ 0
    · have hb18 := Eq.trans rfl (congrArg B (decide_eq_true hg17))
      refine wpL_gs rfl rfl rfl hb18 rfl ?_
      refine wpL_gs rfl rfl rfl hb18 rfl ?_
      refine wpL_q (U := NoB) rfl (q_pickT (v := B (true)) rfl hb18 rfl) ?_
      exact ⟨a16_0, a16_1, a16_6, (Eq.trans rfl (congrArg B ((decide_eq_true (Or.inl hg17)).symm))), rfl⟩
    · have hb19 := Eq.trans rfl (congrArg B (decide_eq_false hg17))
      refine wpL_gq (U := NoB) rfl rfl rfl hb19 (q_move (v := B (cutOk l t)) rfl a16_7) ?_
      refine wpL_gq (U := NoB) rfl rfl rfl hb19 (q_not rfl rfl) ?_
      refine wpL_q (U := NoB) rfl (q_pickF (v := B (!(cutOk l t))) rfl hb19 rfl) ?_
      exact ⟨a16_0, a16_1, a16_6, (Eq.trans rfl (congrArg B (bool_congr_of ((Iff.rfl).trans (((or_iff_right hg17).trans Iff.rfl)).symm)))), rfl⟩
  rintro f20 _ ⟨a20_0, a20_1, a20_6, a20_29, rfl⟩
  clear a16_0 a16_1 a16_6 a16_7 a16_8
  refine wpF_condP a20_29 (fun hout => ?t52) (fun hout => ?e52)
  case t52 =>
    refine wpF_seq ?_
    refine wpF_cut (fun f H => f 4 = B (decide (((cutList l t).length : Int) = 0)) ∧ H16 = H) ?_ ?_
    · refine wpF_region ?_
      refine wpL_q (U := NoB) rfl (q_move (v := r7) rfl a20_6) ?_
      refine wpL_q (U := NoB) rfl (q_lenRd rfl Try.underlying22 rfl (hS16.rdl 1 rfl)) ?_
      refine wpL_q (U := NoB) rfl (q_eql rfl rfl rfl) ?_
      refine wpL_q (U := NoB) rfl (q_assign (v := B (decide (((cutList l t).length : Int) = 0))) rfl rfl) ?_
      exact ⟨rfl, rfl⟩
    rintro f22 _ ⟨a22_4, rfl⟩
    clear a20_0 a20_1 a20_29 a20_6
    refine wpF_ret ?_
    refine ⟨_, resT a22_4 resN, hS16.frame, ?_⟩
    show (B (decide (((cutList l t).length : Int) = 0))) = B true
    exact congrArg B (decide_eq_true (by rw [cut_out hout]; rfl))
  have hin := cut_in hout
  have hCW := CutWF.of hin.1
  have htx := hCW.text
  refine wpF_skip ?_
  refine wpF_seq ?_
  refine wpF_seq ?_
  refine wpF_cut (fun f H => f 0 = vl ∧ f 1 = vt ∧ f 6 = r7 ∧ f 37 = B (decide (((cutList l t).length : Int) ≠ (l.length : Int))) ∧ H16 = H) ?_ ?_
  · refine wpF_region ?_
    refine wpL_q (U := NoB) rfl (q_move (v := r7) rfl a20_6) ?_
    refine wpL_q (U := NoB) rfl (q_lenRd rfl Try.underlying22 rfl (hS16.rdl 1 rfl)) ?_
    refine wpL_q (U := NoB) rfl (q_move (v := vl) rfl a20_0) ?_
    refine wpL_q (U := NoB) rfl (q_lenRd rfl Try.underlying48 rfl (hS16.rdl 2 rfl)) ?_
    refine wpL_q (U := NoB) rfl (q_neq rfl rfl rfl) ?_
    exact ⟨a20_0, a20_1, a20_6, rfl, rfl⟩
  rintro f23 _ ⟨a23_0, a23_1, a23_6, a23_37, rfl⟩
  clear a20_0 a20_1 a20_29 a20_6
  refine wpF_condP a23_37 (fun hlen => ?t51) (fun hlen => ?e51)
  case t51 =>
    refine wpF_seq ?_
    refine wpF_cut (fun f H => f 4 = B (false) ∧ H16 = H) ?_ ?_
    · refine wpF_region ?_
      refine wpL_q (U := NoB) rfl (q_assign (v := B (false)) rfl rfl) ?_
      exact ⟨rfl, rfl⟩
    rintro f25 _ ⟨a25_4, rfl⟩
    clear a23_0 a23_1 a23_37 a23_6
    refine wpF_ret ?_
    refine ⟨_, resT a25_4 resN, hS16.frame, ?_⟩
    show (B (false)) = B true
    exfalso
    have := cutG_len hin.2
    omega
  refine wpF_skip ?_
  refine wpF_seq ?_
  refine wpF_cut (fun f H => f 0 = vl ∧ f 1 = vt ∧ f 6 = r7 ∧ f 9 = I (0) ∧ H16 = H) ?_ ?_
  · refine wpF_region ?_
    refine wpL_q (U := NoB) rfl (q_assign (v := I (0)) rfl rfl) ?_
    exact ⟨a23_0, a23_1, a23_6, rfl, rfl⟩
  rintro f26 _ ⟨a26_0, a26_1, a26_6, a26_9, rfl⟩
  clear a23_0 a23_1 a23_37 a23_6
  refine wpF_seq ?_
  refine wpF_seq ?_
  refine wpF_cut (fun f H => f 0 = vl ∧ f 1 = vt ∧ f 6 = r7 ∧ f 9 = I (0) ∧ f 10 = I (0) ∧ H16 = H) ?_ ?_
  · refine wpF_region ?_
    refine wpL_q (U := NoB) rfl (q_assign (v := I (0)) rfl rfl) ?_
    exact ⟨a26_0, a26_1, a26_6, a26_9, rfl, rfl⟩
  rintro f27 _ ⟨a27_0, a27_1, a27_6, a27_9, a27_10, rfl⟩
  clear a26_0 a26_1 a26_6 a26_9
  refine wpF_block ?_
  refine wpF_loop (fun mz f H => ∃ (i : Nat), ∃ (q : Int), mz = l.length - i ∧ (i ≤ l.length) ∧ (CutAt l t (cutList l t) i q) ∧ f 0 = vl ∧ f 1 = vt ∧ f 6 = r7 ∧ f 9 = I (q) ∧ f 10 = I ((i : Int)) ∧ St H0 NoB NoB [blkE g11 (.cells #[I ((cutFault l t).1), I ((cutFault l t).2)] 24), rdE r7 (cutList l t : List Int), rdE vl (l : List Auto), rdE vt (t : List Int)] H) (l.length - 0) ?_ ?_
  · exact ⟨0, 0, rfl, Nat.zero_le _, (CutAt.start hin.2), a27_0, a27_1, a27_6, a27_9, (Eq.trans a27_10 (congrArg I (by omega))), hS16⟩
  intro m28 f28 H28 hI28
  obtain ⟨i, q, hm28, hi, hA, a28_0, a28_1, a28_6, a28_9, a28_10, hS28⟩ := hI28
  clear a27_0 a27_1 a27_10 a27_6 a27_9
  refine wpF_seq ?_
  refine wpF_seq ?_
  refine wpF_cut (fun f H => f 0 = vl ∧ f 1 = vt ∧ f 6 = r7 ∧ f 9 = I (q) ∧ f 10 = I ((i : Int)) ∧ f 41 = B (decide ((i : Int) < (l.length : Int))) ∧ H28 = H) ?_ ?_
  · refine wpF_region ?_
    refine wpL_q (U := NoB) rfl (q_move (v := I ((i : Int))) rfl a28_10) ?_
    refine wpL_q (U := NoB) rfl (q_move (v := vl) rfl a28_0) ?_
    refine wpL_q (U := NoB) rfl (q_lenRd rfl Try.underlying48 rfl (hS28.rdl 2 rfl)) ?_
    refine wpL_q (U := NoB) rfl (q_lss rfl rfl rfl) ?_
    exact ⟨a28_0, a28_1, a28_6, a28_9, a28_10, rfl, rfl⟩
  rintro f29 _ ⟨a29_0, a29_1, a29_6, a29_9, a29_10, a29_41, rfl⟩
  clear a28_0 a28_1 a28_10 a28_6 a28_9
  refine wpF_condP a29_41 (fun hlt => ?t50) (fun hlt => ?e50)
  case e50 =>
    refine wpF_exit ?_
    refine atX_here ?_
    refine wpF_seq ?_
    refine wpF_cut (fun f H => f 4 = B (decide (q = (t.length : Int))) ∧ H28 = H) ?_ ?_
    · refine wpF_region ?_
      refine wpL_q (U := NoB) rfl (q_move (v := I (q)) rfl a29_9) ?_
      refine wpL_q (U := NoB) rfl (q_move (v := vt) rfl a29_1) ?_
      refine wpL_q (U := NoB) rfl (q_lenRd rfl Try.underlying22 rfl (hS28.rdl 3 rfl)) ?_
      refine wpL_q (U := NoB) rfl (q_eql rfl rfl rfl) ?_
      refine wpL_q (U := NoB) rfl (q_assign (v := B (decide (q = (t.length : Int)))) rfl rfl) ?_
      exact ⟨rfl, rfl⟩
    rintro f49 _ ⟨a49_4, rfl⟩
    clear a29_0 a29_1 a29_10 a29_41 a29_6 a29_9
    refine wpF_ret ?_
    refine ⟨_, resT a49_4 resN, hS28.frame, ?_⟩
    show (B (decide (q = (t.length : Int)))) = B true
    exact congrArg B (decide_eq_true (hA.done (by omega)))
  have hil : i < l.length := by omega
  have hic := hA.len hil
  obtain ⟨hc0, hc1, hc2, hc3⟩ := hA.step hil
  have hqt := hA.lo
  have hto := takes_ok (hCW.wf i hil) (w := (t.take (q + nth (cutList l t) i).toNat).drop q.toNat) (by rw [List.length_drop, List.length_take]; omega) (fun c hc => by rw [hCW.signs i hil]; exact hCW.valid c (List.mem_of_mem_take (List.mem_of_mem_drop hc))) hc2
  refine wpF_skip ?_
  refine wpF_seq ?_
  refine wpF_block ?_
  refine wpF_seq ?_
  refine wpF_seq ?_
  refine wpF_cut (fun f H => f 0 = vl ∧ f 1 = vt ∧ f 6 = r7 ∧ f 9 = I (q) ∧ f 10 = I ((i : Int)) ∧ f 53 = B (decide (¬ (0 ≤ (nth (cutList l t) i) ∧ (nth (cutList l t) i) ≤ ((t.length : Int) - q)))) ∧ St H0 NoB NoB [blkE g11 (.cells #[I ((cutFault l t).1), I ((cutFault l t).2)] 24), rdE r7 (cutList l t : List Int), rdE vl (l : List Auto), rdE vt (t : List Int)] H) ?_ ?_
  · refine wpF_region ?_
    refine wpL_q (U := NoB) rfl (q_move (v := r7) rfl a29_6) ?_
    refine wpL_q (U := NoB) rfl (q_move (v := I ((i : Int))) rfl a29_10) ?_
    refine wpL_q (U := NoB) rfl (q_indexRd (k := i) rfl Try.underlying22 el_Int_3 rfl rfl (hS28.rdl 1 rfl) (by omega) (by omega)) ?_
    refine wpL_q (U := NoB) rfl (q_loadInt (k := i) rfl rfl el_Int_3 (hS28.rdl 1 rfl) (by omega) (fun _ h => h)) ?_
    refine wpL_q (U := NoB) rfl (q_move (v := vt) rfl a29_1) ?_
    refine wpL_q (U := NoB) rfl (q_lenRd rfl Try.underlying22 rfl (hS28.rdl 3 rfl)) ?_
    refine wpL_q (U := NoB) rfl (q_move (v := I (q)) rfl a29_9) ?_
    refine wpL_q (U := NoB) rfl (q_sub rfl rfl rfl (by constructor <;> omega)) ?_
    refine wpL_o rfl ?_
    refine e_call rfl Try.call16 (arr3 (v0 := I (nth (cutList l t) i)) (v1 := I (0)) (v2 := I ((t.length : Int) - q)) rfl rfl rfl) (in_L (nth (cutList l t) i) 0 ((t.length : Int) - q)) ?_
    rintro _ H31 ⟨hxx, rfl⟩
    have hS32 : St H0 NoB NoB [blkE g11 (.cells #[I ((cutFault l t).1), I ((cutFault l t).2)] 24), rdE r7 (cutList l t : List Int), rdE vl (l : List Auto), rdE vt (t : List Int)] H31 := hS28.ext hxx
    refine wpL_q (U := NoB) rfl (q_notP rfl rfl) ?_
    exact ⟨a29_0, a29_1, a29_6, a29_9, a29_10, rfl, hS32⟩
  rintro f34 H34 ⟨a34_0, a34_1, a34_6, a34_9, a34_10, a34_53, hS34⟩
  clear a29_0 a29_1 a29_10 a29_41 a29_6 a29_9
  refine wpF_condP a34_53 (fun hnin => ?t48) (fun hnin => ?e48)
  case t48 =>
    refine wpF_seq ?_
    refine wpF_cut (fun f H => f 4 = B (false) ∧ H34 = H) ?_ ?_
    · refine wpF_region ?_
      refine wpL_q (U := NoB) rfl (q_assign (v := B (false)) rfl rfl) ?_
      exact ⟨rfl, rfl⟩
    rintro f36 _ ⟨a36_4, rfl⟩
    clear a34_0 a34_1 a34_10 a34_53 a34_6 a34_9
    refine wpF_ret ?_
    refine ⟨_, resT a36_4 resN, hS34.frame, ?_⟩
    show (B (false)) = B true
    exfalso
    omega
  refine wpF_skip ?_
  refine wpF_seq ?_
  refine wpF_cut (fun f H => ∃ (g37o17 : Nat), (In64 (nth l i).Signs) ∧ f 0 = vl ∧ f 1 = vt ∧ f 6 = r7 ∧ f 9 = I (q) ∧ f 10 = I ((i : Int)) ∧ f 11 = B ((autoTakes (nth l i) ((t.take ((q + (nth (cutList l t) i)).toNat)).drop ((q).toNat))).1) ∧ f 12 = PT g37o17 0 ∧ St H0 NoB NoB [blkE g37o17 (.cells #[I ((autoTakes (nth l i) ((t.take ((q + (nth (cutList l t) i)).toNat)).drop ((q).toNat))).2.1), I ((autoTakes (nth l i) ((t.take ((q + (nth (cutList l t) i)).toNat)).drop ((q).toNat))).2.2)] 24), blkE g11 (.cells #[I ((cutFault l t).1), I ((cutFault l t).2)] 24), rdE r7 (cutList l t : List Int), rdE vl (l : List Auto), rdE vt (t : List Int)] H) ?_ ?_
  · refine wpF_drawn [none, none, none, none, none, none, none, none, none, none, none, none, none, none, none, none, none, none, none, some 0] [[], [], [], [], [], [], [], [], [], [], [], [], [], [], [], [], [], [], [], []] (fun l b => match l with | 0 => True | _ => False) (by kernel_rfl) (by kernel_rfl) ?_
    refine wpR_q 0 (by kernel_rfl) rfl (quietAt rfl rfl (q_move (v := vl) rfl a34_0)) ?_
    refine wpR_q 1 (by kernel_rfl) rfl (quietAt rfl rfl (q_move (v := I ((i : Int))) rfl a34_10)) ?_
    refine wpR_q 2 (by kernel_rfl) rfl (quietAt rfl rfl (q_indexRd (k := i) rfl Try.underlying48 el_Auto_36 rfl rfl (hS34.rdl 2 rfl) (by omega) (by omega))) ?_
    obtain ⟨u37o3, huu37o3, hlu37o3⟩ := (Rd.list.1 (hS34.rdS 2 rfl)).elem i (by omega)
    obtain ⟨u37o3n1, u37o3n2, rfl, hu37o30, hu37o31, hu37o32⟩ := Rd.auto.1 huu37o3
    have hS37o3 : St H0 NoB NoB [rdE u37o3n1 ((nth l i).Next : List (List Int)), blkE g11 (.cells #[I ((cutFault l t).1), I ((cutFault l t).2)] 24), rdE r7 (cutList l t : List Int), rdE vl (l : List Auto), rdE vt (t : List Int)] H34 := hS34.rd hu37o31
    have hS37o3x2 : St H0 NoB NoB [rdE u37o3n2 ((nth l i).Takes : List Bool), rdE u37o3n1 ((nth l i).Next : List (List Int)), blkE g11 (.cells #[I ((cutFault l t).1), I ((cutFault l t).2)] 24), rdE r7 (cutList l t : List Int), rdE vl (l : List Auto), rdE vt (t : List Int)] H34 := hS37o3.rd (hu37o32.sub fun _ hb => SL_rd hb)
    refine wpR_q 3 (by kernel_rfl) rfl (quietAt rfl rfl (q_loadE rfl rfl (hlu37o3 Try.prog 36 _ el_Auto_36 (labU_sub [] rfl (List.forall_mem_nil _))))) ?_
    refine wpR_q 4 (by kernel_rfl) rfl (quietAt rfl rfl (q_move (v := vt) rfl a34_1)) ?_
    refine wpR_q 5 (by kernel_rfl) rfl (quietAt rfl rfl (q_move (v := I (q)) rfl a34_9)) ?_
    refine wpR_q 6 (by kernel_rfl) rfl (quietAt rfl rfl (q_move (v := I (q)) rfl a34_9)) ?_
    refine wpR_q 7 (by kernel_rfl) rfl (quietAt rfl rfl (q_move (v := r7) rfl a34_6)) ?_
    refine wpR_q 8 (by kernel_rfl) rfl (quietAt rfl rfl (q_move (v := I ((i : Int))) rfl a34_10)) ?_
    refine wpR_q 9 (by kernel_rfl) rfl (quietAt rfl rfl (q_indexRd (k := i) rfl Try.underlying22 el_Int_3 rfl rfl (hS37o3x2.rdl 3 rfl) (by omega) (by omega))) ?_
    refine wpR_q 10 (by kernel_rfl) rfl (quietAt rfl rfl (q_loadInt (k := i) rfl rfl el_Int_3 (hS37o3x2.rdl 3 rfl) (by omega) (labU_sub [] rfl (List.forall_mem_nil _)))) ?_
    refine wpR_q 11 (by kernel_rfl) rfl (quietAt rfl rfl (q_add rfl rfl rfl (by constructor <;> omega))) ?_
    have hS37o12 : St H0 NoB NoB [rdE (sliceV 1 vt ((q).toNat) ((q + (nth (cutList l t) i)).toNat)) ((t.take ((q + (nth (cutList l t) i)).toNat)).drop ((q).toNat) : List Int), rdE u37o3n2 ((nth l i).Takes : List Bool), rdE u37o3n1 ((nth l i).Next : List (List Int)), blkE g11 (.cells #[I ((cutFault l t).1), I ((cutFault l t).2)] 24), rdE r7 (cutList l t : List Int), rdE vl (l : List Auto), rdE vt (t : List Int)] H34 := hS37o3x2.rd (Rd.list.2 (sliceV_rd (k := (q).toNat) (m := (q + (nth (cutList l t) i)).toNat) (Rd.list.1 (hS37o3x2.rdS 5 rfl)) (by omega) (by omega)))
    refine wpR_q 12 (by kernel_rfl) rfl (quietAt rfl rfl (q_sliceRd (k := (q).toNat) (m := (q + (nth (cutList l t) i)).toNat) rfl Try.underlying22 el_Int_3 rfl (hS37o3x2.rdl 5 rfl) (lo1 rfl (by omega)) (lo1 rfl (by omega)) (by omega) (by omega))) ?_
    refine wpR_n [13, 17] (by kernel_rfl) ?_
    refine List.forall_mem_cons.2 ⟨?_, List.forall_mem_cons.2 ⟨?_, List.forall_mem_nil _⟩⟩
    · refine exE rfl rfl ?_
      refine e_call rfl Try.call24 (arr2 (v0 := Value.agg #[I ((nth l i).Signs), u37o3n1, u37o3n2]) (v1 := (sliceV 1 vt ((q).toNat) ((q + (nth (cutList l t) i)).toNat))) rfl rfl) (Takes u37o3n1 u37o3n2 ((sliceV 1 vt ((q).toNat) ((q + (nth (cutList l t) i)).toNat))) (nth l i) ((t.take ((q + (nth (cutList l t) i)).toNat)).drop ((q).toNat)) (hS37o12.rdN 2 rfl) (hS37o12.rdN 1 rfl) (by assumption) (hS37o12.rdN 0 rfl)) ?_
      rintro _ H37o13 ⟨hxx, rfl⟩
      have hS37o13 : St H0 NoB NoB [rdE (sliceV 1 vt ((q).toNat) ((q + (nth (cutList l t) i)).toNat)) ((t.take ((q + (nth (cutList l t) i)).toNat)).drop ((q).toNat) : List Int), rdE u37o3n2 ((nth l i).Takes : List Bool), rdE u37o3n1 ((nth l i).Next : List (List Int)), blkE g11 (.cells #[I ((cutFault l t).1), I ((cutFault l t).2)] 24), rdE r7 (cutList l t : List Int), rdE vl (l : List Auto), rdE vt (t : List Int)] H37o13 := hS37o12.ext hxx
      refine ⟨Ext.mono hxx (fun _ h => h.elim), ?_⟩
      refine wpR_q 14 (by kernel_rfl) rfl (quietAt rfl rfl (q_move (v := Value.tuple #[B ((autoTakes (nth l i) ((t.take ((q + (nth (cutList l t) i)).toNat)).drop ((q).toNat))).1), Value.agg #[I ((autoTakes (nth l i) ((t.take ((q + (nth (cutList l t) i)).toNat)).drop ((q).toNat))).2.1), I ((autoTakes (nth l i) ((t.take ((q + (nth (cutList l t) i)).toNat)).drop ((q).toNat))).2.2)]]) rfl rfl)) ?_
      refine wpR_q 15 (by kernel_rfl) rfl (quietAt rfl rfl (q_extract (vs := #[B ((autoTakes (nth l i) ((t.take ((q + (nth (cutList l t) i)).toNat)).drop ((q).toNat))).1), Value.agg #[I ((autoTakes (nth l i) ((t.take ((q + (nth (cutList l t) i)).toNat)).drop ((q).toNat))).2.1), I ((autoTakes (nth l i) ((t.take ((q + (nth (cutList l t) i)).toNat)).drop ((q).toNat))).2.2)]]) (v := B ((autoTakes (nth l i) ((t.take ((q + (nth (cutList l t) i)).toNat)).drop ((q).toNat))).1)) rfl rfl rfl)) ?_
      refine wpR_q 16 (by kernel_rfl) rfl (quietAt rfl rfl (q_extract (vs := #[B ((autoTakes (nth l i) ((t.take ((q + (nth (cutList l t) i)).toNat)).drop ((q).toNat))).1), Value.agg #[I ((autoTakes (nth l i) ((t.take ((q + (nth (cutList l t) i)).toNat)).drop ((q).toNat))).2.1), I ((autoTakes (nth l i) ((t.take ((q + (nth (cutList l t) i)).toNat)).drop ((q).toNat))).2.2)]]) (v := Value.agg #[I ((autoTakes (nth l i) ((t.take ((q + (nth (cutList l t) i)).toNat)).drop ((q).toNat))).2.1), I ((autoTakes (nth l i) ((t.take ((q + (nth (cutList l t) i)).toNat)).drop ((q).toNat))).2.2)]) rfl rfl rfl)) ?_
      refine wpR_n [17] (by kernel_rfl) ?_
      refine List.forall_mem_cons.2 ⟨?_, List.forall_mem_nil _⟩
      refine exE rfl rfl ?_
      refine e_alloc rfl Try.zeroValue24 hS37o13 (fun g37o17 H37o17 hS37o17 hxx => ?_)
      replace hS37o17 : St H0 NoB NoB [blkE g37o17 (.cells #[I (0), I (0)] 24), rdE (sliceV 1 vt ((q).toNat) ((q + (nth (cutList l t) i)).toNat)) ((t.take ((q + (nth (cutList l t) i)).toNat)).drop ((q).toNat) : List Int), rdE u37o3n2 ((nth l i).Takes : List Bool), rdE u37o3n1 ((nth l i).Next : List (List Int)), blkE g11 (.cells #[I ((cutFault l t).1), I ((cutFault l t).2)] 24), rdE r7 (cutList l t : List Int), rdE vl (l : List Auto), rdE vt (t : List Int)] H37o17 := hS37o17
      refine ⟨Ext.mono hxx (fun _ h => h.elim), ?_⟩
      refine wpR_q 18 (by kernel_rfl) rfl (quietAt rfl rfl (q_assign (v := B ((autoTakes (nth l i) ((t.take ((q + (nth (cutList l t) i)).toNat)).drop ((q).toNat))).1)) rfl rfl)) ?_
      refine wpR_n [19] (by kernel_rfl) ?_
      refine List.forall_mem_cons.2 ⟨?_, List.forall_mem_nil _⟩
      refine exE rfl rfl ?_
      refine e_storeBlkA (cs' := #[I ((autoTakes (nth l i) ((t.take ((q + (nth (cutList l t) i)).toNat)).drop ((q).toNat))).2.1), I ((autoTakes (nth l i) ((t.take ((q + (nth (cutList l t) i)).toNat)).drop ((q).toNat))).2.2)]) rfl rfl rfl Try.sizeOf24 rfl rfl (List.forall_mem_cons.2 ⟨rfl, List.forall_mem_cons.2 ⟨rfl, List.forall_mem_nil _⟩⟩) hS37o17 (fun H37o19 hS37o19 hxx => ?_)
      replace hS37o19 : St H0 NoB NoB [blkE g37o17 (.cells #[I ((autoTakes (nth l i) ((t.take ((q + (nth (cutList l t) i)).toNat)).drop ((q).toNat))).2.1), I ((autoTakes (nth l i) ((t.take ((q + (nth (cutList l t) i)).toNat)).drop ((q).toNat))).2.2)] 24), rdE (sliceV 1 vt ((q).toNat) ((q + (nth (cutList l t) i)).toNat)) ((t.take ((q + (nth (cutList l t) i)).toNat)).drop ((q).toNat) : List Int), rdE u37o3n2 ((nth l i).Takes : List Bool), rdE u37o3n1 ((nth l i).Next : List (List Int)), blkE g11 (.cells #[I ((cutFault l t).1), I ((cutFault l t).2)] 24), rdE r7 (cutList l t : List Int), rdE vl (l : List Auto), rdE vt (t : List Int)] H37o19 := hS37o19
      refine ⟨Ext.mono hxx (labS_of 0 rfl (fun _ _ => trivial)), ?_⟩
      refine wpR_end (by kernel_rfl) ?_
      exact ⟨g37o17, hu37o30, a34_0, a34_1, a34_6, a34_9, a34_10, rfl, rfl, (hS37o19.drop (List.Sublist.cons_cons _ (List.Sublist.cons _ (List.Sublist.cons _ (List.Sublist.cons _ (List.Sublist.cons_cons _ (List.Sublist.cons_cons _ (List.Sublist.cons_cons _ (List.Sublist.cons_cons _ (List.Sublist.slnil))))))))))⟩
    · refine exE rfl rfl ?_
      refine e_alloc rfl Try.zeroValue24 hS37o12 (fun g37o17 H37o17 hS37o17 hxx => ?_)
      replace hS37o17 : St H0 NoB NoB [blkE g37o17 (.cells #[I (0), I (0)] 24), rdE (sliceV 1 vt ((q).toNat) ((q + (nth (cutList l t) i)).toNat)) ((t.take ((q + (nth (cutList l t) i)).toNat)).drop ((q).toNat) : List Int), rdE u37o3n2 ((nth l i).Takes : List Bool), rdE u37o3n1 ((nth l i).Next : List (List Int)), blkE g11 (.cells #[I ((cutFault l t).1), I ((cutFault l t).2)] 24), rdE r7 (cutList l t : List Int), rdE vl (l : List Auto), rdE vt (t : List Int)] H37o17 := hS37o17
      refine ⟨Ext.mono hxx (fun _ h => h.elim), ?_⟩
      refine wpR_n [13] (by kernel_rfl) ?_
      refine List.forall_mem_cons.2 ⟨?_, List.forall_mem_nil _⟩
      refine exE rfl rfl ?_
      refine e_call rfl Try.call24 (arr2 (v0 := Value.agg #[I ((nth l i).Signs), u37o3n1, u37o3n2]) (v1 := (sliceV 1 vt ((q).toNat) ((q + (nth (cutList l t) i)).toNat))) rfl rfl) (Takes u37o3n1 u37o3n2 ((sliceV 1 vt ((q).toNat) ((q + (nth (cutList l t) i)).toNat))) (nth l i) ((t.take ((q + (nth (cutList l t) i)).toNat)).drop ((q).toNat)) (hS37o17.rdN 3 rfl) (hS37o17.rdN 2 rfl) (by assumption) (hS37o17.rdN 1 rfl)) ?_
      rintro _ H37o13 ⟨hxx, rfl⟩
      have hS37o13 : St H0 NoB NoB [blkE g37o17 (.cells #[I (0), I (0)] 24), rdE (sliceV 1 vt ((q).toNat) ((q + (nth (cutList l t) i)).toNat)) ((t.take ((q + (nth (cutList l t) i)).toNat)).drop ((q).toNat) : List Int), rdE u37o3n2 ((nth l i).Takes : List Bool), rdE u37o3n1 ((nth l i).Next : List (List Int)), blkE g11 (.cells #[I ((cutFault l t).1), I ((cutFault l t).2)] 24), rdE r7 (cutList l t : List Int), rdE vl (l : List Auto), rdE vt (t : List Int)] H37o13 := hS37o17.ext hxx
      refine ⟨Ext.mono hxx (fun _ h => h.elim), ?_⟩
      refine wpR_q 14 (by kernel_rfl) rfl (quietAt rfl rfl (q_move (v := Value.tuple #[B ((autoTakes (nth l i) ((t.take ((q + (nth (cutList l t) i)).toNat)).drop ((q).toNat))).1), Value.agg #[I ((autoTakes (nth l i) ((t.take ((q + (nth (cutList l t) i)).toNat)).drop ((q).toNat))).2.1), I ((autoTakes (nth l i) ((t.take ((q + (nth (cutList l t) i)).toNat)).drop ((q).toNat))).2.2)]]) rfl rfl)) ?_
      refine wpR_q 15 (by kernel_rfl) rfl (quietAt rfl rfl (q_extract (vs := #[B ((autoTakes (nth l i) ((t.take ((q + (nth (cutList l t) i)).toNat)).drop ((q).toNat))).1), Value.agg #[I ((autoTakes (nth l i) ((t.take ((q + (nth (cutList l t) i)).toNat)).drop ((q).toNat))).2.1), I ((autoTakes (nth l i) ((t.take ((q + (nth (cutList l t) i)).toNat)).drop ((q).toNat))).2.2)]]) (v := B ((autoTakes (nth l i) ((t.take ((q + (nth (cutList l t) i)).toNat)).drop ((q).toNat))).1)) rfl rfl rfl)) ?_
      refine wpR_q 16 (by kernel_rfl) rfl (quietAt rfl rfl (q_extract (vs := #[B ((autoTakes (nth l i) ((t.take ((q + (nth (cutList l t) i)).toNat)).drop ((q).toNat))).1), Value.agg #[I ((autoTakes (nth l i) ((t.take ((q + (nth (cutList l t) i)).toNat)).drop ((q).toNat))).2.1), I ((autoTakes (nth l i) ((t.take ((q + (nth (cutList l t) i)).toNat)).drop ((q).toNat))).2.2)]]) (v := Value.agg #[I ((autoTakes (nth l i) ((t.take ((q + (nth (cutList l t) i)).toNat)).drop ((q).toNat))).2.1), I ((autoTakes (nth l i) ((t.take ((q + (nth (cutList l t) i)).toNat)).drop ((q).toNat))).2.2)]) rfl rfl rfl)) ?_
      refine wpR_q 18 (by kernel_rfl) rfl (quietAt rfl rfl (q_assign (v := B ((autoTakes (nth l i) ((t.take ((q + (nth (cutList l t) i)).toNat)).drop ((q).toNat))).1)) rfl rfl)) ?_
      refine wpR_n [19] (by kernel_rfl) ?_
      refine List.forall_mem_cons.2 ⟨?_, List.forall_mem_nil _⟩
      refine exE rfl rfl ?_
      refine e_storeBlkA (cs' := #[I ((autoTakes (nth l i) ((t.take ((q + (nth (cutList l t) i)).toNat)).drop ((q).toNat))).2.1), I ((autoTakes (nth l i) ((t.take ((q + (nth (cutList l t) i)).toNat)).drop ((q).toNat))).2.2)]) rfl rfl rfl Try.sizeOf24 rfl rfl (List.forall_mem_cons.2 ⟨rfl, List.forall_mem_cons.2 ⟨rfl, List.forall_mem_nil _⟩⟩) hS37o13 (fun H37o19 hS37o19 hxx => ?_)
      replace hS37o19 : St H0 NoB NoB [blkE g37o17 (.cells #[I ((autoTakes (nth l i) ((t.take ((q + (nth (cutList l t) i)).toNat)).drop ((q).toNat))).2.1), I ((autoTakes (nth l i) ((t.take ((q + (nth (cutList l t) i)).toNat)).drop ((q).toNat))).2.2)] 24), rdE (sliceV 1 vt ((q).toNat) ((q + (nth (cutList l t) i)).toNat)) ((t.take ((q + (nth (cutList l t) i)).toNat)).drop ((q).toNat) : List Int), rdE u37o3n2 ((nth l i).Takes : List Bool), rdE u37o3n1 ((nth l i).Next : List (List Int)), blkE g11 (.cells #[I ((cutFault l t).1), I ((cutFault l t).2)] 24), rdE r7 (cutList l t : List Int), rdE vl (l : List Auto), rdE vt (t : List Int)] H37o19 := hS37o19
      refine ⟨Ext.mono hxx (labS_of 0 rfl (fun _ _ => trivial)), ?_⟩
      refine wpR_end (by kernel_rfl) ?_
      exact ⟨g37o17, hu37o30, a34_0, a34_1, a34_6, a34_9, a34_10, rfl, rfl, (hS37o19.drop (List.Sublist.cons_cons _ (List.Sublist.cons _ (List.Sublist.cons _ (List.Sublist.cons _ (List.Sublist.cons_cons _ (List.Sublist.cons_cons _ (List.Sublist.cons_cons _ (List.Sublist.cons_cons _ (List.Sublist.slnil))))))))))⟩
  rintro f38 H38 ⟨g37o17, hu37o30, a38_0, a38_1, a38_6, a38_9, a38_10, a38_11, a38_12, hS38⟩
  clear a34_0 a34_1 a34_10 a34_53 a34_6 a34_9
  refine wpF_seq ?_
  refine wpF_seq ?_
  refine wpF_cut (fun f H => f 0 = vl ∧ f 1 = vt ∧ f 6 = r7 ∧ f 9 = I (q) ∧ f 10 = I ((i : Int)) ∧ f 77 = B (decide ((((autoTakes (nth l i) ((t.take ((q + (nth (cutList l t) i)).toNat)).drop ((q).toNat))).2.1) ≠ 0) ∨ ((!((autoTakes (nth l i) ((t.take ((q + (nth (cutList l t) i)).toNat)).drop ((q).toNat))).1)) = true))) ∧ H38 = H) ?_ ?_
  · refine wpF_region ?_
    refine wpL_q (U := NoB) rfl (q_fieldAddr rfl Try.underlying24 rfl Try.sizeOf3 a38_12) ?_
    refine wpL_q (U := NoB) rfl (q_loadBlk rfl rfl Try.isAgg3 (hS38.blk 0 rfl) rfl (fun h => h)) ?_
    refine wpL_q (U := NoB) rfl (q_neq rfl rfl rfl) ?_
    refine wpL_q (U := NoB) rfl (q_move (v := B (decide (((autoTakes (nth l i) ((t.take ((q + (nth (cutList l t) i)).toNat)).drop ((q).toNat))).2.1) ≠ 0))) rfl rfl) ?_
    by_cases hg39 : ((autoTakes (nth l i) ((t.take ((q + (nth (cutList l t) i)).toNat)).drop ((q).toNat))).2.1) ≠ 0
    · have hb40 := Eq.trans rfl (congrArg B (decide_eq_true hg39))
      refine wpL_gs rfl rfl rfl hb40 rfl ?_
      refine wpL_gs rfl rfl rfl hb40 rfl ?_
      refine wpL_q (U := NoB) rfl (q_pickT (v := B (true)) rfl hb40 rfl) ?_
      exact ⟨a38_0, a38_1, a38_6, a38_9, a38_10, (Eq.trans rfl (congrArg B ((decide_eq_true (Or.inl hg39)).symm))), rfl⟩
    · have hb41 := Eq.trans rfl (congrArg B (decide_eq_false hg39))
      refine wpL_gq (U := NoB) rfl rfl rfl hb41 (q_move (v := B ((autoTakes (nth l i) ((t.take ((q + (nth (cutList l t) i)).toNat)).drop ((q).toNat))).1)) rfl a38_11) ?_
      refine wpL_gq (U := NoB) rfl rfl rfl hb41 (q_not rfl rfl) ?_
      refine wpL_q (U := NoB) rfl (q_pickF (v := B (!((autoTakes (nth l i) ((t.take ((q + (nth (cutList l t) i)).toNat)).drop ((q).toNat))).1))) rfl hb41 rfl) ?_
      exact ⟨a38_0, a38_1, a38_6, a38_9, a38_10, (Eq.trans rfl (congrArg B (bool_congr_of ((Iff.rfl).trans (((or_iff_right hg39).trans Iff.rfl)).symm)))), rfl⟩
  rintro f42 _ ⟨a42_0, a42_1, a42_6, a42_9, a42_10, a42_77, rfl⟩
  clear a38_0 a38_1 a38_10 a38_11 a38_12 a38_6 a38_9
  refine wpF_condP a42_77 (fun hbad => ?t47) (fun hbad => ?e47)
  case t47 =>
    refine wpF_seq ?_
    refine wpF_cut (fun f H => f 4 = B (false) ∧ H38 = H) ?_ ?_
    · refine wpF_region ?_
      refine wpL_q (U := NoB) rfl (q_assign (v := B (false)) rfl rfl) ?_
      exact ⟨rfl, rfl⟩
    rintro f44 _ ⟨a44_4, rfl⟩
    clear a42_0 a42_1 a42_10 a42_6 a42_77 a42_9
    refine wpF_ret ?_
    refine ⟨_, resT a44_4 resN, hS38.frame, ?_⟩
    show (B (false)) = B true
    exfalso
    rw [hto] at hbad
    simp at hbad
  refine wpF_skip ?_
  refine wpF_cut (fun f H => f 0 = vl ∧ f 1 = vt ∧ f 6 = r7 ∧ f 9 = I (q + (nth (cutList l t) i)) ∧ f 10 = I ((i : Int)) ∧ H38 = H) ?_ ?_
  · refine wpF_region ?_
    refine wpL_q (U := NoB) rfl (q_move (v := I (q)) rfl a42_9) ?_
    refine wpL_q (U := NoB) rfl (q_move (v := r7) rfl a42_6) ?_
    refine wpL_q (U := NoB) rfl (q_move (v := I ((i : Int))) rfl a42_10) ?_
    refine wpL_q (U := NoB) rfl (q_indexRd (k := i) rfl Try.underlying22 el_Int_3 rfl rfl (hS38.rdl 2 rfl) (by omega) (by omega)) ?_
    refine wpL_q (U := NoB) rfl (q_loadInt (k := i) rfl rfl el_Int_3 (hS38.rdl 2 rfl) (by omega) (fun _ h => h)) ?_
    refine wpL_q (U := NoB) rfl (q_add rfl rfl rfl (by constructor <;> omega)) ?_
    refine wpL_q (U := NoB) rfl (q_assign (v := I (q + (nth (cutList l t) i))) rfl rfl) ?_
    exact ⟨a42_0, a42_1, a42_6, rfl, a42_10, rfl⟩
  rintro f45 _ ⟨a45_0, a45_1, a45_6, a45_9, a45_10, rfl⟩
  clear a42_0 a42_1 a42_10 a42_6 a42_77 a42_9
  refine wpF_cut (fun f H => f 0 = vl ∧ f 1 = vt ∧ f 6 = r7 ∧ f 9 = I (q + (nth (cutList l t) i)) ∧ f 10 = I ((i : Int) + 1) ∧ H38 = H) ?_ ?_
  · refine wpF_region ?_
    refine wpL_q (U := NoB) rfl (q_move (v := I ((i : Int))) rfl a45_10) ?_
    refine wpL_q (U := NoB) rfl (q_add rfl rfl rfl (by constructor <;> omega)) ?_
    refine wpL_q (U := NoB) rfl (q_assign (v := I ((i : Int) + 1)) rfl rfl) ?_
    exact ⟨a45_0, a45_1, a45_6, a45_9, rfl, rfl⟩
  rintro f46 _ ⟨a46_0, a46_1, a46_6, a46_9, a46_10, rfl⟩
  clear a45_0 a45_1 a45_10 a45_6 a45_9
  refine ⟨_, ?_, i + 1, q + (nth (cutList l t) i), rfl, (by omega), hc3, a46_0, a46_1, a46_6, (Eq.trans a46_9 (congrArg I (by omega))), (Eq.trans a46_10 (congrArg I (by omega))), (hS38.drop (List.Sublist.cons _ (List.Sublist.cons_cons _ (List.Sublist.cons_cons _ (List.Sublist.cons_cons _ (List.Sublist.cons_cons _ (List.Sublist.slnil)))))))⟩
  omega

end Go.Um
