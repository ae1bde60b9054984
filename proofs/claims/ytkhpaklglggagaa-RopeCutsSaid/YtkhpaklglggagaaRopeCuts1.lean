import Derived.Test.YtkhpaklglggagaaProg
import Derived.Test.YtkhpaklglggagaaRopeC1
namespace Go.Um
open Go.Proofs
open GoT (sz ag rdc)
open KeyT (kv)



set_option maxRecDepth 100000 in
theorem RopeCuts_L {H0 : Heap} (vl vt : Value) (l : List Auto) (t : List Int) (rl : Rd NoB H0 vl l) (rt : Rd NoB H0 vt t) : CallsH Try.prog 6 #[vl, vt] H0 (fun rv_ H' => Ext NoB H0 H' ∧ rv_ = B true) := by
  have hsl := (Rd.list.1 rl).small
  have hst := (Rd.list.1 rt).small
  have hS0 : St H0 NoB NoB [rdE vl (l : List Auto), rdE vt (t : List Int)] H0 := St.arg (St.arg (St.start (fun _ h => h.elim)) (Bl0.nil) rt (fun _ h => h)) (Bl0.cons (Bl0.nil)) rl (fun _ h => h)
  refine callsH_of_wpF (args := [vl, vt]) (rs := [.tmp 4]) Try.func6 rfl Try.ntmps6 Try.results6 (by kernel_rfl) (Nat.le_of_ble_eq_true rfl) ?_
  have a0_0 : argF [vl, vt] 0 = vl := rfl
  have a0_1 : argF [vl, vt] 1 = vt := rfl
  generalize argF [vl, vt] = f0 at *
  refine wpF_seq ?_
  refine wpF_cut (fun f H => f 0 = vl ∧ f 1 = vt ∧ H0 = H) ?_ ?_
  · refine wpF_region ?_
    refine wpL_q (U := NoB) rfl (q_assign (v := B (false)) rfl rfl) ?_
    exact ⟨a0_0, a0_1, rfl⟩
  rintro f1 _ ⟨a1_0, a1_1, rfl⟩
  clear a0_0 a0_1
  refine wpF_seq ?_
  refine wpF_seq ?_
  refine wpF_cut (fun f H => f 0 = vl ∧ f 1 = vt ∧ f 20 = B (decide ((8 < (l.length : Int)) ∨ (40 < (t.length : Int)))) ∧ H0 = H) ?_ ?_
  · refine wpF_region ?_
    refine wpL_q (U := NoB) rfl (q_move (v := vl) rfl a1_0) ?_
    refine wpL_q (U := NoB) rfl (q_lenRd rfl Try.underlying48 rfl (hS0.rdl 0 rfl)) ?_
    refine wpL_q (U := NoB) rfl (q_gtr rfl rfl rfl) ?_
    refine wpL_q (U := NoB) rfl (q_move (v := B (decide (8 < (l.length : Int)))) rfl rfl) ?_
    by_cases hg2 : 8 < (l.length : Int)
    · have hb3 := Eq.trans rfl (congrArg B (decide_eq_true hg2))
      refine wpL_gs rfl rfl rfl hb3 rfl ?_
      refine wpL_gs rfl rfl rfl hb3 rfl ?_
      refine wpL_gs rfl rfl rfl hb3 rfl ?_
      refine wpL_q (U := NoB) rfl (q_pickT (v := B (true)) rfl hb3 rfl) ?_
      exact ⟨a1_0, a1_1, (Eq.trans rfl (congrArg B ((decide_eq_true (Or.inl hg2)).symm))), rfl⟩
    · have hb4 := Eq.trans rfl (congrArg B (decide_eq_false hg2))
      refine wpL_gq (U := NoB) rfl rfl rfl hb4 (q_move (v := vt) rfl a1_1) ?_
      refine wpL_gq (U := NoB) rfl rfl rfl hb4 (q_lenRd rfl Try.underlying22 rfl (hS0.rdl 1 rfl)) ?_
      refine wpL_gq (U := NoB) rfl rfl rfl hb4 (q_gtr rfl rfl rfl) ?_
      refine wpL_q (U := NoB) rfl (q_pickF (v := B (decide (40 < (t.length : Int)))) rfl hb4 rfl) ?_
      exact ⟨a1_0, a1_1, (Eq.trans rfl (congrArg B (decide_congr_of ((Iff.rfl).trans (((or_iff_right hg2).trans Iff.rfl)).symm)))), rfl⟩
  rintro f5 _ ⟨a5_0, a5_1, a5_20, rfl⟩
  clear a1_0 a1_1
  refine wpF_condP a5_20 (fun hbig => ?t144) (fun hbig => ?e144)
  case t144 =>
    refine wpF_seq ?_
    refine wpF_cut (fun f H => f 4 = B (true) ∧ H0 = H) ?_ ?_
    · refine wpF_region ?_
      refine wpL_q (U := NoB) rfl (q_assign (v := B (true)) rfl rfl) ?_
      exact ⟨rfl, rfl⟩
    rintro f7 _ ⟨a7_4, rfl⟩
    clear a5_0 a5_1 a5_20
    refine wpF_ret ?_
    refine ⟨_, resT a7_4 resN, hS0.frame, ?_⟩
    show (B (true)) = B true
    rfl
  refine wpF_skip ?_
  refine wpF_seq ?_
  refine wpF_cut (fun f H => ∃ (g8 : Nat), f 0 = vl ∧ f 1 = vt ∧ f 5 = PT g8 0 ∧ St H0 NoB NoB [blkE g8 (.cells #[I (0), I (0)] 24), rdE vl (l : List Auto), rdE vt (t : List Int)] H) ?_ ?_
  · refine wpF_region ?_
    refine wpL_q (U := NoB) rfl (q_build (v := Value.agg #[I (0), I (0)]) rfl par0 (fun w => by kernel_rfl)) ?_
    refine wpL_o rfl ?_
    refine e_alloc rfl Try.zeroValue24 hS0 (fun g8 H9 hS10 hxx => ?_)
    replace hS10 : St H0 NoB NoB [blkE g8 (.cells #[I (0), I (0)] 24), rdE vl (l : List Auto), rdE vt (t : List Int)] H9 := hS10
    refine wpL_o rfl ?_
    refine e_storeBlkA (cs' := #[I (0), I (0)]) rfl rfl rfl Try.sizeOf24 rfl rfl (List.forall_mem_cons.2 ⟨rfl, List.forall_mem_cons.2 ⟨rfl, List.forall_mem_nil _⟩⟩) hS10 (fun H11 hS12 hxx => ?_)
    replace hS12 : St H0 NoB NoB [blkE g8 (.cells #[I (0), I (0)] 24), rdE vl (l : List Auto), rdE vt (t : List Int)] H11 := hS12
    exact ⟨g8, a5_0, a5_1, rfl, hS12⟩
  rintro f13 H13 ⟨g8, a13_0, a13_1, a13_5, hS13⟩
  clear a5_0 a5_1 a5_20
  refine wpF_seq ?_
  refine wpF_seq ?_
  refine wpF_cut (fun f H => f 0 = vl ∧ f 1 = vt ∧ f 5 = PT g8 0 ∧ f 25 = B (decide (¬ (1 ≤ (l.length : Int) ∧ (l.length : Int) ≤ 6))) ∧ St H0 NoB NoB [blkE g8 (.cells #[I (0), I (0)] 24), rdE vl (l : List Auto), rdE vt (t : List Int)] H) ?_ ?_
  · refine wpF_region ?_
    refine wpL_q (U := NoB) rfl (q_move (v := vl) rfl a13_0) ?_
    refine wpL_q (U := NoB) rfl (q_lenRd rfl Try.underlying48 rfl (hS13.rdl 1 rfl)) ?_
    refine wpL_o rfl ?_
    refine e_call rfl Try.call16 (arr3 (v0 := I ((l.length : Int))) (v1 := I (1)) (v2 := I (6)) rfl rfl rfl) (in_L (l.length : Int) 1 6) ?_
    rintro _ H14 ⟨hxx, rfl⟩
    have hS15 : St H0 NoB NoB [blkE g8 (.cells #[I (0), I (0)] 24), rdE vl (l : List Auto), rdE vt (t : List Int)] H14 := hS13.ext hxx
    refine wpL_q (U := NoB) rfl (q_notP rfl rfl) ?_
    exact ⟨a13_0, a13_1, a13_5, rfl, hS15⟩
  rintro f17 H17 ⟨a17_0, a17_1, a17_5, a17_25, hS17⟩
  clear a13_0 a13_1 a13_5
  refine wpF_cut (fun f H => ∃ (c : Int), ∃ (a : Int), (CutA l t 0 c a) ∧ f 0 = vl ∧ f 1 = vt ∧ f 5 = PT g8 0 ∧ St H0 NoB NoB [blkE g8 (.cells #[I (c), I (a)] 24), rdE vl (l : List Auto), rdE vt (t : List Int)] H) ?_ ?_
  · refine wpF_condP a17_25 (fun hmany => ?t26) (fun hmany => ?e26)
    case e26 =>
      refine wpF_skip ?_
      exact ⟨0, 0, (.inl ⟨rfl, rfl, by omega, fun j hj => absurd hj (Nat.not_lt_zero j)⟩), a17_0, a17_1, a17_5, hS17⟩
    refine wpF_cut (fun f H => f 0 = vl ∧ f 1 = vt ∧ f 5 = PT g8 0 ∧ St H0 NoB NoB [blkE g8 (.cells #[I (2), I (-4)] 24), rdE vl (l : List Auto), rdE vt (t : List Int)] H) ?_ ?_
    · refine wpF_region ?_
      refine wpL_o rfl ?_
      refine e_call rfl Try.call15 (arr2 (v0 := I (2)) (v1 := I (-4)) rfl rfl) (fault_L 2 (-4)) ?_
      rintro _ H20 ⟨hxx, rfl⟩
      have hS21 : St H0 NoB NoB [blkE g8 (.cells #[I (0), I (0)] 24), rdE vl (l : List Auto), rdE vt (t : List Int)] H20 := hS17.ext hxx
      refine wpL_o rfl ?_
      refine e_storeBlkA (cs' := #[I (2), I (-4)]) rfl a17_5 rfl Try.sizeOf24 rfl rfl (List.forall_mem_cons.2 ⟨rfl, List.forall_mem_cons.2 ⟨rfl, List.forall_mem_nil _⟩⟩) hS21 (fun H23 hS24 hxx => ?_)
      replace hS24 : St H0 NoB NoB [blkE g8 (.cells #[I (2), I (-4)] 24), rdE vl (l : List Auto), rdE vt (t : List Int)] H23 := hS24
      exact ⟨a17_0, a17_1, a17_5, hS24⟩
    rintro f25 H25 ⟨a25_0, a25_1, a25_5, hS25⟩
    clear a17_0 a17_1 a17_25 a17_5
    exact ⟨2, -4, (.inr ⟨by decide, cutFault_many (by omega)⟩), a25_0, a25_1, a25_5, hS25⟩
  rintro f18 H18 ⟨c, a, hw0, a18_0, a18_1, a18_5, hS18⟩
  clear a17_0 a17_1 a17_25 a17_5
  refine wpF_seq ?_
  refine wpF_seq ?_
  refine wpF_cut (fun f H => f 0 = vl ∧ f 1 = vt ∧ f 5 = PT g8 0 ∧ f 6 = I (0) ∧ H18 = H) ?_ ?_
  · refine wpF_region ?_
    refine wpL_q (U := NoB) rfl (q_assign (v := I (0)) rfl rfl) ?_
    exact ⟨a18_0, a18_1, a18_5, rfl, rfl⟩
  rintro f27 _ ⟨a27_0, a27_1, a27_5, a27_6, rfl⟩
  clear a18_0 a18_1 a18_5
  refine wpF_block ?_
  refine wpF_loop (fun mz f H => ∃ (k : Nat), ∃ (c1 : Int), ∃ (a1 : Int), mz = l.length - k ∧ (k ≤ l.length) ∧ (CutA l t k c1 a1) ∧ f 0 = vl ∧ f 1 = vt ∧ f 5 = PT g8 0 ∧ f 6 = I ((k : Int)) ∧ St H0 NoB NoB [blkE g8 (.cells #[I (c1), I (a1)] 24), rdE vl (l : List Auto), rdE vt (t : List Int)] H) (l.length - 0) ?_ ?_
  · exact ⟨0, c, a, rfl, Nat.zero_le _, hw0, a27_0, a27_1, a27_5, (Eq.trans a27_6 (congrArg I (by omega))), hS18⟩
  intro m28 f28 H28 hI28
  obtain ⟨k, c1, a1, hm28, hk, hw, a28_0, a28_1, a28_5, a28_6, hS28⟩ := hI28
  clear a27_0 a27_1 a27_5 a27_6
  refine wpF_seq ?_
  refine wpF_seq ?_
  refine wpF_cut (fun f H => f 0 = vl ∧ f 1 = vt ∧ f 5 = PT g8 0 ∧ f 6 = I ((k : Int)) ∧ f 35 = B (decide (((k : Int) < (l.length : Int)) ∧ (c1 = 0))) ∧ H28 = H) ?_ ?_
  · refine wpF_region ?_
    refine wpL_q (U := NoB) rfl (q_move (v := I ((k : Int))) rfl a28_6) ?_
    refine wpL_q (U := NoB) rfl (q_move (v := vl) rfl a28_0) ?_
    refine wpL_q (U := NoB) rfl (q_lenRd rfl Try.underlying48 rfl (hS28.rdl 1 rfl)) ?_
    refine wpL_q (U := NoB) rfl (q_lss rfl rfl rfl) ?_
    refine wpL_q (U := NoB) rfl (q_move (v := B (decide ((k : Int) < (l.length : Int)))) rfl rfl) ?_
    by_cases hg29 : (k : Int) < (l.length : Int)
    · have hb30 := Eq.trans rfl (congrArg B (decide_eq_true hg29))
      refine wpL_gq (U := NoB) rfl rfl rfl hb30 (q_fieldAddr rfl Try.underlying24 rfl Try.sizeOf3 a28_5) ?_
      refine wpL_gq (U := NoB) rfl rfl rfl hb30 (q_loadBlk rfl rfl Try.isAgg3 (hS28.blk 0 rfl) rfl (fun h => h)) ?_
      refine wpL_gq (U := NoB) rfl rfl rfl hb30 (q_eql rfl rfl rfl) ?_
      refine wpL_q (U := NoB) rfl (q_pickT (v := B (decide (c1 = 0))) rfl hb30 rfl) ?_
      exact ⟨a28_0, a28_1, a28_5, a28_6, (Eq.trans rfl (congrArg B (decide_congr_of ((Iff.rfl).trans (((and_iff_right hg29).trans Iff.rfl)).symm)))), rfl⟩
    · have hb31 := Eq.trans rfl (congrArg B (decide_eq_false hg29))
      refine wpL_gs rfl rfl rfl hb31 rfl ?_
      refine wpL_gs rfl rfl rfl hb31 rfl ?_
      refine wpL_gs rfl rfl rfl hb31 rfl ?_
      refine wpL_q (U := NoB) rfl (q_pickF (v := B (false)) rfl hb31 rfl) ?_
      exact ⟨a28_0, a28_1, a28_5, a28_6, (Eq.trans rfl (congrArg B ((decide_eq_false (fun h => hg29 h.1)).symm))), rfl⟩
  rintro f32 _ ⟨a32_0, a32_1, a32_5, a32_6, a32_35, rfl⟩
  clear a28_0 a28_1 a28_5 a28_6
  refine wpF_condP a32_35 (fun hlt => ?t143) (fun hlt => ?e143)
  case t143 =>
    refine wpF_skip ?_
    refine wpF_seq ?_
    refine wpF_block ?_
    refine wpF_seq ?_
    refine wpF_seq ?_
    refine wpF_cut (fun f H => f 0 = vl ∧ f 1 = vt ∧ f 5 = PT g8 0 ∧ f 6 = I ((k : Int)) ∧ f 44 = B (decide (60 < (((nth l k).Next).length : Int))) ∧ H28 = H) ?_ ?_
    · refine wpF_region ?_
      refine wpL_q (U := NoB) rfl (q_move (v := vl) rfl a32_0) ?_
      refine wpL_q (U := NoB) rfl (q_move (v := I ((k : Int))) rfl a32_6) ?_
      refine wpL_q (U := NoB) rfl (q_indexRd (k := k) rfl Try.underlying48 el_Auto_36 rfl rfl (hS28.rdl 1 rfl) (by omega) (by omega)) ?_
      refine wpL_q (U := NoB) rfl (q_fieldE (k := k) rfl Try.underlying36 rfl Try.sizeOf27 rfl rfl (hS28.rdl 1 rfl) (by omega)) ?_
      obtain ⟨_, hcu34, hFu34⟩ := (Rd.list.1 (hS28.rdS 1 rfl)).cellF k (by omega)
      obtain ⟨u34n1, u34n2, rfl, hu340, hu341, hu342⟩ := hcu34
      have hS35 : St H0 NoB NoB [rdE u34n1 ((nth l k).Next : List (List Int)), blkE g8 (.cells #[I (c1), I (a1)] 24), rdE vl (l : List Auto), rdE vt (t : List Int)] H28 := hS28.rd (Rd.list.2 hu341)
      refine wpL_q (U := NoB) rfl (q_loadF rfl rfl (hFu34 1 _ Try.prog 27 _ rfl Try.isAgg27 (fun _ h => False.elim h))) ?_
      refine wpL_q (U := NoB) rfl (q_lenRd rfl Try.underlying27 rfl (hS35.rdl 0 rfl)) ?_
      refine wpL_q (U := NoB) rfl (q_gtr rfl rfl rfl) ?_
      exact ⟨a32_0, a32_1, a32_5, a32_6, rfl, rfl⟩
    rintro f36 _ ⟨a36_0, a36_1, a36_5, a36_6, a36_44, rfl⟩
    clear a32_0 a32_1 a32_35 a32_5 a32_6
    refine wpF_condP a36_44 (fun h60 => ?t72) (fun h60 => ?e72)
    case t72 =>
      refine wpF_seq ?_
      refine wpF_cut (fun f H => f 4 = B (true) ∧ H28 = H) ?_ ?_
      · refine wpF_region ?_
        refine wpL_q (U := NoB) rfl (q_assign (v := B (true)) rfl rfl) ?_
        exact ⟨rfl, rfl⟩
      rintro f38 _ ⟨a38_4, rfl⟩
      clear a36_0 a36_1 a36_44 a36_5 a36_6
      refine wpF_ret ?_
      refine ⟨_, resT a38_4 resN, hS28.frame, ?_⟩
      show (B (true)) = B true
      rfl
    refine wpF_skip ?_
    refine wpF_seq ?_
    refine wpF_cut (fun f H => ∃ (g45 : Nat), (In64 (nth l k).Signs) ∧ f 0 = vl ∧ f 1 = vt ∧ f 5 = PT g8 0 ∧ f 6 = I ((k : Int)) ∧ f 7 = PT g45 0 ∧ St H0 NoB NoB [blkE g45 (.cells #[I ((autoFault (nth l k)).1), I ((autoFault (nth l k)).2)] 24), blkE g8 (.cells #[I (c1), I (a1)] 24), rdE vl (l : List Auto), rdE vt (t : List Int)] H) ?_ ?_
    · refine wpF_region ?_
      refine wpL_q (U := NoB) rfl (q_move (v := vl) rfl a36_0) ?_
      refine wpL_q (U := NoB) rfl (q_move (v := I ((k : Int))) rfl a36_6) ?_
      refine wpL_q (U := NoB) rfl (q_indexRd (k := k) rfl Try.underlying48 el_Auto_36 rfl rfl (hS28.rdl 1 rfl) (by omega) (by omega)) ?_
      obtain ⟨u39, huu39, hlu39⟩ := (Rd.list.1 (hS28.rdS 1 rfl)).elem k (by omega)
      obtain ⟨u39n1, u39n2, rfl, hu390, hu391, hu392⟩ := Rd.auto.1 huu39
      have hS40 : St H0 NoB NoB [rdE u39n1 ((nth l k).Next : List (List Int)), blkE g8 (.cells #[I (c1), I (a1)] 24), rdE vl (l : List Auto), rdE vt (t : List Int)] H28 := hS28.rd hu391
      have hS41 : St H0 NoB NoB [rdE u39n2 ((nth l k).Takes : List Bool), rdE u39n1 ((nth l k).Next : List (List Int)), blkE g8 (.cells #[I (c1), I (a1)] 24), rdE vl (l : List Auto), rdE vt (t : List Int)] H28 := hS40.rd (hu392.sub fun _ hb => SL_rd hb)
      refine wpL_q (U := NoB) rfl (q_loadE rfl rfl (hlu39 Try.prog 36 _ el_Auto_36 (fun _ h => False.elim h))) ?_
      refine wpL_o rfl ?_
      refine e_call rfl Try.call20 (arr1 (v0 := Value.agg #[I ((nth l k).Signs), u39n1, u39n2]) rfl) (Auto_R u39n1 u39n2 (nth l k) (hS41.rdN 1 rfl) (hS41.rdN 0 rfl) (by assumption)) ?_
      rintro _ H42 ⟨hxx, rfl⟩
      have hS43 : St H0 NoB NoB [rdE u39n2 ((nth l k).Takes : List Bool), rdE u39n1 ((nth l k).Next : List (List Int)), blkE g8 (.cells #[I (c1), I (a1)] 24), rdE vl (l : List Auto), rdE vt (t : List Int)] H42 := hS41.ext hxx
      refine wpL_o rfl ?_
      refine e_alloc rfl Try.zeroValue24 hS43 (fun g45 H46 hS47 hxx => ?_)
      replace hS47 : St H0 NoB NoB [blkE g45 (.cells #[I (0), I (0)] 24), rdE u39n2 ((nth l k).Takes : List Bool), rdE u39n1 ((nth l k).Next : List (List Int)), blkE g8 (.cells #[I (c1), I (a1)] 24), rdE vl (l : List Auto), rdE vt (t : List Int)] H46 := hS47
      refine wpL_o rfl ?_
      refine e_storeBlkA (cs' := #[I ((autoFault (nth l k)).1), I ((autoFault (nth l k)).2)]) rfl rfl rfl Try.sizeOf24 rfl rfl (List.forall_mem_cons.2 ⟨rfl, List.forall_mem_cons.2 ⟨rfl, List.forall_mem_nil _⟩⟩) hS47 (fun H48 hS49 hxx => ?_)
      replace hS49 : St H0 NoB NoB [blkE g45 (.cells #[I ((autoFault (nth l k)).1), I ((autoFault (nth l k)).2)] 24), rdE u39n2 ((nth l k).Takes : List Bool), rdE u39n1 ((nth l k).Next : List (List Int)), blkE g8 (.cells #[I (c1), I (a1)] 24), rdE vl (l : List Auto), rdE vt (t : List Int)] H48 := hS49
      exact ⟨g45, hu390, a36_0, a36_1, a36_5, a36_6, rfl, (hS49.drop (List.Sublist.cons_cons _ (List.Sublist.cons _ (List.Sublist.cons _ (List.Sublist.cons_cons _ (List.Sublist.cons_cons _ (List.Sublist.cons_cons _ (List.Sublist.slnil))))))))⟩
    rintro f50 H50 ⟨g45, hu390, a50_0, a50_1, a50_5, a50_6, a50_7, hS50⟩
    clear a36_0 a36_1 a36_44 a36_5 a36_6
    refine wpF_seq ?_
    refine wpF_cut (fun f H => f 0 = vl ∧ f 1 = vt ∧ f 5 = PT g8 0 ∧ f 6 = I ((k : Int)) ∧ f 7 = PT g45 0 ∧ f 52 = B (decide (((autoFault (nth l k)).1) ≠ 0)) ∧ H50 = H) ?_ ?_
    · refine wpF_region ?_
      refine wpL_q (U := NoB) rfl (q_fieldAddr rfl Try.underlying24 rfl Try.sizeOf3 a50_7) ?_
      refine wpL_q (U := NoB) rfl (q_loadBlk rfl rfl Try.isAgg3 (hS50.blk 0 rfl) rfl (fun h => h)) ?_
      refine wpL_q (U := NoB) rfl (q_neq rfl rfl rfl) ?_
      exact ⟨a50_0, a50_1, a50_5, a50_6, a50_7, rfl, rfl⟩
    rintro f51 _ ⟨a51_0, a51_1, a51_5, a51_6, a51_7, a51_52, rfl⟩
    clear a50_0 a50_1 a50_5 a50_6 a50_7
    refine wpF_cut (fun f H => ∃ (c3 : Int), ∃ (a3 : Int), (CutA l t (k + 1) c3 a3) ∧ f 0 = vl ∧ f 1 = vt ∧ f 5 = PT g8 0 ∧ f 6 = I ((k : Int)) ∧ St H0 NoB NoB [blkE g45 (.cells #[I ((autoFault (nth l k)).1), I ((autoFault (nth l k)).2)] 24), blkE g8 (.cells #[I (c3), I (a3)] 24), rdE vl (l : List Auto), rdE vt (t : List Int)] H) ?_ ?_
    · refine wpF_condP a51_52 (fun hbad => ?t70) (fun hbad => ?e70)
      case t70 =>
        refine wpF_cut (fun f H => f 0 = vl ∧ f 1 = vt ∧ f 5 = PT g8 0 ∧ f 6 = I ((k : Int)) ∧ St H0 NoB NoB [blkE g8 (.cells #[I ((autoFault (nth l k)).1), I ((k : Int))] 24), blkE g45 (.cells #[I ((autoFault (nth l k)).1), I ((autoFault (nth l k)).2)] 24), rdE vl (l : List Auto), rdE vt (t : List Int)] H) ?_ ?_
        · refine wpF_region ?_
          refine wpL_q (U := NoB) rfl (q_fieldAddr rfl Try.underlying24 rfl Try.sizeOf3 a51_7) ?_
          refine wpL_q (U := NoB) rfl (q_loadBlk rfl rfl Try.isAgg3 (hS50.blk 0 rfl) rfl (fun h => h)) ?_
          refine wpL_q (U := NoB) rfl (q_move (v := I ((k : Int))) rfl a51_6) ?_
          refine wpL_o rfl ?_
          refine e_call rfl Try.call15 (arr2 (v0 := I ((autoFault (nth l k)).1)) (v1 := I ((k : Int))) rfl rfl) (fault_L ((autoFault (nth l k)).1) (k : Int)) ?_
          rintro _ H54 ⟨hxx, rfl⟩
          have hS55 : St H0 NoB NoB [blkE g45 (.cells #[I ((autoFault (nth l k)).1), I ((autoFault (nth l k)).2)] 24), blkE g8 (.cells #[I (c1), I (a1)] 24), rdE vl (l : List Auto), rdE vt (t : List Int)] H54 := hS50.ext hxx
          refine wpL_o rfl ?_
          refine e_storeBlkA (cs' := #[I ((autoFault (nth l k)).1), I ((k : Int))]) rfl a51_5 rfl Try.sizeOf24 rfl rfl (List.forall_mem_cons.2 ⟨rfl, List.forall_mem_cons.2 ⟨rfl, List.forall_mem_nil _⟩⟩) (hS55.front 1 rfl) (fun H57 hS58 hxx => ?_)
          replace hS58 : St H0 NoB NoB [blkE g8 (.cells #[I ((autoFault (nth l k)).1), I ((k : Int))] 24), blkE g45 (.cells #[I ((autoFault (nth l k)).1), I ((autoFault (nth l k)).2)] 24), rdE vl (l : List Auto), rdE vt (t : List Int)] H57 := hS58
          exact ⟨a51_0, a51_1, a51_5, a51_6, hS58⟩
        rintro f59 H59 ⟨a59_0, a59_1, a59_5, a59_6, hS59⟩
        clear a51_0 a51_1 a51_5 a51_52 a51_6 a51_7
        exact ⟨(autoFault (nth l k)).1, (k : Int), (hw.bad hlt.2 (by omega) (partFault_check hbad)), a59_0, a59_1, a59_5, a59_6, (St.drop (show St H0 NoB NoB [blkE g45 (.cells #[I ((autoFault (nth l k)).1), I ((autoFault (nth l k)).2)] 24), blkE g8 (.cells #[I ((autoFault (nth l k)).1), I ((k : Int))] 24), rdE vl (l : List Auto), rdE vt (t : List Int)] H59 from ((((hS59.front 3 rfl).front 3 rfl).front 2 rfl).front 3 rfl)) (List.Sublist.cons_cons _ (List.Sublist.cons_cons _ (List.Sublist.cons_cons _ (List.Sublist.cons_cons _ (List.Sublist.slnil))))))⟩
      refine wpF_seq ?_
      refine wpF_cut (fun f H => (In64 (nth l k).Signs) ∧ (In64 (nth l 0).Signs) ∧ f 0 = vl ∧ f 1 = vt ∧ f 5 = PT g8 0 ∧ f 6 = I ((k : Int)) ∧ f 66 = B (decide (((nth l k).Signs) ≠ ((nth l 0).Signs))) ∧ H50 = H) ?_ ?_
      · refine wpF_drawn [] [] (fun _ _ => False) (by kernel_rfl) (by kernel_rfl) ?_
        refine wpR_q 0 (by kernel_rfl) rfl (quietAt rfl rfl (q_move (v := vl) rfl a51_0)) ?_
        refine wpR_q 1 (by kernel_rfl) rfl (quietAt rfl rfl (q_move (v := I ((k : Int))) rfl a51_6)) ?_
        refine wpR_q 2 (by kernel_rfl) rfl (quietAt rfl rfl (q_indexRd (k := k) rfl Try.underlying48 el_Auto_36 rfl rfl (hS50.rdl 2 rfl) (by omega) (by omega))) ?_
        refine wpR_q 3 (by kernel_rfl) rfl (quietAt rfl rfl (q_fieldE (k := k) rfl Try.underlying36 rfl Try.sizeOf3 rfl rfl (hS50.rdl 2 rfl) (by omega))) ?_
        obtain ⟨_, hcu60o4, hFu60o4⟩ := (Rd.list.1 (hS50.rdS 2 rfl)).cellF k (by omega)
        obtain ⟨u60o4n1, u60o4n2, rfl, hu60o40, hu60o41, hu60o42⟩ := hcu60o4
        refine wpR_q 4 (by kernel_rfl) rfl (quietAt rfl rfl (q_loadF rfl rfl (hFu60o4 0 _ Try.prog 3 _ rfl Try.isAgg3 (labU_sub [] rfl (List.forall_mem_nil _))))) ?_
        refine wpR_q 5 (by kernel_rfl) rfl (quietAt rfl rfl (q_move (v := vl) rfl a51_0)) ?_
        refine wpR_q 6 (by kernel_rfl) rfl (quietAt rfl rfl (q_indexRd (k := 0) rfl Try.underlying48 el_Auto_36 rfl rfl (hS50.rdl 2 rfl) (by omega) (by omega))) ?_
        refine wpR_q 7 (by kernel_rfl) rfl (quietAt rfl rfl (q_fieldE (k := 0) rfl Try.underlying36 rfl Try.sizeOf3 rfl rfl (hS50.rdl 2 rfl) (by omega))) ?_
        obtain ⟨_, hcu60o8, hFu60o8⟩ := (Rd.list.1 (hS50.rdS 2 rfl)).cellF 0 (by omega)
        obtain ⟨u60o8n1, u60o8n2, rfl, hu60o80, hu60o81, hu60o82⟩ := hcu60o8
        refine wpR_q 8 (by kernel_rfl) rfl (quietAt rfl rfl (q_loadF rfl rfl (hFu60o8 0 _ Try.prog 3 _ rfl Try.isAgg3 (labU_sub [] rfl (List.forall_mem_nil _))))) ?_
        refine wpR_q 9 (by kernel_rfl) rfl (quietAt rfl rfl (q_neq rfl rfl rfl)) ?_
        refine wpR_end (by kernel_rfl) ?_
        exact ⟨hu60o40, hu60o80, a51_0, a51_1, a51_5, a51_6, rfl, rfl⟩
      rintro f61 _ ⟨hu60o40, hu60o80, a61_0, a61_1, a61_5, a61_6, a61_66, rfl⟩
      clear a51_0 a51_1 a51_5 a51_52 a51_6 a51_7
      refine wpF_condP a61_66 (fun hsg2 => ?t69) (fun hsg2 => ?e69)
      case e69 =>
        refine wpF_skip ?_
        exact ⟨c1, a1, (hw.good hlt.2 (partFault_no hbad hsg2)), a61_0, a61_1, a61_5, a61_6, hS50⟩
      refine wpF_cut (fun f H => f 0 = vl ∧ f 1 = vt ∧ f 5 = PT g8 0 ∧ f 6 = I ((k : Int)) ∧ St H0 NoB NoB [blkE g8 (.cells #[I (11), I ((k : Int))] 24), blkE g45 (.cells #[I ((autoFault (nth l k)).1), I ((autoFault (nth l k)).2)] 24), rdE vl (l : List Auto), rdE vt (t : List Int)] H) ?_ ?_
      · refine wpF_region ?_
        refine wpL_q (U := NoB) rfl (q_move (v := I ((k : Int))) rfl a61_6) ?_
        refine wpL_o rfl ?_
        refine e_call rfl Try.call15 (arr2 (v0 := I (11)) (v1 := I ((k : Int))) rfl rfl) (fault_L 11 (k : Int)) ?_
        rintro _ H63 ⟨hxx, rfl⟩
        have hS64 : St H0 NoB NoB [blkE g45 (.cells #[I ((autoFault (nth l k)).1), I ((autoFault (nth l k)).2)] 24), blkE g8 (.cells #[I (c1), I (a1)] 24), rdE vl (l : List Auto), rdE vt (t : List Int)] H63 := hS50.ext hxx
        refine wpL_o rfl ?_
        refine e_storeBlkA (cs' := #[I (11), I ((k : Int))]) rfl a61_5 rfl Try.sizeOf24 rfl rfl (List.forall_mem_cons.2 ⟨rfl, List.forall_mem_cons.2 ⟨rfl, List.forall_mem_nil _⟩⟩) (hS64.front 1 rfl) (fun H66 hS67 hxx => ?_)
        replace hS67 : St H0 NoB NoB [blkE g8 (.cells #[I (11), I ((k : Int))] 24), blkE g45 (.cells #[I ((autoFault (nth l k)).1), I ((autoFault (nth l k)).2)] 24), rdE vl (l : List Auto), rdE vt (t : List Int)] H66 := hS67
        exact ⟨a61_0, a61_1, a61_5, a61_6, hS67⟩
      rintro f68 H68 ⟨a68_0, a68_1, a68_5, a68_6, hS68⟩
      clear a61_0 a61_1 a61_5 a61_6 a61_66
      exact ⟨11, (k : Int), (hw.bad hlt.2 (by omega) (partFault_signs hbad hsg2)), a68_0, a68_1, a68_5, a68_6, (St.drop (show St H0 NoB NoB [blkE g45 (.cells #[I ((autoFault (nth l k)).1), I ((autoFault (nth l k)).2)] 24), blkE g8 (.cells #[I (11), I ((k : Int))] 24), rdE vl (l : List Auto), rdE vt (t : List Int)] H68 from ((((hS68.front 3 rfl).front 3 rfl).front 2 rfl).front 3 rfl)) (List.Sublist.cons_cons _ (List.Sublist.cons_cons _ (List.Sublist.cons_cons _ (List.Sublist.cons_cons _ (List.Sublist.slnil))))))⟩
    rintro f52 H52 ⟨c3, a3, hw3, a52_0, a52_1, a52_5, a52_6, hS52⟩
    clear a51_0 a51_1 a51_5 a51_52 a51_6 a51_7
    refine wpF_cut (fun f H => f 0 = vl ∧ f 1 = vt ∧ f 5 = PT g8 0 ∧ f 6 = I ((k : Int) + 1) ∧ H52 = H) ?_ ?_
    · refine wpF_region ?_
      refine wpL_q (U := NoB) rfl (q_move (v := I ((k : Int))) rfl a52_6) ?_
      refine wpL_q (U := NoB) rfl (q_add rfl rfl rfl (by constructor <;> omega)) ?_
      refine wpL_q (U := NoB) rfl (q_assign (v := I ((k : Int) + 1)) rfl rfl) ?_
      exact ⟨a52_0, a52_1, a52_5, rfl, rfl⟩
    rintro f71 _ ⟨a71_0, a71_1, a71_5, a71_6, rfl⟩
    clear a52_0 a52_1 a52_5 a52_6
    refine ⟨_, ?_, k + 1, c3, a3, rfl, (by omega), hw3, a71_0, a71_1, a71_5, (Eq.trans a71_6 (congrArg I (by omega))), (hS52.drop (List.Sublist.cons _ (List.Sublist.cons_cons _ (List.Sublist.cons_cons _ (List.Sublist.cons_cons _ (List.Sublist.slnil))))))⟩
    omega
  refine wpF_exit ?_
  refine atX_here ?_
  refine wpF_seq ?_
  refine wpF_seq ?_
  refine wpF_cut (fun f H => f 0 = vl ∧ f 1 = vt ∧ f 5 = PT g8 0 ∧ f 71 = B (decide (c1 = 0)) ∧ H28 = H) ?_ ?_
  · refine wpF_region ?_
    refine wpL_q (U := NoB) rfl (q_fieldAddr rfl Try.underlying24 rfl Try.sizeOf3 a32_5) ?_
    refine wpL_q (U := NoB) rfl (q_loadBlk rfl rfl Try.isAgg3 (hS28.blk 0 rfl) rfl (fun h => h)) ?_
    refine wpL_q (U := NoB) rfl (q_eql rfl rfl rfl) ?_
    exact ⟨a32_0, a32_1, a32_5, rfl, rfl⟩
  rintro f73 _ ⟨a73_0, a73_1, a73_5, a73_71, rfl⟩
  clear a32_0 a32_1 a32_35 a32_5 a32_6
  refine wpF_cut (fun f H => ∃ (c4 : Int), ∃ (a4 : Int), (cutFault l t = (c4, a4)) ∧ f 0 = vl ∧ f 1 = vt ∧ f 5 = PT g8 0 ∧ St H0 NoB NoB [blkE g8 (.cells #[I (c4), I (a4)] 24), rdE vl (l : List Auto), rdE vt (t : List Int)] H) ?_ ?_
  · refine wpF_condP a73_71 (fun hz => ?t83) (fun hz => ?e83)
    case e83 =>
      refine wpF_skip ?_
      exact ⟨c1, a1, (hw.fault hz), a73_0, a73_1, a73_5, hS28⟩
    have hlpos := (hw.text hz (by omega)).2
    refine wpF_cut (fun f H => (In64 (nth l 0).Signs) ∧ f 0 = vl ∧ f 1 = vt ∧ f 5 = PT g8 0 ∧ St H0 NoB NoB [blkE g8 (.cells #[I ((textFault ((nth l 0).Signs) t).1), I ((textFault ((nth l 0).Signs) t).2)] 24), rdE vl (l : List Auto), rdE vt (t : List Int)] H) ?_ ?_
    · refine wpF_region ?_
      refine wpL_q (U := NoB) rfl (q_move (v := vl) rfl a73_0) ?_
      refine wpL_q (U := NoB) rfl (q_indexRd (k := 0) rfl Try.underlying48 el_Auto_36 rfl rfl (hS28.rdl 1 rfl) (by omega) (by omega)) ?_
      refine wpL_q (U := NoB) rfl (q_fieldE (k := 0) rfl Try.underlying36 rfl Try.sizeOf3 rfl rfl (hS28.rdl 1 rfl) (by omega)) ?_
      obtain ⟨_, hcu76, hFu76⟩ := (Rd.list.1 (hS28.rdS 1 rfl)).cellF 0 (by omega)
      obtain ⟨u76n1, u76n2, rfl, hu760, hu761, hu762⟩ := hcu76
      refine wpL_q (U := NoB) rfl (q_loadF rfl rfl (hFu76 0 _ Try.prog 3 _ rfl Try.isAgg3 (fun _ h => False.elim h))) ?_
      refine wpL_q (U := NoB) rfl (q_move (v := vt) rfl a73_1) ?_
      refine wpL_o rfl ?_
      refine e_call rfl Try.call23 (arr2 (v0 := I ((nth l 0).Signs)) (v1 := vt) rfl rfl) (Text_R vt ((nth l 0).Signs) t (hS28.rdN 2 rfl)) ?_
      rintro _ H77 ⟨hxx, rfl⟩
      have hS78 : St H0 NoB NoB [blkE g8 (.cells #[I (c1), I (a1)] 24), rdE vl (l : List Auto), rdE vt (t : List Int)] H77 := hS28.ext hxx
      refine wpL_o rfl ?_
      refine e_storeBlkA (cs' := #[I ((textFault ((nth l 0).Signs) t).1), I ((textFault ((nth l 0).Signs) t).2)]) rfl a73_5 rfl Try.sizeOf24 rfl rfl (List.forall_mem_cons.2 ⟨rfl, List.forall_mem_cons.2 ⟨rfl, List.forall_mem_nil _⟩⟩) hS78 (fun H80 hS81 hxx => ?_)
      replace hS81 : St H0 NoB NoB [blkE g8 (.cells #[I ((textFault ((nth l 0).Signs) t).1), I ((textFault ((nth l 0).Signs) t).2)] 24), rdE vl (l : List Auto), rdE vt (t : List Int)] H80 := hS81
      exact ⟨hu760, a73_0, a73_1, a73_5, hS81⟩
    rintro f82 H82 ⟨hu760, a82_0, a82_1, a82_5, hS82⟩
    clear a73_0 a73_1 a73_5 a73_71
    exact ⟨(textFault ((nth l 0).Signs) t).1, (textFault ((nth l 0).Signs) t).2, (by rw [(hw.text hz (by omega)).1]), a82_0, a82_1, a82_5, hS82⟩
  rintro f74 H74 ⟨c4, a4, hF, a74_0, a74_1, a74_5, hS74⟩
  clear a73_0 a73_1 a73_5 a73_71
  refine wpF_seq ?_
  refine wpF_cut (fun f H => ∃ (r84 : Value), ∃ (g88 : Nat), f 0 = vl ∧ f 1 = vt ∧ f 5 = PT g8 0 ∧ f 8 = r84 ∧ f 9 = B (cutOk l t) ∧ f 10 = PT g88 0 ∧ St H0 NoB NoB [blkE g88 (.cells #[I ((cutFault l t).1), I ((cutFault l t).2)] 24), rdE r84 (cutList l t : List Int), blkE g8 (.cells #[I (c4), I (a4)] 24), rdE vl (l : List Auto), rdE vt (t : List Int)] H) ?_ ?_
  · refine wpF_region ?_
    refine wpL_q (U := NoB) rfl (q_move (v := vl) rfl a74_0) ?_
    refine wpL_q (U := NoB) rfl (q_move (v := vt) rfl a74_1) ?_
    refine wpL_o rfl ?_
    refine e_call rfl Try.call30 (arr2 (v0 := vl) (v1 := vt) rfl rfl) (rope_Cut vl vt l t (hS74.rdS 1 rfl) (hS74.rdS 2 rfl)) ?_
    rintro _ H85 ⟨hxx, r84, rfl, hrr84⟩
    have hS86 : St H0 NoB NoB [rdE r84 (cutList l t : List Int), blkE g8 (.cells #[I (c4), I (a4)] 24), rdE vl (l : List Auto), rdE vt (t : List Int)] H85 := (hS74.res hxx hrr84)
    refine wpL_q (U := NoB) rfl (q_move (v := Value.tuple #[r84, B (cutOk l t), Value.agg #[I ((cutFault l t).1), I ((cutFault l t).2)]]) rfl rfl) ?_
    refine wpL_q (U := NoB) rfl (q_extract (vs := #[r84, B (cutOk l t), Value.agg #[I ((cutFault l t).1), I ((cutFault l t).2)]]) (v := r84) rfl rfl rfl) ?_
    refine wpL_q (U := NoB) rfl (q_extract (vs := #[r84, B (cutOk l t), Value.agg #[I ((cutFault l t).1), I ((cutFault l t).2)]]) (v := B (cutOk l t)) rfl rfl rfl) ?_
    refine wpL_q (U := NoB) rfl (q_extract (vs := #[r84, B (cutOk l t), Value.agg #[I ((cutFault l t).1), I ((cutFault l t).2)]]) (v := Value.agg #[I ((cutFault l t).1), I ((cutFault l t).2)]) rfl rfl rfl) ?_
    refine wpL_o rfl ?_
    refine e_alloc rfl Try.zeroValue24 hS86 (fun g88 H89 hS90 hxx => ?_)
    replace hS90 : St H0 NoB NoB [blkE g88 (.cells #[I (0), I (0)] 24), rdE r84 (cutList l t : List Int), blkE g8 (.cells #[I (c4), I (a4)] 24), rdE vl (l : List Auto), rdE vt (t : List Int)] H89 := hS90
    refine wpL_q (U := NoB) rfl (q_assign (v := r84) rfl rfl) ?_
    refine wpL_q (U := NoB) rfl (q_assign (v := B (cutOk l t)) rfl rfl) ?_
    refine wpL_o rfl ?_
    refine e_storeBlkA (cs' := #[I ((cutFault l t).1), I ((cutFault l t).2)]) rfl rfl rfl Try.sizeOf24 rfl rfl (List.forall_mem_cons.2 ⟨rfl, List.forall_mem_cons.2 ⟨rfl, List.forall_mem_nil _⟩⟩) hS90 (fun H91 hS92 hxx => ?_)
    replace hS92 : St H0 NoB NoB [blkE g88 (.cells #[I ((cutFault l t).1), I ((cutFault l t).2)] 24), rdE r84 (cutList l t : List Int), blkE g8 (.cells #[I (c4), I (a4)] 24), rdE vl (l : List Auto), rdE vt (t : List Int)] H91 := hS92
    exact ⟨r84, g88, a74_0, a74_1, a74_5, rfl, rfl, rfl, hS92⟩
  rintro f93 H93 ⟨r84, g88, a93_0, a93_1, a93_5, a93_8, a93_9, a93_10, hS93⟩
  clear a74_0 a74_1 a74_5
  refine wpF_seq ?_
  refine wpF_seq ?_
  refine wpF_cut (fun f H => f 0 = vl ∧ f 1 = vt ∧ f 5 = PT g8 0 ∧ f 8 = r84 ∧ f 9 = B (cutOk l t) ∧ f 87 = B (decide (¬ (((cutFault l t).1) = c4 ∧ ((cutFault l t).2) = a4))) ∧ H93 = H) ?_ ?_
  · refine wpF_region ?_
    refine wpL_q (U := NoB) rfl (q_loadBlkA rfl a93_10 Try.isAgg24 Try.sizeOf24 rfl (hS93.blk 0 rfl) (fun h => h)) ?_
    refine wpL_q (U := NoB) rfl (q_loadBlkA rfl a93_5 Try.isAgg24 Try.sizeOf24 rfl (hS93.blk 2 rfl) (fun h => h)) ?_
    refine wpL_q (U := NoB) rfl (q_neqF2 rfl Try.eqGuardType24 (fl24 _ _ _ _) rfl rfl) ?_
    exact ⟨a93_0, a93_1, a93_5, a93_8, a93_9, rfl, rfl⟩
  rintro f94 _ ⟨a94_0, a94_1, a94_5, a94_8, a94_9, a94_87, rfl⟩
  clear a93_0 a93_1 a93_10 a93_5 a93_8 a93_9
  refine wpF_condP a94_87 (fun hne => ?t142) (fun hne => ?e142)
  case t142 =>
    refine wpF_seq ?_
    refine wpF_cut (fun f H => f 4 = B (false) ∧ H93 = H) ?_ ?_
    · refine wpF_region ?_
      refine wpL_q (U := NoB) rfl (q_assign (v := B (false)) rfl rfl) ?_
      exact ⟨rfl, rfl⟩
    rintro f96 _ ⟨a96_4, rfl⟩
    clear a94_0 a94_1 a94_5 a94_8 a94_87 a94_9
    refine wpF_ret ?_
    refine ⟨_, resT a96_4 resN, hS93.frame, ?_⟩
    show (B (false)) = B true
    exfalso
    exact hne (by rw [hF]; exact ⟨rfl, rfl⟩)
  refine wpF_skip ?_
  refine wpF_seq ?_
  refine wpF_seq ?_
  refine wpF_cut (fun f H => f 0 = vl ∧ f 1 = vt ∧ f 8 = r84 ∧ f 9 = B (cutOk l t) ∧ f 90 = B (decide (c4 ≠ 0)) ∧ H93 = H) ?_ ?_
  · refine wpF_region ?_
    refine wpL_q (U := NoB) rfl (q_fieldAddr rfl Try.underlying24 rfl Try.sizeOf3 a94_5) ?_
    refine wpL_q (U := NoB) rfl (q_loadBlk rfl rfl Try.isAgg3 (hS93.blk 2 rfl) rfl (fun h => h)) ?_
    refine wpL_q (U := NoB) rfl (q_neq rfl rfl rfl) ?_
    exact ⟨a94_0, a94_1, a94_8, a94_9, rfl, rfl⟩
  rintro f97 _ ⟨a97_0, a97_1, a97_8, a97_9, a97_90, rfl⟩
  clear a94_0 a94_1 a94_5 a94_8 a94_87 a94_9
  refine wpF_condP a97_90 (fun hwn => ?t141) (fun hwn => ?e141)
  case t141 =>
    refine wpF_seq ?_
    refine wpF_cut (fun f H => f 4 = B (decide ((((cutList l t).length : Int) = 0) ∧ ((!(cutOk l t)) = true))) ∧ H93 = H) ?_ ?_
    · refine wpF_region ?_
      refine wpL_q (U := NoB) rfl (q_move (v := r84) rfl a97_8) ?_
      refine wpL_q (U := NoB) rfl (q_lenRd rfl Try.underlying22 rfl (hS93.rdl 1 rfl)) ?_
      refine wpL_q (U := NoB) rfl (q_eql rfl rfl rfl) ?_
      refine wpL_q (U := NoB) rfl (q_move (v := B (decide (((cutList l t).length : Int) = 0))) rfl rfl) ?_
      by_cases hg99 : ((cutList l t).length : Int) = 0
      · have hb100 := Eq.trans rfl (congrArg B (decide_eq_true hg99))
        refine wpL_gq (U := NoB) rfl rfl rfl hb100 (q_move (v := B (cutOk l t)) rfl a97_9) ?_
        refine wpL_gq (U := NoB) rfl rfl rfl hb100 (q_not rfl rfl) ?_
        refine wpL_q (U := NoB) rfl (q_pickT (v := B (!(cutOk l t))) rfl hb100 rfl) ?_
        refine wpL_q (U := NoB) rfl (q_assign (v := B (!(cutOk l t))) rfl rfl) ?_
        exact ⟨(Eq.trans rfl (congrArg B (bool_congr_of ((Iff.rfl).trans (((and_iff_right hg99).trans Iff.rfl)).symm)))), rfl⟩
      · have hb101 := Eq.trans rfl (congrArg B (decide_eq_false hg99))
        refine wpL_gs rfl rfl rfl hb101 rfl ?_
        refine wpL_gs rfl rfl rfl hb101 rfl ?_
        refine wpL_q (U := NoB) rfl (q_pickF (v := B (false)) rfl hb101 rfl) ?_
        refine wpL_q (U := NoB) rfl (q_assign (v := B (false)) rfl rfl) ?_
        exact ⟨(Eq.trans rfl (congrArg B ((decide_eq_false (fun h => hg99 h.1)).symm))), rfl⟩
    rintro f102 _ ⟨a102_4, rfl⟩
    clear a97_0 a97_1 a97_8 a97_9 a97_90
    refine wpF_ret ?_
    refine ⟨_, resT a102_4 resN, hS93.frame, ?_⟩
    show (B (decide ((((cutList l t).length : Int) = 0) ∧ ((!(cutOk l t)) = true)))) = B true
    have hb := cut_bad (l := l) (t := t) (by rw [hF]; exact hwn)
    exact congrArg B (decide_eq_true (by rw [hb.1, hb.2]; simp))
  have hz4 : (cutFault l t).1 = 0 := by rw [hF]; exact Decidable.of_not_not hwn
  have hg := cut_good hz4
  have hCW := CutWF.of hz4
  refine wpF_skip ?_
  refine wpF_seq ?_
  refine wpF_seq ?_
  refine wpF_cut (fun f H => f 0 = vl ∧ f 1 = vt ∧ f 8 = r84 ∧ f 9 = B (cutOk l t) ∧ f 105 = B (decide ((3 < (l.length : Int)) ∧ (12 < (t.length : Int)))) ∧ H93 = H) ?_ ?_
  · refine wpF_region ?_
    refine wpL_q (U := NoB) rfl (q_move (v := vl) rfl a97_0) ?_
    refine wpL_q (U := NoB) rfl (q_lenRd rfl Try.underlying48 rfl (hS93.rdl 3 rfl)) ?_
    refine wpL_q (U := NoB) rfl (q_gtr rfl rfl rfl) ?_
    refine wpL_q (U := NoB) rfl (q_move (v := B (decide (3 < (l.length : Int)))) rfl rfl) ?_
    by_cases hg103 : 3 < (l.length : Int)
    · have hb104 := Eq.trans rfl (congrArg B (decide_eq_true hg103))
      refine wpL_gq (U := NoB) rfl rfl rfl hb104 (q_move (v := vt) rfl a97_1) ?_
      refine wpL_gq (U := NoB) rfl rfl rfl hb104 (q_lenRd rfl Try.underlying22 rfl (hS93.rdl 4 rfl)) ?_
      refine wpL_gq (U := NoB) rfl rfl rfl hb104 (q_gtr rfl rfl rfl) ?_
      refine wpL_q (U := NoB) rfl (q_pickT (v := B (decide (12 < (t.length : Int)))) rfl hb104 rfl) ?_
      exact ⟨a97_0, a97_1, a97_8, a97_9, (Eq.trans rfl (congrArg B (decide_congr_of ((Iff.rfl).trans (((and_iff_right hg103).trans Iff.rfl)).symm)))), rfl⟩
    · have hb105 := Eq.trans rfl (congrArg B (decide_eq_false hg103))
      refine wpL_gs rfl rfl rfl hb105 rfl ?_
      refine wpL_gs rfl rfl rfl hb105 rfl ?_
      refine wpL_gs rfl rfl rfl hb105 rfl ?_
      refine wpL_q (U := NoB) rfl (q_pickF (v := B (false)) rfl hb105 rfl) ?_
      exact ⟨a97_0, a97_1, a97_8, a97_9, (Eq.trans rfl (congrArg B ((decide_eq_false (fun h => hg103 h.1)).symm))), rfl⟩
  rintro f106 _ ⟨a106_0, a106_1, a106_8, a106_9, a106_105, rfl⟩
  clear a97_0 a97_1 a97_8 a97_9 a97_90
  refine wpF_condP a106_105 (fun hlong => ?t140) (fun hlong => ?e140)
  case t140 =>
    refine wpF_seq ?_
    refine wpF_cut (fun f H => f 4 = B (decide (((cutOk l t) = true) ∨ (((cutList l t).length : Int) = 0))) ∧ H93 = H) ?_ ?_
    · refine wpF_region ?_
      refine wpL_q (U := NoB) rfl (q_move (v := B (cutOk l t)) rfl a106_9) ?_
      refine wpL_q (U := NoB) rfl (q_move (v := B (cutOk l t)) rfl rfl) ?_
      by_cases hg108 : (cutOk l t) = true
      · have hb109 := Eq.trans rfl (congrArg B hg108)
        refine wpL_gs rfl rfl rfl hb109 rfl ?_
        refine wpL_gs rfl rfl rfl hb109 rfl ?_
        refine wpL_gs rfl rfl rfl hb109 rfl ?_
        refine wpL_q (U := NoB) rfl (q_pickT (v := B (true)) rfl hb109 rfl) ?_
        refine wpL_q (U := NoB) rfl (q_assign (v := B (true)) rfl rfl) ?_
        exact ⟨(Eq.trans rfl (congrArg B ((decide_eq_true (Or.inl hg108)).symm))), rfl⟩
      · have hb110 := Eq.trans rfl (congrArg B (Bool.eq_false_iff.2 hg108))
        refine wpL_gq (U := NoB) rfl rfl rfl hb110 (q_move (v := r84) rfl a106_8) ?_
        refine wpL_gq (U := NoB) rfl rfl rfl hb110 (q_lenRd rfl Try.underlying22 rfl (hS93.rdl 1 rfl)) ?_
        refine wpL_gq (U := NoB) rfl rfl rfl hb110 (q_eql rfl rfl rfl) ?_
        refine wpL_q (U := NoB) rfl (q_pickF (v := B (decide (((cutList l t).length : Int) = 0))) rfl hb110 rfl) ?_
        refine wpL_q (U := NoB) rfl (q_assign (v := B (decide (((cutList l t).length : Int) = 0))) rfl rfl) ?_
        exact ⟨(Eq.trans rfl (congrArg B (decide_congr_of ((Iff.rfl).trans (((or_iff_right hg108).trans Iff.rfl)).symm)))), rfl⟩
    rintro f111 _ ⟨a111_4, rfl⟩
    clear a106_0 a106_1 a106_105 a106_8 a106_9
    refine wpF_ret ?_
    refine ⟨_, resT a111_4 resN, hS93.frame, ?_⟩
    show (B (decide (((cutOk l t) = true) ∨ (((cutList l t).length : Int) = 0)))) = B true
    exact congrArg B (decide_eq_true (by rw [hg.1, hg.2]; cases cutG l t <;> simp))
  refine wpF_skip ?_
  refine wpF_seq ?_
  refine wpF_cut (fun f H => ∃ (r112 : Value), ∃ (y113 : List Int), (∀ s, cutG l t = some s → y113 = s) ∧ f 8 = r84 ∧ f 9 = B (cutOk l t) ∧ f 11 = r112 ∧ f 12 = B ((cutG l t).isSome) ∧ St H0 NoB NoB [rdE r112 (y113 : List Int), blkE g88 (.cells #[I ((cutFault l t).1), I ((cutFault l t).2)] 24), rdE r84 (cutList l t : List Int), blkE g8 (.cells #[I (c4), I (a4)] 24), rdE vl (l : List Auto), rdE vt (t : List Int)] H) ?_ ?_
  · refine wpF_region ?_
    refine wpL_q (U := NoB) rfl (q_move (v := vl) rfl a106_0) ?_
    refine wpL_q (U := NoB) rfl (q_move (v := vt) rfl a106_1) ?_
    refine wpL_o rfl ?_
    refine e_call rfl Try.call31 (arr2 (v0 := vl) (v1 := vt) rfl rfl) (Cut_R _ vl vt l t ((nth l 0).Signs) (hS93.rdS 3 rfl) (hS93.rdS 4 rfl) hCW.wf hCW.signs hCW.valid hCW.text hCW.many.2 (by have := hCW.many.1; omega) rfl) ?_
    rintro _ H114 ⟨hxx, r112, y113, rfl, hrr112, hyr112⟩
    have hS115 : St H0 NoB NoB [rdE r112 (y113 : List Int), blkE g88 (.cells #[I ((cutFault l t).1), I ((cutFault l t).2)] 24), rdE r84 (cutList l t : List Int), blkE g8 (.cells #[I (c4), I (a4)] 24), rdE vl (l : List Auto), rdE vt (t : List Int)] H114 := (hS93.res hxx hrr112)
    refine wpL_q (U := NoB) rfl (q_move (v := Value.tuple #[r112, B ((cutG l t).isSome)]) rfl rfl) ?_
    refine wpL_q (U := NoB) rfl (q_extract (vs := #[r112, B ((cutG l t).isSome)]) (v := r112) rfl rfl rfl) ?_
    refine wpL_q (U := NoB) rfl (q_extract (vs := #[r112, B ((cutG l t).isSome)]) (v := B ((cutG l t).isSome)) rfl rfl rfl) ?_
    refine wpL_q (U := NoB) rfl (q_assign (v := r112) rfl rfl) ?_
    refine wpL_q (U := NoB) rfl (q_assign (v := B ((cutG l t).isSome)) rfl rfl) ?_
    exact ⟨r112, y113, hyr112, a106_8, a106_9, rfl, rfl, hS115⟩
  rintro f117 H117 ⟨r112, y113, hyr112, a117_8, a117_9, a117_11, a117_12, hS117⟩
  clear a106_0 a106_1 a106_105 a106_8 a106_9
  have hyy2 := hyr112
  refine wpF_seq ?_
  refine wpF_cut (fun f H => f 4 = B (decide (((cutOk l t) = ((cutG l t).isSome)) ∧ ((((!(cutOk l t)) = true) ∧ (((cutList l t).length : Int) = 0)) ∨ (((cutOk l t) = true) ∧ ((cutList l t) = y113))))) ∧ St H0 NoB NoB [blkE g88 (.cells #[I ((cutFault l t).1), I ((cutFault l t).2)] 24), blkE g8 (.cells #[I (c4), I (a4)] 24), rdE vl (l : List Auto), rdE vt (t : List Int)] H) ?_ ?_
  · refine wpF_region ?_
    refine wpL_q (U := NoB) rfl (q_move (v := B (cutOk l t)) rfl a117_9) ?_
    refine wpL_q (U := NoB) rfl (q_move (v := B ((cutG l t).isSome)) rfl a117_12) ?_
    refine wpL_q (U := NoB) rfl (q_eqlB rfl Try.underlying4 rfl rfl) ?_
    refine wpL_q (U := NoB) rfl (q_move (v := B (decide ((cutOk l t) = ((cutG l t).isSome)))) rfl rfl) ?_
    by_cases hg118 : (cutOk l t) = ((cutG l t).isSome)
    · have hb119 := Eq.trans rfl (congrArg B (decide_eq_true hg118))
      refine wpL_gq (U := NoB) rfl rfl rfl hb119 (q_move (v := B (cutOk l t)) rfl a117_9) ?_
      refine wpL_gq (U := NoB) rfl rfl rfl hb119 (q_not rfl rfl) ?_
      refine wpL_gq (U := NoB) rfl rfl rfl hb119 (q_move (v := B (!(cutOk l t))) rfl rfl) ?_
      by_cases hg121 : (!(cutOk l t)) = true
      · have hb122 := Eq.trans rfl (congrArg B hg121)
        refine wpL_gq (U := NoB) rfl rfl rfl hb122 (q_move (v := r84) rfl a117_8) ?_
        refine wpL_gq (U := NoB) rfl rfl rfl hb122 (q_lenRd rfl Try.underlying22 rfl (hS117.rdl 2 rfl)) ?_
        refine wpL_gq (U := NoB) rfl rfl rfl hb122 (q_eql rfl rfl rfl) ?_
        refine wpL_gq (U := NoB) rfl rfl rfl hb119 (q_pickT (v := B (decide (((cutList l t).length : Int) = 0))) rfl hb122 rfl) ?_
        refine wpL_gq (U := NoB) rfl rfl rfl hb119 (q_move (v := B (decide (((cutList l t).length : Int) = 0))) rfl rfl) ?_
        by_cases hg124 : ((cutList l t).length : Int) = 0
        · have hb125 := Eq.trans rfl (congrArg B (decide_eq_true hg124))
          refine wpL_gs rfl rfl rfl hb125 rfl ?_
          refine wpL_gs rfl rfl rfl hb125 rfl ?_
          refine wpL_gs' rfl rfl rfl rfl ?_
          refine wpL_gs' rfl rfl rfl rfl ?_
          refine wpL_gs' rfl rfl rfl rfl ?_
          refine wpL_gs rfl rfl rfl hb125 rfl ?_
          refine wpL_gq (U := NoB) rfl rfl rfl hb119 (q_pickT (v := B (true)) rfl hb125 rfl) ?_
          refine wpL_q (U := NoB) rfl (q_pickT (v := B (true)) rfl hb119 rfl) ?_
          refine wpL_q (U := NoB) rfl (q_assign (v := B (true)) rfl rfl) ?_
          exact ⟨(Eq.trans rfl (congrArg B ((decide_eq_true ⟨hg118, (Or.inl ⟨hg121, hg124⟩)⟩).symm))), (hS117.drop (List.Sublist.cons _ (List.Sublist.cons_cons _ (List.Sublist.cons _ (List.Sublist.cons_cons _ (List.Sublist.cons_cons _ (List.Sublist.cons_cons _ (List.Sublist.slnil))))))))⟩
        · have hb126 := Eq.trans rfl (congrArg B (decide_eq_false hg124))
          refine wpL_gq (U := NoB) rfl rfl rfl hb126 (q_move (v := B (cutOk l t)) rfl a117_9) ?_
          refine wpL_gq (U := NoB) rfl rfl rfl hb126 (q_move (v := B (cutOk l t)) rfl rfl) ?_
          by_cases hg127 : (cutOk l t) = true
          · have hb128 := Eq.trans rfl (congrArg B hg127)
            refine wpL_gq (U := NoB) rfl rfl rfl hb128 (q_move (v := r84) rfl a117_8) ?_
            refine wpL_gq (U := NoB) rfl rfl rfl hb128 (q_move (v := r112) rfl a117_11) ?_
            refine wpL_go rfl rfl rfl hb128 ?_
            refine e_call rfl Try.call32 (arr2 (v0 := r84) (v1 := r112) rfl rfl) (Ints r84 r112 _ _ (hS117.rdN 2 rfl) (hS117.rdN 0 rfl)) ?_
            rintro _ H130 ⟨hxx, rfl⟩
            have hS131 : St H0 NoB NoB [rdE r112 (y113 : List Int), blkE g88 (.cells #[I ((cutFault l t).1), I ((cutFault l t).2)] 24), rdE r84 (cutList l t : List Int), blkE g8 (.cells #[I (c4), I (a4)] 24), rdE vl (l : List Auto), rdE vt (t : List Int)] H130 := hS117.ext hxx
            refine wpL_gq (U := NoB) rfl rfl rfl hb126 (q_pickT (v := B (decide ((cutList l t) = y113))) rfl hb128 rfl) ?_
            refine wpL_gq (U := NoB) rfl rfl rfl hb119 (q_pickF (v := B (decide ((cutList l t) = y113))) rfl hb126 rfl) ?_
            refine wpL_q (U := NoB) rfl (q_pickT (v := B (decide ((cutList l t) = y113))) rfl hb119 rfl) ?_
            refine wpL_q (U := NoB) rfl (q_assign (v := B (decide ((cutList l t) = y113))) rfl rfl) ?_
            exact ⟨(Eq.trans rfl (congrArg B (decide_congr_of ((Iff.rfl).trans (((and_iff_right hg118).trans ((or_iff_right (fun h => hg124 h.2)).trans ((and_iff_right hg127).trans Iff.rfl)))).symm)))), (hS131.drop (List.Sublist.cons _ (List.Sublist.cons_cons _ (List.Sublist.cons _ (List.Sublist.cons_cons _ (List.Sublist.cons_cons _ (List.Sublist.cons_cons _ (List.Sublist.slnil))))))))⟩
          · have hb129 := Eq.trans rfl (congrArg B (Bool.eq_false_iff.2 hg127))
            refine wpL_gs rfl rfl rfl hb129 rfl ?_
            refine wpL_gs rfl rfl rfl hb129 rfl ?_
            refine wpL_gs rfl rfl rfl hb129 rfl ?_
            refine wpL_gq (U := NoB) rfl rfl rfl hb126 (q_pickF (v := B (false)) rfl hb129 rfl) ?_
            refine wpL_gq (U := NoB) rfl rfl rfl hb119 (q_pickF (v := B (false)) rfl hb126 rfl) ?_
            refine wpL_q (U := NoB) rfl (q_pickT (v := B (false)) rfl hb119 rfl) ?_
            refine wpL_q (U := NoB) rfl (q_assign (v := B (false)) rfl rfl) ?_
            exact ⟨(Eq.trans rfl (congrArg B ((decide_eq_false (fun h => (not_or.2 ⟨(fun h => hg124 h.2), (fun h => hg127 h.1)⟩) h.2)).symm))), (hS117.drop (List.Sublist.cons _ (List.Sublist.cons_cons _ (List.Sublist.cons _ (List.Sublist.cons_cons _ (List.Sublist.cons_cons _ (List.Sublist.cons_cons _ (List.Sublist.slnil))))))))⟩
      · have hb123 := Eq.trans rfl (congrArg B (Bool.eq_false_iff.2 hg121))
        refine wpL_gs rfl rfl rfl hb123 rfl ?_
        refine wpL_gs rfl rfl rfl hb123 rfl ?_
        refine wpL_gs rfl rfl rfl hb123 rfl ?_
        refine wpL_gq (U := NoB) rfl rfl rfl hb119 (q_pickF (v := B (false)) rfl hb123 rfl) ?_
        refine wpL_gq (U := NoB) rfl rfl rfl hb119 (q_move (v := B (false)) rfl rfl) ?_
        refine wpL_gq (U := NoB) rfl rfl rfl rfl (q_move (v := B (cutOk l t)) rfl a117_9) ?_
        refine wpL_gq (U := NoB) rfl rfl rfl rfl (q_move (v := B (cutOk l t)) rfl rfl) ?_
        by_cases hg133 : (cutOk l t) = true
        · have hb134 := Eq.trans rfl (congrArg B hg133)
          refine wpL_gq (U := NoB) rfl rfl rfl hb134 (q_move (v := r84) rfl a117_8) ?_
          refine wpL_gq (U := NoB) rfl rfl rfl hb134 (q_move (v := r112) rfl a117_11) ?_
          refine wpL_go rfl rfl rfl hb134 ?_
          refine e_call rfl Try.call32 (arr2 (v0 := r84) (v1 := r112) rfl rfl) (Ints r84 r112 _ _ (hS117.rdN 2 rfl) (hS117.rdN 0 rfl)) ?_
          rintro _ H136 ⟨hxx, rfl⟩
          have hS137 : St H0 NoB NoB [rdE r112 (y113 : List Int), blkE g88 (.cells #[I ((cutFault l t).1), I ((cutFault l t).2)] 24), rdE r84 (cutList l t : List Int), blkE g8 (.cells #[I (c4), I (a4)] 24), rdE vl (l : List Auto), rdE vt (t : List Int)] H136 := hS117.ext hxx
          refine wpL_gq (U := NoB) rfl rfl rfl rfl (q_pickT (v := B (decide ((cutList l t) = y113))) rfl hb134 rfl) ?_
          refine wpL_gq (U := NoB) rfl rfl rfl hb119 (q_pickF (v := B (decide ((cutList l t) = y113))) rfl rfl rfl) ?_
          refine wpL_q (U := NoB) rfl (q_pickT (v := B (decide ((cutList l t) = y113))) rfl hb119 rfl) ?_
          refine wpL_q (U := NoB) rfl (q_assign (v := B (decide ((cutList l t) = y113))) rfl rfl) ?_
          exact ⟨(Eq.trans rfl (congrArg B (decide_congr_of ((Iff.rfl).trans (((and_iff_right hg118).trans ((or_iff_right (fun h => hg121 h.1)).trans ((and_iff_right hg133).trans Iff.rfl)))).symm)))), (hS137.drop (List.Sublist.cons _ (List.Sublist.cons_cons _ (List.Sublist.cons _ (List.Sublist.cons_cons _ (List.Sublist.cons_cons _ (List.Sublist.cons_cons _ (List.Sublist.slnil))))))))⟩
        · have hb135 := Eq.trans rfl (congrArg B (Bool.eq_false_iff.2 hg133))
          refine wpL_gs rfl rfl rfl hb135 rfl ?_
          refine wpL_gs rfl rfl rfl hb135 rfl ?_
          refine wpL_gs rfl rfl rfl hb135 rfl ?_
          refine wpL_gq (U := NoB) rfl rfl rfl rfl (q_pickF (v := B (false)) rfl hb135 rfl) ?_
          refine wpL_gq (U := NoB) rfl rfl rfl hb119 (q_pickF (v := B (false)) rfl rfl rfl) ?_
          refine wpL_q (U := NoB) rfl (q_pickT (v := B (false)) rfl hb119 rfl) ?_
          refine wpL_q (U := NoB) rfl (q_assign (v := B (false)) rfl rfl) ?_
          exact ⟨(Eq.trans rfl (congrArg B ((decide_eq_false (fun h => (not_or.2 ⟨(fun h => hg121 h.1), (fun h => hg133 h.1)⟩) h.2)).symm))), (hS117.drop (List.Sublist.cons _ (List.Sublist.cons_cons _ (List.Sublist.cons _ (List.Sublist.cons_cons _ (List.Sublist.cons_cons _ (List.Sublist.cons_cons _ (List.Sublist.slnil))))))))⟩
    · have hb120 := Eq.trans rfl (congrArg B (decide_eq_false hg118))
      refine wpL_gs rfl rfl rfl hb120 rfl ?_
      refine wpL_gs rfl rfl rfl hb120 rfl ?_
      refine wpL_gs rfl rfl rfl hb120 rfl ?_
      refine wpL_gs' rfl rfl rfl rfl ?_
      refine wpL_gs' rfl rfl rfl rfl ?_
      refine wpL_gs' rfl rfl rfl rfl ?_
      refine wpL_gs rfl rfl rfl hb120 rfl ?_
      refine wpL_gs rfl rfl rfl hb120 rfl ?_
      refine wpL_gs' rfl rfl rfl rfl ?_
      refine wpL_gs' rfl rfl rfl rfl ?_
      refine wpL_gs' rfl rfl rfl rfl ?_
      refine wpL_gs' rfl rfl rfl rfl ?_
      refine wpL_gs' rfl rfl rfl rfl ?_
      refine wpL_gs' rfl rfl rfl rfl ?_
      refine wpL_gs rfl rfl rfl hb120 rfl ?_
      refine wpL_q (U := NoB) rfl (q_pickF (v := B (false)) rfl hb120 rfl) ?_
      refine wpL_q (U := NoB) rfl (q_assign (v := B (false)) rfl rfl) ?_
      exact ⟨(Eq.trans rfl (congrArg B ((decide_eq_false (fun h => hg118 h.1)).symm))), (hS117.drop (List.Sublist.cons _ (List.Sublist.cons_cons _ (List.Sublist.cons _ (List.Sublist.cons_cons _ (List.Sublist.cons_cons _ (List.Sublist.cons_cons _ (List.Sublist.slnil))))))))⟩
  rintro f139 H139 ⟨a139_4, hS139⟩
  clear a117_11 a117_12 a117_8 a117_9
  refine wpF_ret ?_
  refine ⟨_, resT a139_4 resN, hS139.frame, ?_⟩
  show (B (decide (((cutOk l t) = ((cutG l t).isSome)) ∧ ((((!(cutOk l t)) = true) ∧ (((cutList l t).length : Int) = 0)) ∨ (((cutOk l t) = true) ∧ ((cutList l t) = y113)))))) = B true
  exact congrArg B (decide_eq_true (by rw [hg.1, hg.2]; cases hc : cutG l t with | none => simp | some s => rw [hyy2 s hc]; simp))

end Go.Um
