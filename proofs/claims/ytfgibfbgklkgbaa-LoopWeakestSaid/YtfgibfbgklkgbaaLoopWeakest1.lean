import Derived.Test.YtfgibfbgklkgbaaProg
import Derived.Test.YtfgibfbgklkgbaaLoopF1
namespace Go.Um
open Go.Proofs
open GoT (sz ag rdc)
open KeyT (kv)

theorem el_Int_3_LoopWeakest1 : ElT Try.prog Int 3 := ⟨Try.isAgg3, Try.sizeOf3⟩

set_option maxRecDepth 100000 in
theorem LoopWeakest_L {H0 : Heap} (vw vt vl vs : Value) (j : Jump) (l : List LRow) (s : List Int) (rvw : Rd NoB H0 vw j.When) (rvt : Rd NoB H0 vt j.To) (rl : Rd NoB H0 vl l) (rs : Rd NoB H0 vs s) : CallsH Try.prog 6 #[Value.agg #[vw, vt], vl, vs] H0 (fun rv_ H' => Ext NoB H0 H' ∧ rv_ = B true) := by
  have hss := (Rd.list.1 rs).small
  have hst := (Rd.list.1 rvt).small
  have hsl := (Rd.list.1 rl).small
  have hS0 : St H0 NoB NoB [rdE vw (j.When : List LRow), rdE vt (j.To : List (List Int)), rdE vl (l : List LRow), rdE vs (s : List Int)] H0 := St.arg (St.arg (St.arg (St.arg (St.start (fun _ h => h.elim)) (Bl0.nil) rs (fun _ h => h)) (Bl0.cons (Bl0.nil)) rl (fun _ h => h)) (Bl0.cons (Bl0.cons (Bl0.nil))) rvt (fun _ h => h)) (Bl0.cons (Bl0.cons (Bl0.cons (Bl0.nil)))) rvw (fun _ h => h)
  refine callsH_of_wpF (args := [Value.agg #[vw, vt], vl, vs]) (rs := [.tmp 6]) Try.func6 rfl Try.ntmps6 Try.results6 (by kernel_rfl) (Nat.le_of_ble_eq_true rfl) ?_
  have a0_0 : argF [Value.agg #[vw, vt], vl, vs] 0 = Value.agg #[vw, vt] := rfl
  have a0_1 : argF [Value.agg #[vw, vt], vl, vs] 1 = vl := rfl
  have a0_2 : argF [Value.agg #[vw, vt], vl, vs] 2 = vs := rfl
  generalize argF [Value.agg #[vw, vt], vl, vs] = f0 at *
  refine wpF_seq ?_
  refine wpF_cut (fun f H => ∃ (g1 : Nat), f 1 = vl ∧ f 2 = vs ∧ f 3 = PT g1 0 ∧ St H0 NoB NoB [blkE g1 (.cells #[vw, vt] 25), rdE vw (j.When : List LRow), rdE vt (j.To : List (List Int)), rdE vl (l : List LRow), rdE vs (s : List Int)] H) ?_ ?_
  · refine wpF_region ?_
    refine wpL_o rfl ?_
    refine e_box (v := Value.agg #[vw, vt]) rfl a0_0 hS0 (fun g1 H2 hS3 hxx => ?_)
    replace hS3 : St H0 NoB NoB [blkE g1 (.cells #[vw, vt] 25), rdE vw (j.When : List LRow), rdE vt (j.To : List (List Int)), rdE vl (l : List LRow), rdE vs (s : List Int)] H2 := hS3
    refine wpL_q (U := NoB) rfl (q_assign (v := B (false)) rfl rfl) ?_
    exact ⟨g1, a0_1, a0_2, rfl, hS3⟩
  rintro f4 H4 ⟨g1, a4_1, a4_2, a4_3, hS4⟩
  clear a0_0 a0_1 a0_2
  refine wpF_seq ?_
  refine wpF_cut (fun f H => f 1 = vl ∧ f 2 = vs ∧ f 3 = PT g1 0 ∧ f 7 = B (true) ∧ St H0 NoB NoB [blkE g1 (.cells #[vw, vt] 25), rdE vw (j.When : List LRow), rdE vt (j.To : List (List Int)), rdE vl (l : List LRow), rdE vs (s : List Int)] H) ?_ ?_
  · refine wpF_region ?_
    refine wpL_o rfl ?_
    refine e_call rfl Try.call32 arr0 (loopFact) ?_
    rintro _ H5 ⟨hxx, rfl⟩
    have hS6 : St H0 NoB NoB [blkE g1 (.cells #[vw, vt] 25), rdE vw (j.When : List LRow), rdE vt (j.To : List (List Int)), rdE vl (l : List LRow), rdE vs (s : List Int)] H5 := hS4.ext hxx
    refine wpL_q (U := NoB) rfl (q_assign (v := B (true)) rfl rfl) ?_
    exact ⟨a4_1, a4_2, a4_3, rfl, hS6⟩
  rintro f8 H8 ⟨a8_1, a8_2, a8_3, a8_7, hS8⟩
  clear a4_1 a4_2 a4_3
  refine wpF_seq ?_
  refine wpF_seq ?_
  refine wpF_cut (fun f H => f 1 = vl ∧ f 2 = vs ∧ f 3 = PT g1 0 ∧ f 13 = B (false) ∧ H8 = H) ?_ ?_
  · refine wpF_region ?_
    refine wpL_q (U := NoB) rfl (q_move (v := B (true)) rfl a8_7) ?_
    refine wpL_q (U := NoB) rfl (q_not rfl rfl) ?_
    exact ⟨a8_1, a8_2, a8_3, rfl, rfl⟩
  rintro f9 _ ⟨a9_1, a9_2, a9_3, a9_13, rfl⟩
  clear a8_1 a8_2 a8_3 a8_7
  refine wpF_condF a9_13 ?_
  refine wpF_skip ?_
  refine wpF_seq ?_
  refine wpF_cut (fun f H => ∃ (r10 : Value), ∃ (g14 : Nat), f 1 = vl ∧ f 2 = vs ∧ f 3 = PT g1 0 ∧ f 8 = r10 ∧ f 9 = PT g14 0 ∧ St H0 NoB NoB [blkE g14 (.cells #[I ((wantFault j l).1), I ((wantFault j l).2)] 27), rdE r10 (wantAll j l : List LRow), blkE g1 (.cells #[vw, vt] 25), rdE vw (j.When : List LRow), rdE vt (j.To : List (List Int)), rdE vl (l : List LRow), rdE vs (s : List Int)] H) ?_ ?_
  · refine wpF_region ?_
    refine wpL_q (U := NoB) rfl (q_loadBlkA rfl a9_3 Try.isAgg25 Try.sizeOf25 rfl (hS8.blk 0 rfl) (fun h => h)) ?_
    refine wpL_q (U := NoB) rfl (q_move (v := vl) rfl a9_1) ?_
    refine wpL_o rfl ?_
    refine e_call rfl Try.call17 (arr2 (v0 := Value.agg #[vw, vt]) (v1 := vl) rfl rfl) (Want_L vw vt vl j l (hS8.rdS 1 rfl) (hS8.rdS 2 rfl) (hS8.rdS 3 rfl)) ?_
    rintro _ H11 ⟨hxx, r10, rfl, hrr10⟩
    have hS12 : St H0 NoB NoB [rdE r10 (wantAll j l : List LRow), blkE g1 (.cells #[vw, vt] 25), rdE vw (j.When : List LRow), rdE vt (j.To : List (List Int)), rdE vl (l : List LRow), rdE vs (s : List Int)] H11 := (hS8.res hxx hrr10)
    refine wpL_q (U := NoB) rfl (q_move (v := Value.tuple #[r10, Value.agg #[I ((wantFault j l).1), I ((wantFault j l).2)]]) rfl rfl) ?_
    refine wpL_q (U := NoB) rfl (q_extract (vs := #[r10, Value.agg #[I ((wantFault j l).1), I ((wantFault j l).2)]]) (v := r10) rfl rfl rfl) ?_
    refine wpL_q (U := NoB) rfl (q_extract (vs := #[r10, Value.agg #[I ((wantFault j l).1), I ((wantFault j l).2)]]) (v := Value.agg #[I ((wantFault j l).1), I ((wantFault j l).2)]) rfl rfl rfl) ?_
    refine wpL_o rfl ?_
    refine e_alloc rfl Try.zeroValue27 hS12 (fun g14 H15 hS16 hxx => ?_)
    replace hS16 : St H0 NoB NoB [blkE g14 (.cells #[I (0), I (0)] 27), rdE r10 (wantAll j l : List LRow), blkE g1 (.cells #[vw, vt] 25), rdE vw (j.When : List LRow), rdE vt (j.To : List (List Int)), rdE vl (l : List LRow), rdE vs (s : List Int)] H15 := hS16
    refine wpL_q (U := NoB) rfl (q_assign (v := r10) rfl rfl) ?_
    refine wpL_o rfl ?_
    refine e_storeBlkA (cs' := #[I ((wantFault j l).1), I ((wantFault j l).2)]) rfl rfl rfl Try.sizeOf27 rfl rfl (List.forall_mem_cons.2 ⟨rfl, List.forall_mem_cons.2 ⟨rfl, List.forall_mem_nil _⟩⟩) hS16 (fun H17 hS18 hxx => ?_)
    replace hS18 : St H0 NoB NoB [blkE g14 (.cells #[I ((wantFault j l).1), I ((wantFault j l).2)] 27), rdE r10 (wantAll j l : List LRow), blkE g1 (.cells #[vw, vt] 25), rdE vw (j.When : List LRow), rdE vt (j.To : List (List Int)), rdE vl (l : List LRow), rdE vs (s : List Int)] H17 := hS18
    exact ⟨r10, g14, a9_1, a9_2, a9_3, rfl, rfl, hS18⟩
  rintro f19 H19 ⟨r10, g14, a19_1, a19_2, a19_3, a19_8, a19_9, hS19⟩
  clear a9_1 a9_13 a9_2 a9_3
  refine wpF_seq ?_
  refine wpF_seq ?_
  refine wpF_cut (fun f H => f 1 = vl ∧ f 2 = vs ∧ f 3 = PT g1 0 ∧ f 8 = r10 ∧ f 9 = PT g14 0 ∧ f 30 = B (decide ((((wantFault j l).1) ≠ 0) ∨ ((s.length : Int) ≠ (j.To.length : Int)))) ∧ H19 = H) ?_ ?_
  · refine wpF_region ?_
    refine wpL_q (U := NoB) rfl (q_fieldAddr rfl Try.underlying27 rfl Try.sizeOf3 a19_9) ?_
    refine wpL_q (U := NoB) rfl (q_loadBlk rfl rfl Try.isAgg3 (hS19.blk 0 rfl) rfl (fun h => h)) ?_
    refine wpL_q (U := NoB) rfl (q_neq rfl rfl rfl) ?_
    refine wpL_q (U := NoB) rfl (q_move (v := B (decide (((wantFault j l).1) ≠ 0))) rfl rfl) ?_
    by_cases hg20 : ((wantFault j l).1) ≠ 0
    · have hb21 := Eq.trans rfl (congrArg B (decide_eq_true hg20))
      refine wpL_gs rfl rfl rfl hb21 rfl ?_
      refine wpL_gs rfl rfl rfl hb21 rfl ?_
      refine wpL_gs rfl rfl rfl hb21 rfl ?_
      refine wpL_gs rfl rfl rfl hb21 rfl ?_
      refine wpL_gs rfl rfl rfl hb21 rfl ?_
      refine wpL_gs rfl rfl rfl hb21 rfl ?_
      refine wpL_q (U := NoB) rfl (q_pickT (v := B (true)) rfl hb21 rfl) ?_
      exact ⟨a19_1, a19_2, a19_3, a19_8, a19_9, (Eq.trans rfl (congrArg B ((decide_eq_true (Or.inl hg20)).symm))), rfl⟩
    · have hb22 := Eq.trans rfl (congrArg B (decide_eq_false hg20))
      refine wpL_gq (U := NoB) rfl rfl rfl hb22 (q_move (v := vs) rfl a19_2) ?_
      refine wpL_gq (U := NoB) rfl rfl rfl hb22 (q_lenRd rfl Try.underlying32 rfl (hS19.rdl 6 rfl)) ?_
      refine wpL_gq (U := NoB) rfl rfl rfl hb22 (q_fieldAddr rfl Try.underlying25 rfl Try.sizeOf23 a19_3) ?_
      refine wpL_gq (U := NoB) rfl rfl rfl hb22 (q_loadBlk rfl rfl Try.isAgg23 (hS19.blk 2 rfl) rfl (fun h => h)) ?_
      refine wpL_gq (U := NoB) rfl rfl rfl hb22 (q_lenRd rfl Try.underlying23 rfl (hS19.rdl 4 rfl)) ?_
      refine wpL_gq (U := NoB) rfl rfl rfl hb22 (q_neq rfl rfl rfl) ?_
      refine wpL_q (U := NoB) rfl (q_pickF (v := B (decide ((s.length : Int) ≠ (j.To.length : Int)))) rfl hb22 rfl) ?_
      exact ⟨a19_1, a19_2, a19_3, a19_8, a19_9, (Eq.trans rfl (congrArg B (decide_congr_of ((Iff.rfl).trans (((or_iff_right hg20).trans Iff.rfl)).symm)))), rfl⟩
  rintro f23 _ ⟨a23_1, a23_2, a23_3, a23_8, a23_9, a23_30, rfl⟩
  clear a19_1 a19_2 a19_3 a19_8 a19_9
  refine wpF_condP a23_30 (fun h30 => ?t47) (fun h30 => ?e47)
  case t47 =>
    refine wpF_seq ?_
    refine wpF_cut (fun f H => f 6 = B (decide ((((wantFault j l).1) = 0) ∨ (((wantAll j l).length : Int) = 0))) ∧ H19 = H) ?_ ?_
    · refine wpF_region ?_
      refine wpL_q (U := NoB) rfl (q_fieldAddr rfl Try.underlying27 rfl Try.sizeOf3 a23_9) ?_
      refine wpL_q (U := NoB) rfl (q_loadBlk rfl rfl Try.isAgg3 (hS19.blk 0 rfl) rfl (fun h => h)) ?_
      refine wpL_q (U := NoB) rfl (q_eql rfl rfl rfl) ?_
      refine wpL_q (U := NoB) rfl (q_move (v := B (decide (((wantFault j l).1) = 0))) rfl rfl) ?_
      by_cases hg25 : ((wantFault j l).1) = 0
      · have hb26 := Eq.trans rfl (congrArg B (decide_eq_true hg25))
        refine wpL_gs rfl rfl rfl hb26 rfl ?_
        refine wpL_gs rfl rfl rfl hb26 rfl ?_
        refine wpL_gs rfl rfl rfl hb26 rfl ?_
        refine wpL_q (U := NoB) rfl (q_pickT (v := B (true)) rfl hb26 rfl) ?_
        refine wpL_q (U := NoB) rfl (q_assign (v := B (true)) rfl rfl) ?_
        exact ⟨(Eq.trans rfl (congrArg B ((decide_eq_true (Or.inl hg25)).symm))), rfl⟩
      · have hb27 := Eq.trans rfl (congrArg B (decide_eq_false hg25))
        refine wpL_gq (U := NoB) rfl rfl rfl hb27 (q_move (v := r10) rfl a23_8) ?_
        refine wpL_gq (U := NoB) rfl rfl rfl hb27 (q_lenRd rfl Try.underlying22 rfl (hS19.rdl 1 rfl)) ?_
        refine wpL_gq (U := NoB) rfl rfl rfl hb27 (q_eql rfl rfl rfl) ?_
        refine wpL_q (U := NoB) rfl (q_pickF (v := B (decide (((wantAll j l).length : Int) = 0))) rfl hb27 rfl) ?_
        refine wpL_q (U := NoB) rfl (q_assign (v := B (decide (((wantAll j l).length : Int) = 0))) rfl rfl) ?_
        exact ⟨(Eq.trans rfl (congrArg B (decide_congr_of ((Iff.rfl).trans (((or_iff_right hg25).trans Iff.rfl)).symm)))), rfl⟩
    rintro f28 _ ⟨a28_6, rfl⟩
    clear a23_1 a23_2 a23_3 a23_30 a23_8 a23_9
    refine wpF_ret ?_
    refine ⟨_, resT a28_6 resN, hS19.frame, ?_⟩
    show (B (decide ((((wantFault j l).1) = 0) ∨ (((wantAll j l).length : Int) = 0)))) = B true
    by_cases hz : (wantFault j l).1 = 0
    · exact congrArg B (decide_eq_true (.inl hz))
    · exact congrArg B (decide_eq_true (.inr (by rw [wantAll_bad hz]; rfl)))
  refine wpF_skip ?_
  refine wpF_seq ?_
  refine wpF_seq ?_
  refine wpF_cut (fun f H => f 1 = vl ∧ f 2 = vs ∧ f 3 = PT g1 0 ∧ f 8 = r10 ∧ f 10 = I (0) ∧ H19 = H) ?_ ?_
  · refine wpF_region ?_
    refine wpL_q (U := NoB) rfl (q_assign (v := I (0)) rfl rfl) ?_
    exact ⟨a23_1, a23_2, a23_3, a23_8, rfl, rfl⟩
  rintro f29 _ ⟨a29_1, a29_2, a29_3, a29_8, a29_10, rfl⟩
  clear a23_1 a23_2 a23_3 a23_30 a23_8 a23_9
  refine wpF_block ?_
  refine wpF_loop (fun mz f H => ∃ (i : Nat), mz = s.length - i ∧ (i ≤ s.length) ∧ (∀ k, k < i → -1000000 ≤ nth s k ∧ nth s k ≤ 1000000) ∧ f 1 = vl ∧ f 2 = vs ∧ f 3 = PT g1 0 ∧ f 8 = r10 ∧ f 10 = I ((i : Int)) ∧ St H0 NoB NoB [blkE g14 (.cells #[I ((wantFault j l).1), I ((wantFault j l).2)] 27), rdE r10 (wantAll j l : List LRow), blkE g1 (.cells #[vw, vt] 25), rdE vw (j.When : List LRow), rdE vt (j.To : List (List Int)), rdE vl (l : List LRow), rdE vs (s : List Int)] H) (s.length - 0) ?_ ?_
  · exact ⟨0, rfl, Nat.zero_le _, (fun j hj => absurd hj (Nat.not_lt_zero j)), a29_1, a29_2, a29_3, a29_8, (Eq.trans a29_10 (congrArg I (by omega))), hS19⟩
  intro m30 f30 H30 hI30
  obtain ⟨i, hm30, hi, hp, a30_1, a30_2, a30_3, a30_8, a30_10, hS30⟩ := hI30
  clear a29_1 a29_10 a29_2 a29_3 a29_8
  refine wpF_seq ?_
  refine wpF_seq ?_
  refine wpF_cut (fun f H => f 1 = vl ∧ f 2 = vs ∧ f 3 = PT g1 0 ∧ f 8 = r10 ∧ f 10 = I ((i : Int)) ∧ f 42 = B (decide ((i : Int) < (s.length : Int))) ∧ H30 = H) ?_ ?_
  · refine wpF_region ?_
    refine wpL_q (U := NoB) rfl (q_move (v := I ((i : Int))) rfl a30_10) ?_
    refine wpL_q (U := NoB) rfl (q_move (v := vs) rfl a30_2) ?_
    refine wpL_q (U := NoB) rfl (q_lenRd rfl Try.underlying32 rfl (hS30.rdl 6 rfl)) ?_
    refine wpL_q (U := NoB) rfl (q_lss rfl rfl rfl) ?_
    exact ⟨a30_1, a30_2, a30_3, a30_8, a30_10, rfl, rfl⟩
  rintro f31 _ ⟨a31_1, a31_2, a31_3, a31_8, a31_10, a31_42, rfl⟩
  clear a30_1 a30_10 a30_2 a30_3 a30_8
  refine wpF_condP a31_42 (fun hlt => ?t46) (fun hlt => ?e46)
  case t46 =>
    refine wpF_skip ?_
    refine wpF_seq ?_
    refine wpF_block ?_
    refine wpF_seq ?_
    refine wpF_cut (fun f H => f 1 = vl ∧ f 2 = vs ∧ f 3 = PT g1 0 ∧ f 8 = r10 ∧ f 10 = I ((i : Int)) ∧ f 50 = B (decide (¬ ((-1000000) ≤ (nth s i) ∧ (nth s i) ≤ 1000000))) ∧ St H0 NoB NoB [blkE g14 (.cells #[I ((wantFault j l).1), I ((wantFault j l).2)] 27), rdE r10 (wantAll j l : List LRow), blkE g1 (.cells #[vw, vt] 25), rdE vw (j.When : List LRow), rdE vt (j.To : List (List Int)), rdE vl (l : List LRow), rdE vs (s : List Int)] H) ?_ ?_
    · refine wpF_region ?_
      refine wpL_q (U := NoB) rfl (q_move (v := vs) rfl a31_2) ?_
      refine wpL_q (U := NoB) rfl (q_move (v := I ((i : Int))) rfl a31_10) ?_
      refine wpL_q (U := NoB) rfl (q_indexRd (k := i) rfl Try.underlying32 el_Int_3_LoopWeakest1 rfl rfl (hS30.rdl 6 rfl) (by omega) (by omega)) ?_
      refine wpL_q (U := NoB) rfl (q_loadInt (k := i) rfl rfl el_Int_3_LoopWeakest1 (hS30.rdl 6 rfl) (by omega) (fun _ h => h)) ?_
      refine wpL_o rfl ?_
      refine e_call rfl Try.call12 (arr3 (v0 := I (nth s i)) (v1 := I (-1000000)) (v2 := I (1000000)) rfl rfl rfl) (in_L (nth s i) (-1000000) 1000000) ?_
      rintro _ H33 ⟨hxx, rfl⟩
      have hS34 : St H0 NoB NoB [blkE g14 (.cells #[I ((wantFault j l).1), I ((wantFault j l).2)] 27), rdE r10 (wantAll j l : List LRow), blkE g1 (.cells #[vw, vt] 25), rdE vw (j.When : List LRow), rdE vt (j.To : List (List Int)), rdE vl (l : List LRow), rdE vs (s : List Int)] H33 := hS30.ext hxx
      refine wpL_q (U := NoB) rfl (q_notP rfl rfl) ?_
      exact ⟨a31_1, a31_2, a31_3, a31_8, a31_10, rfl, hS34⟩
    rintro f36 H36 ⟨a36_1, a36_2, a36_3, a36_8, a36_10, a36_50, hS36⟩
    clear a31_1 a31_10 a31_2 a31_3 a31_42 a31_8
    refine wpF_condP a36_50 (fun h50 => ?t40) (fun h50 => ?e40)
    case t40 =>
      refine wpF_seq ?_
      refine wpF_cut (fun f H => f 6 = B (true) ∧ H36 = H) ?_ ?_
      · refine wpF_region ?_
        refine wpL_q (U := NoB) rfl (q_assign (v := B (true)) rfl rfl) ?_
        exact ⟨rfl, rfl⟩
      rintro f38 _ ⟨a38_6, rfl⟩
      clear a36_1 a36_10 a36_2 a36_3 a36_50 a36_8
      refine wpF_ret ?_
      refine ⟨_, resT a38_6 resN, hS36.frame, ?_⟩
      show (B (true)) = B true
      rfl
    refine wpF_skip ?_
    refine wpF_cut (fun f H => f 1 = vl ∧ f 2 = vs ∧ f 3 = PT g1 0 ∧ f 8 = r10 ∧ f 10 = I ((i : Int) + 1) ∧ H36 = H) ?_ ?_
    · refine wpF_region ?_
      refine wpL_q (U := NoB) rfl (q_move (v := I ((i : Int))) rfl a36_10) ?_
      refine wpL_q (U := NoB) rfl (q_add rfl rfl rfl (by constructor <;> omega)) ?_
      refine wpL_q (U := NoB) rfl (q_assign (v := I ((i : Int) + 1)) rfl rfl) ?_
      exact ⟨a36_1, a36_2, a36_3, a36_8, rfl, rfl⟩
    rintro f39 _ ⟨a39_1, a39_2, a39_3, a39_8, a39_10, rfl⟩
    clear a36_1 a36_10 a36_2 a36_3 a36_50 a36_8
    refine ⟨_, ?_, i + 1, rfl, (by omega), (all_succ hp (by omega)), a39_1, a39_2, a39_3, a39_8, (Eq.trans a39_10 (congrArg I (by omega))), hS36⟩
    omega
  have hsm : Small s := fun k hk => hp k (by omega)
  have hlaw := weak_law (j := j) (l := l) (s := s) (Decidable.of_not_not fun h => h30 (.inl h)) (by omega) hsm
  refine wpF_exit ?_
  refine atX_here ?_
  refine wpF_seq ?_
  refine wpF_cut (fun f H => f 6 = B (decide ((((wantAll j l).length : Int) = (l.length : Int)) ∧ ((holdB (wantAll j l) s) = (holdB l (ledL j s))))) ∧ St H0 NoB NoB [blkE g14 (.cells #[I ((wantFault j l).1), I ((wantFault j l).2)] 27), blkE g1 (.cells #[vw, vt] 25), rdE vw (j.When : List LRow), rdE vt (j.To : List (List Int)), rdE vl (l : List LRow), rdE vs (s : List Int)] H) ?_ ?_
  · refine wpF_drawn [] [] (fun _ _ => False) (by kernel_rfl) (by kernel_rfl) ?_
    refine wpR_q 0 (by kernel_rfl) rfl (quietAt rfl rfl (q_move (v := r10) rfl a31_8)) ?_
    refine wpR_q 1 (by kernel_rfl) rfl (quietAt rfl rfl (q_lenRd rfl Try.underlying22 rfl (hS30.rdl 1 rfl))) ?_
    refine wpR_q 2 (by kernel_rfl) rfl (quietAt rfl rfl (q_move (v := vl) rfl a31_1)) ?_
    refine wpR_q 3 (by kernel_rfl) rfl (quietAt rfl rfl (q_lenRd rfl Try.underlying22 rfl (hS30.rdl 5 rfl))) ?_
    refine wpR_q 4 (by kernel_rfl) rfl (quietAt rfl rfl (q_eql rfl rfl rfl)) ?_
    refine wpR_q 5 (by kernel_rfl) rfl (quietAt rfl rfl (q_move (v := B (decide (((wantAll j l).length : Int) = (l.length : Int)))) rfl rfl)) ?_
    by_cases hg42 : ((wantAll j l).length : Int) = (l.length : Int)
    · have hb43 := Eq.trans rfl (congrArg B (decide_eq_true hg42))
      refine wpR_q 6 (by kernel_rfl) rfl (quietAt_g rfl rfl rfl rfl hb43 (q_move (v := r10) rfl a31_8)) ?_
      refine wpR_q 7 (by kernel_rfl) rfl (quietAt_g rfl rfl rfl rfl hb43 (q_move (v := vs) rfl a31_2)) ?_
      refine wpR_q 9 (by kernel_rfl) rfl (quietAt_g rfl rfl rfl rfl hb43 (q_move (v := vl) rfl a31_1)) ?_
      refine wpR_q 10 (by kernel_rfl) rfl (quietAt_g rfl rfl rfl rfl hb43 (q_loadBlkA rfl a31_3 Try.isAgg25 Try.sizeOf25 rfl (hS30.blk 2 rfl) (labU_not [] rfl (List.forall_mem_nil _)))) ?_
      refine wpR_q 11 (by kernel_rfl) rfl (quietAt_g rfl rfl rfl rfl hb43 (q_move (v := vs) rfl a31_2)) ?_
      refine wpR_n [8] (by kernel_rfl) ?_
      refine List.forall_mem_cons.2 ⟨?_, List.forall_mem_nil _⟩
      refine exE_g rfl rfl rfl rfl hb43 ?_
      refine e_call rfl Try.call33 (arr2 (v0 := r10) (v1 := vs) rfl rfl) (Hold_R r10 vs (wantAll j l) s (hS30.rdN 1 rfl) (hS30.rdN 6 rfl) hlaw.2.1) ?_
      rintro _ H41o8 ⟨hxx, rfl⟩
      have hS41o8 : St H0 NoB NoB [blkE g14 (.cells #[I ((wantFault j l).1), I ((wantFault j l).2)] 27), rdE r10 (wantAll j l : List LRow), blkE g1 (.cells #[vw, vt] 25), rdE vw (j.When : List LRow), rdE vt (j.To : List (List Int)), rdE vl (l : List LRow), rdE vs (s : List Int)] H41o8 := hS30.ext hxx
      refine ⟨Ext.mono hxx (fun _ h => h.elim), ?_⟩
      refine wpR_n [12] (by kernel_rfl) ?_
      refine List.forall_mem_cons.2 ⟨?_, List.forall_mem_nil _⟩
      refine exE_g rfl rfl rfl rfl hb43 ?_
      refine e_call rfl Try.call34 (arr2 (v0 := Value.agg #[vw, vt]) (v1 := vs) rfl rfl) (Led_R vw vt vs j s (hS41o8.rdS 3 rfl) (hS41o8.rdS 4 rfl) (hS41o8.rdS 6 rfl) hlaw.2.2.2.2.1 hlaw.2.2.2.2.2 hsm) ?_
      rintro r41o12 H41o12 ⟨hxx, hrr41o12⟩
      have hS41o12 : St H0 NoB NoB [rdE r41o12 (ledL j s : List Int), blkE g14 (.cells #[I ((wantFault j l).1), I ((wantFault j l).2)] 27), rdE r10 (wantAll j l : List LRow), blkE g1 (.cells #[vw, vt] 25), rdE vw (j.When : List LRow), rdE vt (j.To : List (List Int)), rdE vl (l : List LRow), rdE vs (s : List Int)] H41o12 := hS41o8.res hxx hrr41o12
      refine ⟨Ext.mono hxx (fun _ h => h.elim), ?_⟩
      refine wpR_n [13] (by kernel_rfl) ?_
      refine List.forall_mem_cons.2 ⟨?_, List.forall_mem_nil _⟩
      refine exE_g rfl rfl rfl rfl hb43 ?_
      refine e_call rfl Try.call33 (arr2 (v0 := vl) (v1 := r41o12) rfl rfl) (Hold_R vl r41o12 l (ledL j s) (hS41o12.rdN 6 rfl) (hS41o12.rdN 0 rfl) hlaw.2.2.1) ?_
      rintro _ H41o13 ⟨hxx, rfl⟩
      have hS41o13 : St H0 NoB NoB [rdE r41o12 (ledL j s : List Int), blkE g14 (.cells #[I ((wantFault j l).1), I ((wantFault j l).2)] 27), rdE r10 (wantAll j l : List LRow), blkE g1 (.cells #[vw, vt] 25), rdE vw (j.When : List LRow), rdE vt (j.To : List (List Int)), rdE vl (l : List LRow), rdE vs (s : List Int)] H41o13 := hS41o12.ext hxx
      refine ⟨Ext.mono hxx (fun _ h => h.elim), ?_⟩
      refine wpR_q 14 (by kernel_rfl) rfl (quietAt_g rfl rfl rfl rfl hb43 (q_eqlB rfl Try.underlying4 rfl rfl)) ?_
      refine wpR_q 15 (by kernel_rfl) rfl (quietAt rfl rfl (q_pickT (v := B (decide ((holdB (wantAll j l) s) = (holdB l (ledL j s))))) rfl hb43 rfl)) ?_
      refine wpR_q 16 (by kernel_rfl) rfl (quietAt rfl rfl (q_assign (v := B (decide ((holdB (wantAll j l) s) = (holdB l (ledL j s))))) rfl rfl)) ?_
      refine wpR_end (by kernel_rfl) ?_
      exact ⟨(Eq.trans rfl (congrArg B (decide_congr_of ((Iff.rfl).trans (((and_iff_right hg42).trans Iff.rfl)).symm)))), (hS41o13.drop (List.Sublist.cons _ (List.Sublist.cons_cons _ (List.Sublist.cons _ (List.Sublist.cons_cons _ (List.Sublist.cons_cons _ (List.Sublist.cons_cons _ (List.Sublist.cons_cons _ (List.Sublist.cons_cons _ (List.Sublist.slnil))))))))))⟩
    · have hb44 := Eq.trans rfl (congrArg B (decide_eq_false hg42))
      refine wpR_q 6 (by kernel_rfl) rfl (quietAt_s rfl rfl rfl rfl hb44 rfl) ?_
      refine wpR_q 7 (by kernel_rfl) rfl (quietAt_s rfl rfl rfl rfl hb44 rfl) ?_
      refine wpR_q 8 (by kernel_rfl) rfl (quietAt_s rfl rfl rfl rfl hb44 rfl) ?_
      refine wpR_q 9 (by kernel_rfl) rfl (quietAt_s rfl rfl rfl rfl hb44 rfl) ?_
      refine wpR_q 10 (by kernel_rfl) rfl (quietAt_s rfl rfl rfl rfl hb44 rfl) ?_
      refine wpR_q 11 (by kernel_rfl) rfl (quietAt_s rfl rfl rfl rfl hb44 rfl) ?_
      refine wpR_q 12 (by kernel_rfl) rfl (quietAt_s rfl rfl rfl rfl hb44 rfl) ?_
      refine wpR_q 13 (by kernel_rfl) rfl (quietAt_s rfl rfl rfl rfl hb44 rfl) ?_
      refine wpR_q 14 (by kernel_rfl) rfl (quietAt_s rfl rfl rfl rfl hb44 rfl) ?_
      refine wpR_q 15 (by kernel_rfl) rfl (quietAt rfl rfl (q_pickF (v := B (false)) rfl hb44 rfl)) ?_
      refine wpR_q 16 (by kernel_rfl) rfl (quietAt rfl rfl (q_assign (v := B (false)) rfl rfl)) ?_
      refine wpR_end (by kernel_rfl) ?_
      exact ⟨(Eq.trans rfl (congrArg B ((decide_eq_false (fun h => hg42 h.1)).symm))), (hS30.drop (List.Sublist.cons_cons _ (List.Sublist.cons _ (List.Sublist.cons_cons _ (List.Sublist.cons_cons _ (List.Sublist.cons_cons _ (List.Sublist.cons_cons _ (List.Sublist.cons_cons _ (List.Sublist.slnil)))))))))⟩
  rintro f45 H45 ⟨a45_6, hS45⟩
  clear a31_1 a31_10 a31_2 a31_3 a31_42 a31_8
  refine wpF_ret ?_
  refine ⟨_, resT a45_6 resN, hS45.frame, ?_⟩
  show (B (decide ((((wantAll j l).length : Int) = (l.length : Int)) ∧ ((holdB (wantAll j l) s) = (holdB l (ledL j s)))))) = B true
  exact congrArg B (decide_eq_true ⟨by rw [hlaw.1], hlaw.2.2.2.1⟩)

end Go.Um
