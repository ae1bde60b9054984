import Derived.Test.YtfgibfbgklkgbaaProg
import Derived.Test.YtfgibfbgklkgbaaLoopW1
namespace Go.Um
open Go.Proofs
open GoT (sz ag rdc)
open KeyT (kv)

theorem fl27 (a b c d : Int) (w : World) : (Op.equalIn 10000 27 (.agg #[I a, I b]) (.agg #[I c, I d])).run Try.prog w = .ok (decide (a = c ∧ b = d)) w := eq2_run Try.underlying27 Try.underlying3 Try.underlying3 (by decide) (by decide) rfl rfl Try.isAgg3 Try.isAgg3 Try.stoodInHeld27 a b c d w

set_option maxHeartbeats 1000000 in
set_option maxRecDepth 100000 in
theorem LoopWants_L {H0 : Heap} (vw vt vl : Value) (j : Jump) (l : List LRow) (rvw : Rd NoB H0 vw j.When) (rvt : Rd NoB H0 vt j.To) (rl : Rd NoB H0 vl l) : CallsH Try.prog 3 #[Value.agg #[vw, vt], vl] H0 (fun rv_ H' => Ext NoB H0 H' ∧ rv_ = B true) := by
  have hst := (Rd.list.1 rvt).small
  have hsl := (Rd.list.1 rl).small
  have hS0 : St H0 NoB NoB [rdE vw (j.When : List LRow), rdE vt (j.To : List (List Int)), rdE vl (l : List LRow)] H0 := St.arg (St.arg (St.arg (St.start (fun _ h => h.elim)) (Bl0.nil) rl (fun _ h => h)) (Bl0.cons (Bl0.nil)) rvt (fun _ h => h)) (Bl0.cons (Bl0.cons (Bl0.nil))) rvw (fun _ h => h)
  refine callsH_of_wpF (args := [Value.agg #[vw, vt], vl]) (rs := [.tmp 4]) Try.func3 rfl Try.ntmps3 Try.results3 (by kernel_rfl) (Nat.le_of_ble_eq_true rfl) ?_
  have a0_0 : argF [Value.agg #[vw, vt], vl] 0 = Value.agg #[vw, vt] := rfl
  have a0_1 : argF [Value.agg #[vw, vt], vl] 1 = vl := rfl
  generalize argF [Value.agg #[vw, vt], vl] = f0 at *
  refine wpF_seq ?_
  refine wpF_cut (fun f H => ∃ (g1 : Nat), f 1 = vl ∧ f 2 = PT g1 0 ∧ St H0 NoB NoB [blkE g1 (.cells #[vw, vt] 25), rdE vw (j.When : List LRow), rdE vt (j.To : List (List Int)), rdE vl (l : List LRow)] H) ?_ ?_
  · refine wpF_region ?_
    refine wpL_o rfl ?_
    refine e_box (v := Value.agg #[vw, vt]) rfl a0_0 hS0 (fun g1 H2 hS3 hxx => ?_)
    replace hS3 : St H0 NoB NoB [blkE g1 (.cells #[vw, vt] 25), rdE vw (j.When : List LRow), rdE vt (j.To : List (List Int)), rdE vl (l : List LRow)] H2 := hS3
    refine wpL_q (U := NoB) rfl (q_assign (v := B (false)) rfl rfl) ?_
    exact ⟨g1, a0_1, rfl, hS3⟩
  rintro f4 H4 ⟨g1, a4_1, a4_2, hS4⟩
  clear a0_0 a0_1
  refine wpF_seq ?_
  refine wpF_seq ?_
  refine wpF_cut (fun f H => f 1 = vl ∧ f 2 = PT g1 0 ∧ f 21 = B (decide ((12 < (j.To.length : Int)) ∨ (60 < (l.length : Int)))) ∧ H4 = H) ?_ ?_
  · refine wpF_region ?_
    refine wpL_q (U := NoB) rfl (q_fieldAddr rfl Try.underlying25 rfl Try.sizeOf23 a4_2) ?_
    refine wpL_q (U := NoB) rfl (q_loadBlk rfl rfl Try.isAgg23 (hS4.blk 0 rfl) rfl (fun h => h)) ?_
    refine wpL_q (U := NoB) rfl (q_lenRd rfl Try.underlying23 rfl (hS4.rdl 2 rfl)) ?_
    refine wpL_q (U := NoB) rfl (q_gtr rfl rfl rfl) ?_
    refine wpL_q (U := NoB) rfl (q_move (v := B (decide (12 < (j.To.length : Int)))) rfl rfl) ?_
    by_cases hg5 : 12 < (j.To.length : Int)
    · have hb6 := Eq.trans rfl (congrArg B (decide_eq_true hg5))
      refine wpL_gs rfl rfl rfl hb6 rfl ?_
      refine wpL_gs rfl rfl rfl hb6 rfl ?_
      refine wpL_gs rfl rfl rfl hb6 rfl ?_
      refine wpL_q (U := NoB) rfl (q_pickT (v := B (true)) rfl hb6 rfl) ?_
      exact ⟨a4_1, a4_2, (Eq.trans rfl (congrArg B ((decide_eq_true (Or.inl hg5)).symm))), rfl⟩
    · have hb7 := Eq.trans rfl (congrArg B (decide_eq_false hg5))
      refine wpL_gq (U := NoB) rfl rfl rfl hb7 (q_move (v := vl) rfl a4_1) ?_
      refine wpL_gq (U := NoB) rfl rfl rfl hb7 (q_lenRd rfl Try.underlying22 rfl (hS4.rdl 3 rfl)) ?_
      refine wpL_gq (U := NoB) rfl rfl rfl hb7 (q_gtr rfl rfl rfl) ?_
      refine wpL_q (U := NoB) rfl (q_pickF (v := B (decide (60 < (l.length : Int)))) rfl hb7 rfl) ?_
      exact ⟨a4_1, a4_2, (Eq.trans rfl (congrArg B (decide_congr_of ((Iff.rfl).trans (((or_iff_right hg5).trans Iff.rfl)).symm)))), rfl⟩
  rintro f8 _ ⟨a8_1, a8_2, a8_21, rfl⟩
  clear a4_1 a4_2
  refine wpF_condP a8_21 (fun hbig => ?t136) (fun hbig => ?e136)
  case t136 =>
    refine wpF_seq ?_
    refine wpF_cut (fun f H => f 4 = B (true) ∧ H4 = H) ?_ ?_
    · refine wpF_region ?_
      refine wpL_q (U := NoB) rfl (q_assign (v := B (true)) rfl rfl) ?_
      exact ⟨rfl, rfl⟩
    rintro f10 _ ⟨a10_4, rfl⟩
    clear a8_1 a8_2 a8_21
    refine wpF_ret ?_
    refine ⟨_, resT a10_4 resN, hS4.frame, ?_⟩
    show (B (true)) = B true
    rfl
  refine wpF_skip ?_
  refine wpF_seq ?_
  refine wpF_cut (fun f H => f 1 = vl ∧ f 2 = PT g1 0 ∧ f 5 = I ((j.To.length : Int)) ∧ H4 = H) ?_ ?_
  · refine wpF_region ?_
    refine wpL_q (U := NoB) rfl (q_fieldAddr rfl Try.underlying25 rfl Try.sizeOf23 a8_2) ?_
    refine wpL_q (U := NoB) rfl (q_loadBlk rfl rfl Try.isAgg23 (hS4.blk 0 rfl) rfl (fun h => h)) ?_
    refine wpL_q (U := NoB) rfl (q_lenRd rfl Try.underlying23 rfl (hS4.rdl 2 rfl)) ?_
    refine wpL_q (U := NoB) rfl (q_assign (v := I ((j.To.length : Int))) rfl rfl) ?_
    exact ⟨a8_1, a8_2, rfl, rfl⟩
  rintro f11 _ ⟨a11_1, a11_2, a11_5, rfl⟩
  clear a8_1 a8_2 a8_21
  refine wpF_seq ?_
  refine wpF_cut (fun f H => ∃ (g12 : Nat), f 1 = vl ∧ f 2 = PT g1 0 ∧ f 5 = I ((j.To.length : Int)) ∧ f 6 = PT g12 0 ∧ St H0 NoB NoB [blkE g12 (.cells #[I (0), I (0)] 27), blkE g1 (.cells #[vw, vt] 25), rdE vw (j.When : List LRow), rdE vt (j.To : List (List Int)), rdE vl (l : List LRow)] H) ?_ ?_
  · refine wpF_region ?_
    refine wpL_q (U := NoB) rfl (q_build (v := Value.agg #[I (0), I (0)]) rfl par0 (fun w => by kernel_rfl)) ?_
    refine wpL_o rfl ?_
    refine e_alloc rfl Try.zeroValue27 hS4 (fun g12 H13 hS14 hxx => ?_)
    replace hS14 : St H0 NoB NoB [blkE g12 (.cells #[I (0), I (0)] 27), blkE g1 (.cells #[vw, vt] 25), rdE vw (j.When : List LRow), rdE vt (j.To : List (List Int)), rdE vl (l : List LRow)] H13 := hS14
    refine wpL_o rfl ?_
    refine e_storeBlkA (cs' := #[I (0), I (0)]) rfl rfl rfl Try.sizeOf27 rfl rfl (List.forall_mem_cons.2 ⟨rfl, List.forall_mem_cons.2 ⟨rfl, List.forall_mem_nil _⟩⟩) hS14 (fun H15 hS16 hxx => ?_)
    replace hS16 : St H0 NoB NoB [blkE g12 (.cells #[I (0), I (0)] 27), blkE g1 (.cells #[vw, vt] 25), rdE vw (j.When : List LRow), rdE vt (j.To : List (List Int)), rdE vl (l : List LRow)] H15 := hS16
    exact ⟨g12, a11_1, a11_2, a11_5, rfl, hS16⟩
  rintro f17 H17 ⟨g12, a17_1, a17_2, a17_5, a17_6, hS17⟩
  clear a11_1 a11_2 a11_5
  refine wpF_seq ?_
  refine wpF_seq ?_
  refine wpF_cut (fun f H => f 1 = vl ∧ f 2 = PT g1 0 ∧ f 5 = I ((j.To.length : Int)) ∧ f 6 = PT g12 0 ∧ f 28 = B (decide (¬ (1 ≤ (j.To.length : Int) ∧ (j.To.length : Int) ≤ 8))) ∧ St H0 NoB NoB [blkE g12 (.cells #[I (0), I (0)] 27), blkE g1 (.cells #[vw, vt] 25), rdE vw (j.When : List LRow), rdE vt (j.To : List (List Int)), rdE vl (l : List LRow)] H) ?_ ?_
  · refine wpF_region ?_
    refine wpL_q (U := NoB) rfl (q_move (v := I ((j.To.length : Int))) rfl a17_5) ?_
    refine wpL_o rfl ?_
    refine e_call rfl Try.call12 (arr3 (v0 := I ((j.To.length : Int))) (v1 := I (1)) (v2 := I (8)) rfl rfl rfl) (in_L (j.To.length : Int) 1 8) ?_
    rintro _ H18 ⟨hxx, rfl⟩
    have hS19 : St H0 NoB NoB [blkE g12 (.cells #[I (0), I (0)] 27), blkE g1 (.cells #[vw, vt] 25), rdE vw (j.When : List LRow), rdE vt (j.To : List (List Int)), rdE vl (l : List LRow)] H18 := hS17.ext hxx
    refine wpL_q (U := NoB) rfl (q_notP rfl rfl) ?_
    exact ⟨a17_1, a17_2, a17_5, a17_6, rfl, hS19⟩
  rintro f21 H21 ⟨a21_1, a21_2, a21_5, a21_6, a21_28, hS21⟩
  clear a17_1 a17_2 a17_5 a17_6
  refine wpF_cut (fun f H => ∃ (c0 : Int), ∃ (a0 : Int), (WantA j l 0 c0 a0) ∧ f 1 = vl ∧ f 2 = PT g1 0 ∧ f 5 = I ((j.To.length : Int)) ∧ f 6 = PT g12 0 ∧ St H0 NoB NoB [blkE g12 (.cells #[I (c0), I (a0)] 27), blkE g1 (.cells #[vw, vt] 25), rdE vw (j.When : List LRow), rdE vt (j.To : List (List Int)), rdE vl (l : List LRow)] H) ?_ ?_
  · refine wpF_condP a21_28 (fun h1 => ?t60) (fun h1 => ?e60)
    case t60 =>
      refine wpF_cut (fun f H => f 1 = vl ∧ f 2 = PT g1 0 ∧ f 5 = I ((j.To.length : Int)) ∧ f 6 = PT g12 0 ∧ St H0 NoB NoB [blkE g12 (.cells #[I (2), I (-1)] 27), blkE g1 (.cells #[vw, vt] 25), rdE vw (j.When : List LRow), rdE vt (j.To : List (List Int)), rdE vl (l : List LRow)] H) ?_ ?_
      · refine wpF_region ?_
        refine wpL_o rfl ?_
        refine e_call rfl Try.call13 (arr2 (v0 := I (2)) (v1 := I (-1)) rfl rfl) (fault_L 2 (-1)) ?_
        rintro _ H24 ⟨hxx, rfl⟩
        have hS25 : St H0 NoB NoB [blkE g12 (.cells #[I (0), I (0)] 27), blkE g1 (.cells #[vw, vt] 25), rdE vw (j.When : List LRow), rdE vt (j.To : List (List Int)), rdE vl (l : List LRow)] H24 := hS21.ext hxx
        refine wpL_o rfl ?_
        refine e_storeBlkA (cs' := #[I (2), I (-1)]) rfl a21_6 rfl Try.sizeOf27 rfl rfl (List.forall_mem_cons.2 ⟨rfl, List.forall_mem_cons.2 ⟨rfl, List.forall_mem_nil _⟩⟩) hS25 (fun H27 hS28 hxx => ?_)
        replace hS28 : St H0 NoB NoB [blkE g12 (.cells #[I (2), I (-1)] 27), blkE g1 (.cells #[vw, vt] 25), rdE vw (j.When : List LRow), rdE vt (j.To : List (List Int)), rdE vl (l : List LRow)] H27 := hS28
        exact ⟨a21_1, a21_2, a21_5, a21_6, hS28⟩
      rintro f29 H29 ⟨a29_1, a29_2, a29_5, a29_6, hS29⟩
      clear a21_1 a21_2 a21_28 a21_5 a21_6
      exact ⟨2, -1, (WantA.start (x := (2, -1)) (wantHead_n (by omega)) (fun h => absurd h (by decide))), a29_1, a29_2, a29_5, a29_6, hS29⟩
    refine wpF_seq ?_
    refine wpF_cut (fun f H => f 1 = vl ∧ f 2 = PT g1 0 ∧ f 5 = I ((j.To.length : Int)) ∧ f 6 = PT g12 0 ∧ f 33 = B (decide ((jumpFault j (j.To.length : Int)) ≠ 0)) ∧ St H0 NoB NoB [blkE g12 (.cells #[I (0), I (0)] 27), blkE g1 (.cells #[vw, vt] 25), rdE vw (j.When : List LRow), rdE vt (j.To : List (List Int)), rdE vl (l : List LRow)] H) ?_ ?_
    · refine wpF_region ?_
      refine wpL_q (U := NoB) rfl (q_loadBlkA rfl a21_2 Try.isAgg25 Try.sizeOf25 rfl (hS21.blk 1 rfl) (fun h => h)) ?_
      refine wpL_q (U := NoB) rfl (q_move (v := I ((j.To.length : Int))) rfl a21_5) ?_
      refine wpL_o rfl ?_
      refine e_call rfl Try.call14 (arr2 (v0 := Value.agg #[vw, vt]) (v1 := I ((j.To.length : Int))) rfl rfl) (Jump_R vw vt j (j.To.length : Int) (hS21.rdN 2 rfl) (hS21.rdN 3 rfl)) ?_
      rintro _ H30 ⟨hxx, rfl⟩
      have hS31 : St H0 NoB NoB [blkE g12 (.cells #[I (0), I (0)] 27), blkE g1 (.cells #[vw, vt] 25), rdE vw (j.When : List LRow), rdE vt (j.To : List (List Int)), rdE vl (l : List LRow)] H30 := hS21.ext hxx
      refine wpL_q (U := NoB) rfl (q_neq rfl rfl rfl) ?_
      exact ⟨a21_1, a21_2, a21_5, a21_6, rfl, hS31⟩
    rintro f33 H33 ⟨a33_1, a33_2, a33_5, a33_6, a33_33, hS33⟩
    clear a21_1 a21_2 a21_28 a21_5 a21_6
    refine wpF_condP a33_33 (fun h2 => ?t59) (fun h2 => ?e59)
    case t59 =>
      refine wpF_cut (fun f H => f 1 = vl ∧ f 2 = PT g1 0 ∧ f 5 = I ((j.To.length : Int)) ∧ f 6 = PT g12 0 ∧ St H0 NoB NoB [blkE g12 (.cells #[I (jumpFault j (j.To.length : Int)), I (-1)] 27), blkE g1 (.cells #[vw, vt] 25), rdE vw (j.When : List LRow), rdE vt (j.To : List (List Int)), rdE vl (l : List LRow)] H) ?_ ?_
      · refine wpF_region ?_
        refine wpL_q (U := NoB) rfl (q_loadBlkA rfl a33_2 Try.isAgg25 Try.sizeOf25 rfl (hS33.blk 1 rfl) (fun h => h)) ?_
        refine wpL_q (U := NoB) rfl (q_move (v := I ((j.To.length : Int))) rfl a33_5) ?_
        refine wpL_o rfl ?_
        refine e_call rfl Try.call14 (arr2 (v0 := Value.agg #[vw, vt]) (v1 := I ((j.To.length : Int))) rfl rfl) (Jump_R vw vt j (j.To.length : Int) (hS33.rdN 2 rfl) (hS33.rdN 3 rfl)) ?_
        rintro _ H35 ⟨hxx, rfl⟩
        have hS36 : St H0 NoB NoB [blkE g12 (.cells #[I (0), I (0)] 27), blkE g1 (.cells #[vw, vt] 25), rdE vw (j.When : List LRow), rdE vt (j.To : List (List Int)), rdE vl (l : List LRow)] H35 := hS33.ext hxx
        refine wpL_o rfl ?_
        refine e_call rfl Try.call13 (arr2 (v0 := I (jumpFault j (j.To.length : Int))) (v1 := I (-1)) rfl rfl) (fault_L (jumpFault j (j.To.length : Int)) (-1)) ?_
        rintro _ H38 ⟨hxx, rfl⟩
        have hS39 : St H0 NoB NoB [blkE g12 (.cells #[I (0), I (0)] 27), blkE g1 (.cells #[vw, vt] 25), rdE vw (j.When : List LRow), rdE vt (j.To : List (List Int)), rdE vl (l : List LRow)] H38 := hS36.ext hxx
        refine wpL_o rfl ?_
        refine e_storeBlkA (cs' := #[I (jumpFault j (j.To.length : Int)), I (-1)]) rfl a33_6 rfl Try.sizeOf27 rfl rfl (List.forall_mem_cons.2 ⟨rfl, List.forall_mem_cons.2 ⟨rfl, List.forall_mem_nil _⟩⟩) hS39 (fun H41 hS42 hxx => ?_)
        replace hS42 : St H0 NoB NoB [blkE g12 (.cells #[I (jumpFault j (j.To.length : Int)), I (-1)] 27), blkE g1 (.cells #[vw, vt] 25), rdE vw (j.When : List LRow), rdE vt (j.To : List (List Int)), rdE vl (l : List LRow)] H41 := hS42
        exact ⟨a33_1, a33_2, a33_5, a33_6, hS42⟩
      rintro f43 H43 ⟨a43_1, a43_2, a43_5, a43_6, hS43⟩
      clear a33_1 a33_2 a33_33 a33_5 a33_6
      exact ⟨jumpFault j (j.To.length : Int), -1, (WantA.start (x := (jumpFault j j.To.length, -1)) (wantHead_j (by omega) h2) (fun h => absurd h h2)), a43_1, a43_2, a43_5, a43_6, hS43⟩
    refine wpF_seq ?_
    refine wpF_cut (fun f H => f 1 = vl ∧ f 2 = PT g1 0 ∧ f 5 = I ((j.To.length : Int)) ∧ f 6 = PT g12 0 ∧ f 41 = B (decide ((rowsFault l (j.To.length : Int)) ≠ 0)) ∧ St H0 NoB NoB [blkE g12 (.cells #[I (0), I (0)] 27), blkE g1 (.cells #[vw, vt] 25), rdE vw (j.When : List LRow), rdE vt (j.To : List (List Int)), rdE vl (l : List LRow)] H) ?_ ?_
    · refine wpF_region ?_
      refine wpL_q (U := NoB) rfl (q_move (v := vl) rfl a33_1) ?_
      refine wpL_q (U := NoB) rfl (q_move (v := I ((j.To.length : Int))) rfl a33_5) ?_
      refine wpL_o rfl ?_
      refine e_call rfl Try.call15 (arr2 (v0 := vl) (v1 := I ((j.To.length : Int))) rfl rfl) (Rows_R vl l (j.To.length : Int) (hS33.rdN 4 rfl)) ?_
      rintro _ H44 ⟨hxx, rfl⟩
      have hS45 : St H0 NoB NoB [blkE g12 (.cells #[I (0), I (0)] 27), blkE g1 (.cells #[vw, vt] 25), rdE vw (j.When : List LRow), rdE vt (j.To : List (List Int)), rdE vl (l : List LRow)] H44 := hS33.ext hxx
      refine wpL_q (U := NoB) rfl (q_neq rfl rfl rfl) ?_
      exact ⟨a33_1, a33_2, a33_5, a33_6, rfl, hS45⟩
    rintro f47 H47 ⟨a47_1, a47_2, a47_5, a47_6, a47_41, hS47⟩
    clear a33_1 a33_2 a33_33 a33_5 a33_6
    refine wpF_condP a47_41 (fun h3 => ?t58) (fun h3 => ?e58)
    case e58 =>
      refine wpF_skip ?_
      exact ⟨0, 0, (WantA.start (x := (0, 0)) (wantHead_no (by omega) h2 h3) (fun _ => rfl)), a47_1, a47_2, a47_5, a47_6, hS47⟩
    refine wpF_cut (fun f H => f 1 = vl ∧ f 2 = PT g1 0 ∧ f 5 = I ((j.To.length : Int)) ∧ f 6 = PT g12 0 ∧ St H0 NoB NoB [blkE g12 (.cells #[I (rowsFault l (j.To.length : Int)), I (-2)] 27), blkE g1 (.cells #[vw, vt] 25), rdE vw (j.When : List LRow), rdE vt (j.To : List (List Int)), rdE vl (l : List LRow)] H) ?_ ?_
    · refine wpF_region ?_
      refine wpL_q (U := NoB) rfl (q_move (v := vl) rfl a47_1) ?_
      refine wpL_q (U := NoB) rfl (q_move (v := I ((j.To.length : Int))) rfl a47_5) ?_
      refine wpL_o rfl ?_
      refine e_call rfl Try.call15 (arr2 (v0 := vl) (v1 := I ((j.To.length : Int))) rfl rfl) (Rows_R vl l (j.To.length : Int) (hS47.rdN 4 rfl)) ?_
      rintro _ H49 ⟨hxx, rfl⟩
      have hS50 : St H0 NoB NoB [blkE g12 (.cells #[I (0), I (0)] 27), blkE g1 (.cells #[vw, vt] 25), rdE vw (j.When : List LRow), rdE vt (j.To : List (List Int)), rdE vl (l : List LRow)] H49 := hS47.ext hxx
      refine wpL_o rfl ?_
      refine e_call rfl Try.call13 (arr2 (v0 := I (rowsFault l (j.To.length : Int))) (v1 := I (-2)) rfl rfl) (fault_L (rowsFault l (j.To.length : Int)) (-2)) ?_
      rintro _ H52 ⟨hxx, rfl⟩
      have hS53 : St H0 NoB NoB [blkE g12 (.cells #[I (0), I (0)] 27), blkE g1 (.cells #[vw, vt] 25), rdE vw (j.When : List LRow), rdE vt (j.To : List (List Int)), rdE vl (l : List LRow)] H52 := hS50.ext hxx
      refine wpL_o rfl ?_
      refine e_storeBlkA (cs' := #[I (rowsFault l (j.To.length : Int)), I (-2)]) rfl a47_6 rfl Try.sizeOf27 rfl rfl (List.forall_mem_cons.2 ⟨rfl, List.forall_mem_cons.2 ⟨rfl, List.forall_mem_nil _⟩⟩) hS53 (fun H55 hS56 hxx => ?_)
      replace hS56 : St H0 NoB NoB [blkE g12 (.cells #[I (rowsFault l (j.To.length : Int)), I (-2)] 27), blkE g1 (.cells #[vw, vt] 25), rdE vw (j.When : List LRow), rdE vt (j.To : List (List Int)), rdE vl (l : List LRow)] H55 := hS56
      exact ⟨a47_1, a47_2, a47_5, a47_6, hS56⟩
    rintro f57 H57 ⟨a57_1, a57_2, a57_5, a57_6, hS57⟩
    clear a47_1 a47_2 a47_41 a47_5 a47_6
    exact ⟨rowsFault l (j.To.length : Int), -2, (WantA.start (x := (rowsFault l j.To.length, -2)) (wantHead_r (by omega) h2 h3) (fun h => absurd h h3)), a57_1, a57_2, a57_5, a57_6, hS57⟩
  rintro f22 H22 ⟨c0, a0, hw0, a22_1, a22_2, a22_5, a22_6, hS22⟩
  clear a21_1 a21_2 a21_28 a21_5 a21_6
  refine wpF_seq ?_
  refine wpF_cut (fun f H => f 1 = vl ∧ f 2 = PT g1 0 ∧ f 5 = I ((j.To.length : Int)) ∧ f 6 = PT g12 0 ∧ f 7 = (Value.slice none 0 0) ∧ H22 = H) ?_ ?_
  · refine wpF_region ?_
    refine wpL_q (U := NoB) rfl (q_assign (v := (Value.slice none 0 0)) rfl rfl) ?_
    exact ⟨a22_1, a22_2, a22_5, a22_6, rfl, rfl⟩
  rintro f61 _ ⟨a61_1, a61_2, a61_5, a61_6, a61_7, rfl⟩
  clear a22_1 a22_2 a22_5 a22_6
  have hS62 : St H0 NoB NoB [rowE 34 (Value.slice none 0 0) ([] : List LRow), blkE g12 (.cells #[I (c0), I (a0)] 27), blkE g1 (.cells #[vw, vt] 25), rdE vw (j.When : List LRow), rdE vt (j.To : List (List Int)), rdE vl (l : List LRow)] H22 := hS22.row0 34
  refine wpF_seq ?_
  refine wpF_seq ?_
  refine wpF_cut (fun f H => f 1 = vl ∧ f 2 = PT g1 0 ∧ f 5 = I ((j.To.length : Int)) ∧ f 6 = PT g12 0 ∧ f 7 = (Value.slice none 0 0) ∧ f 8 = I (0) ∧ H22 = H) ?_ ?_
  · refine wpF_region ?_
    refine wpL_q (U := NoB) rfl (q_assign (v := I (0)) rfl rfl) ?_
    exact ⟨a61_1, a61_2, a61_5, a61_6, a61_7, rfl, rfl⟩
  rintro f63 _ ⟨a63_1, a63_2, a63_5, a63_6, a63_7, a63_8, rfl⟩
  clear a61_1 a61_2 a61_5 a61_6 a61_7
  refine wpF_block ?_
  refine wpF_loop (fun mz f H => ∃ (k : Nat), ∃ (c1 : Int), ∃ (a1 : Int), ∃ (vo : Value), mz = l.length - k ∧ (k ≤ l.length) ∧ (WantA j l k c1 a1) ∧ f 1 = vl ∧ f 2 = PT g1 0 ∧ f 5 = I ((j.To.length : Int)) ∧ f 6 = PT g12 0 ∧ f 7 = vo ∧ f 8 = I ((k : Int)) ∧ St H0 NoB NoB [rowE 34 vo ((l.take k).map (wantRow j) : List LRow), blkE g12 (.cells #[I (c1), I (a1)] 27), blkE g1 (.cells #[vw, vt] 25), rdE vw (j.When : List LRow), rdE vt (j.To : List (List Int)), rdE vl (l : List LRow)] H) (l.length - 0) ?_ ?_
  · exact ⟨0, c0, a0, (Value.slice none 0 0), rfl, Nat.zero_le _, hw0, a63_1, a63_2, a63_5, a63_6, a63_7, (Eq.trans a63_8 (congrArg I (by omega))), (show St H0 NoB NoB [rowE 34 (Value.slice none 0 0) ((l.take 0).map (wantRow j) : List LRow), blkE g12 (.cells #[I (c0), I (a0)] 27), blkE g1 (.cells #[vw, vt] 25), rdE vw (j.When : List LRow), rdE vt (j.To : List (List Int)), rdE vl (l : List LRow)] H22 from hS62)⟩
  intro m64 f64 H64 hI64
  obtain ⟨k, c1, a1, vo, hm64, hk, hw, a64_1, a64_2, a64_5, a64_6, a64_7, a64_8, hS64⟩ := hI64
  clear a63_1 a63_2 a63_5 a63_6 a63_7 a63_8
  refine wpF_seq ?_
  refine wpF_seq ?_
  refine wpF_cut (fun f H => f 1 = vl ∧ f 2 = PT g1 0 ∧ f 5 = I ((j.To.length : Int)) ∧ f 6 = PT g12 0 ∧ f 7 = vo ∧ f 8 = I ((k : Int)) ∧ f 54 = B (decide (((k : Int) < (l.length : Int)) ∧ (c1 = 0))) ∧ H64 = H) ?_ ?_
  · refine wpF_region ?_
    refine wpL_q (U := NoB) rfl (q_move (v := I ((k : Int))) rfl a64_8) ?_
    refine wpL_q (U := NoB) rfl (q_move (v := vl) rfl a64_1) ?_
    refine wpL_q (U := NoB) rfl (q_lenRd rfl Try.underlying22 rfl (hS64.rdl 5 rfl)) ?_
    refine wpL_q (U := NoB) rfl (q_lss rfl rfl rfl) ?_
    refine wpL_q (U := NoB) rfl (q_move (v := B (decide ((k : Int) < (l.length : Int)))) rfl rfl) ?_
    by_cases hg65 : (k : Int) < (l.length : Int)
    · have hb66 := Eq.trans rfl (congrArg B (decide_eq_true hg65))
      refine wpL_gq (U := NoB) rfl rfl rfl hb66 (q_fieldAddr rfl Try.underlying27 rfl Try.sizeOf3 a64_6) ?_
      refine wpL_gq (U := NoB) rfl rfl rfl hb66 (q_loadBlk rfl rfl Try.isAgg3 (hS64.blk 1 rfl) rfl (fun h => h)) ?_
      refine wpL_gq (U := NoB) rfl rfl rfl hb66 (q_eql rfl rfl rfl) ?_
      refine wpL_q (U := NoB) rfl (q_pickT (v := B (decide (c1 = 0))) rfl hb66 rfl) ?_
      exact ⟨a64_1, a64_2, a64_5, a64_6, a64_7, a64_8, (Eq.trans rfl (congrArg B (decide_congr_of ((Iff.rfl).trans (((and_iff_right hg65).trans Iff.rfl)).symm)))), rfl⟩
    · have hb67 := Eq.trans rfl (congrArg B (decide_eq_false hg65))
      refine wpL_gs rfl rfl rfl hb67 rfl ?_
      refine wpL_gs rfl rfl rfl hb67 rfl ?_
      refine wpL_gs rfl rfl rfl hb67 rfl ?_
      refine wpL_q (U := NoB) rfl (q_pickF (v := B (false)) rfl hb67 rfl) ?_
      exact ⟨a64_1, a64_2, a64_5, a64_6, a64_7, a64_8, (Eq.trans rfl (congrArg B ((decide_eq_false (fun h => hg65 h.1)).symm))), rfl⟩
  rintro f68 _ ⟨a68_1, a68_2, a68_5, a68_6, a68_7, a68_8, a68_54, rfl⟩
  clear a64_1 a64_2 a64_5 a64_6 a64_7 a64_8
  refine wpF_condP a68_54 (fun hlt => ?t135) (fun hlt => ?e135)
  case t135 =>
    have hc0 := hlt.2
    obtain ⟨ha0, hhd, hpv⟩ := hw.ok hc0
    obtain ⟨hn1, hj0, hr0⟩ := wantHead_zero (j := j) (l := l) (by rw [hhd])
    have hj := JW.of hj0
    have hN8 : (j.To.length : Int) ≤ 8 := by omega
    have hr := (rowsFault_zero hr0).2 k (by omega)
    have h6k : In64 (wantRow j (nth l k)).Kind := by have := (rowFault_zero hr).1; constructor <;> (show _ ≤ _; simp only [wantRow]; omega)
    refine wpF_skip ?_
    refine wpF_seq ?_
    refine wpF_block ?_
    refine wpF_seq ?_
    refine wpF_cut (fun f H => ∃ (r70o5 : Value), ∃ (g70o6 : Nat), (In64 (nth l k).Kind) ∧ (In64 (nth l k).To) ∧ (In64 (wantRow j (nth l k)).To) ∧ f 1 = vl ∧ f 2 = PT g1 0 ∧ f 5 = I ((j.To.length : Int)) ∧ f 6 = PT g12 0 ∧ f 7 = vo ∧ f 8 = I ((k : Int)) ∧ f 9 = PT g70o6 0 ∧ St H0 NoB NoB [blkE g70o6 (.cells #[r70o5, I ((wantRow j (nth l k)).Kind), I ((wantRow j (nth l k)).To)] 34), rdE r70o5 ((wantRow j (nth l k)).Of : List Int), rowE 34 vo ((l.take k).map (wantRow j) : List LRow), blkE g12 (.cells #[I (c1), I (a1)] 27), blkE g1 (.cells #[vw, vt] 25), rdE vw (j.When : List LRow), rdE vt (j.To : List (List Int)), rdE vl (l : List LRow)] H) ?_ ?_
    · refine wpF_drawn [none, none, none, none, none, none, none, some 0] [[], [], [], [], [], [], [], []] (fun l b => match l with | 0 => True | _ => False) (by kernel_rfl) (by kernel_rfl) ?_
      refine wpR_q 0 (by kernel_rfl) rfl (quietAt rfl rfl (q_loadBlkA rfl a68_2 Try.isAgg25 Try.sizeOf25 rfl (hS64.blk 2 rfl) (labU_not [] rfl (List.forall_mem_nil _)))) ?_
      refine wpR_q 1 (by kernel_rfl) rfl (quietAt rfl rfl (q_move (v := vl) rfl a68_1)) ?_
      refine wpR_q 2 (by kernel_rfl) rfl (quietAt rfl rfl (q_move (v := I ((k : Int))) rfl a68_8)) ?_
      refine wpR_q 3 (by kernel_rfl) rfl (quietAt rfl rfl (q_indexRd (k := k) rfl Try.underlying22 el_LRow_34 rfl rfl (hS64.rdl 5 rfl) (by omega) (by omega))) ?_
      obtain ⟨u70o4, huu70o4, hlu70o4⟩ := (Rd.list.1 (hS64.rdS 5 rfl)).elem k (by omega)
      obtain ⟨u70o4n0, rfl, hu70o40, hu70o41, hu70o42⟩ := Rd.lRow.1 huu70o4
      have hS70o4 : St H0 NoB NoB [rdE u70o4n0 ((nth l k).Of : List Int), rowE 34 vo ((l.take k).map (wantRow j) : List LRow), blkE g12 (.cells #[I (c1), I (a1)] 27), blkE g1 (.cells #[vw, vt] 25), rdE vw (j.When : List LRow), rdE vt (j.To : List (List Int)), rdE vl (l : List LRow)] H64 := hS64.rd hu70o40
      refine wpR_q 4 (by kernel_rfl) rfl (quietAt rfl rfl (q_loadE rfl rfl (hlu70o4 Try.prog 34 _ el_LRow_34 (labU_sub [] rfl (List.forall_mem_nil _))))) ?_
      refine wpR_n [5, 6] (by kernel_rfl) ?_
      refine List.forall_mem_cons.2 ⟨?_, List.forall_mem_cons.2 ⟨?_, List.forall_mem_nil _⟩⟩
      · refine exE rfl rfl ?_
        refine e_call rfl Try.call16 (arr2 (v0 := Value.agg #[vw, vt]) (v1 := Value.agg #[u70o4n0, I ((nth l k).Kind), I ((nth l k).To)]) rfl rfl) (Want_R vw vt u70o4n0 j (nth l k) (hS70o4.rdS 4 rfl) (hS70o4.rdS 5 rfl) (hS70o4.rdS 0 rfl) (by first | assumption | (constructor <;> omega)) (by first | assumption | (constructor <;> omega)) hj hr hN8) ?_
        rintro _ H70o5 ⟨hxx, r70o5, rfl, hrr70o5, h6r70o5⟩
        have hS70o5 : St H0 NoB NoB [rdE r70o5 ((wantRow j (nth l k)).Of : List Int), rdE u70o4n0 ((nth l k).Of : List Int), rowE 34 vo ((l.take k).map (wantRow j) : List LRow), blkE g12 (.cells #[I (c1), I (a1)] 27), blkE g1 (.cells #[vw, vt] 25), rdE vw (j.When : List LRow), rdE vt (j.To : List (List Int)), rdE vl (l : List LRow)] H70o5 := (hS70o4.res hxx hrr70o5)
        refine ⟨Ext.mono hxx (fun _ h => h.elim), ?_⟩
        refine wpR_n [6] (by kernel_rfl) ?_
        refine List.forall_mem_cons.2 ⟨?_, List.forall_mem_nil _⟩
        refine exE rfl rfl ?_
        refine e_alloc rfl Try.zeroValue34 hS70o5 (fun g70o6 H70o6 hS70o6 hxx => ?_)
        replace hS70o6 : St H0 NoB NoB [blkE g70o6 (.cells #[(Value.slice none 0 0), I (0), I (0)] 34), rdE r70o5 ((wantRow j (nth l k)).Of : List Int), rdE u70o4n0 ((nth l k).Of : List Int), rowE 34 vo ((l.take k).map (wantRow j) : List LRow), blkE g12 (.cells #[I (c1), I (a1)] 27), blkE g1 (.cells #[vw, vt] 25), rdE vw (j.When : List LRow), rdE vt (j.To : List (List Int)), rdE vl (l : List LRow)] H70o6 := hS70o6
        refine ⟨Ext.mono hxx (fun _ h => h.elim), ?_⟩
        refine wpR_n [7] (by kernel_rfl) ?_
        refine List.forall_mem_cons.2 ⟨?_, List.forall_mem_nil _⟩
        refine exE rfl rfl ?_
        refine e_storeBlkA (cs' := #[r70o5, I ((wantRow j (nth l k)).Kind), I ((wantRow j (nth l k)).To)]) rfl rfl rfl Try.sizeOf34 rfl rfl (List.forall_mem_cons.2 ⟨(oneCell_rdL (hS70o6.rdl 1 rfl)), List.forall_mem_cons.2 ⟨rfl, List.forall_mem_cons.2 ⟨rfl, List.forall_mem_nil _⟩⟩⟩) hS70o6 (fun H70o7 hS70o7 hxx => ?_)
        replace hS70o7 : St H0 NoB NoB [blkE g70o6 (.cells #[r70o5, I ((wantRow j (nth l k)).Kind), I ((wantRow j (nth l k)).To)] 34), rdE r70o5 ((wantRow j (nth l k)).Of : List Int), rdE u70o4n0 ((nth l k).Of : List Int), rowE 34 vo ((l.take k).map (wantRow j) : List LRow), blkE g12 (.cells #[I (c1), I (a1)] 27), blkE g1 (.cells #[vw, vt] 25), rdE vw (j.When : List LRow), rdE vt (j.To : List (List Int)), rdE vl (l : List LRow)] H70o7 := hS70o7
        refine ⟨Ext.mono hxx (labS_of 0 rfl (fun _ _ => trivial)), ?_⟩
        refine wpR_end (by kernel_rfl) ?_
        exact ⟨r70o5, g70o6, hu70o41, hu70o42, h6r70o5, a68_1, a68_2, a68_5, a68_6, a68_7, a68_8, rfl, (hS70o7.drop (List.Sublist.cons_cons _ (List.Sublist.cons_cons _ (List.Sublist.cons _ (List.Sublist.cons_cons _ (List.Sublist.cons_cons _ (List.Sublist.cons_cons _ (List.Sublist.cons_cons _ (List.Sublist.cons_cons _ (List.Sublist.cons_cons _ (List.Sublist.slnil)))))))))))⟩
      · refine exE rfl rfl ?_
        refine e_alloc rfl Try.zeroValue34 hS70o4 (fun g70o6 H70o6 hS70o6 hxx => ?_)
        replace hS70o6 : St H0 NoB NoB [blkE g70o6 (.cells #[(Value.slice none 0 0), I (0), I (0)] 34), rdE u70o4n0 ((nth l k).Of : List Int), rowE 34 vo ((l.take k).map (wantRow j) : List LRow), blkE g12 (.cells #[I (c1), I (a1)] 27), blkE g1 (.cells #[vw, vt] 25), rdE vw (j.When : List LRow), rdE vt (j.To : List (List Int)), rdE vl (l : List LRow)] H70o6 := hS70o6
        refine ⟨Ext.mono hxx (fun _ h => h.elim), ?_⟩
        refine wpR_n [5] (by kernel_rfl) ?_
        refine List.forall_mem_cons.2 ⟨?_, List.forall_mem_nil _⟩
        refine exE rfl rfl ?_
        refine e_call rfl Try.call16 (arr2 (v0 := Value.agg #[vw, vt]) (v1 := Value.agg #[u70o4n0, I ((nth l k).Kind), I ((nth l k).To)]) rfl rfl) (Want_R vw vt u70o4n0 j (nth l k) (hS70o6.rdS 5 rfl) (hS70o6.rdS 6 rfl) (hS70o6.rdS 1 rfl) (by first | assumption | (constructor <;> omega)) (by first | assumption | (constructor <;> omega)) hj hr hN8) ?_
        rintro _ H70o5 ⟨hxx, r70o5, rfl, hrr70o5, h6r70o5⟩
        have hS70o5 : St H0 NoB NoB [rdE r70o5 ((wantRow j (nth l k)).Of : List Int), blkE g70o6 (.cells #[(Value.slice none 0 0), I (0), I (0)] 34), rdE u70o4n0 ((nth l k).Of : List Int), rowE 34 vo ((l.take k).map (wantRow j) : List LRow), blkE g12 (.cells #[I (c1), I (a1)] 27), blkE g1 (.cells #[vw, vt] 25), rdE vw (j.When : List LRow), rdE vt (j.To : List (List Int)), rdE vl (l : List LRow)] H70o5 := (hS70o6.res hxx hrr70o5)
        refine ⟨Ext.mono hxx (fun _ h => h.elim), ?_⟩
        refine wpR_n [7] (by kernel_rfl) ?_
        refine List.forall_mem_cons.2 ⟨?_, List.forall_mem_nil _⟩
        refine exE rfl rfl ?_
        refine e_storeBlkA (cs' := #[r70o5, I ((wantRow j (nth l k)).Kind), I ((wantRow j (nth l k)).To)]) rfl rfl rfl Try.sizeOf34 rfl rfl (List.forall_mem_cons.2 ⟨(oneCell_rdL (hS70o5.rdl 0 rfl)), List.forall_mem_cons.2 ⟨rfl, List.forall_mem_cons.2 ⟨rfl, List.forall_mem_nil _⟩⟩⟩) (hS70o5.front 1 rfl) (fun H70o7 hS70o7 hxx => ?_)
        replace hS70o7 : St H0 NoB NoB [blkE g70o6 (.cells #[r70o5, I ((wantRow j (nth l k)).Kind), I ((wantRow j (nth l k)).To)] 34), rdE r70o5 ((wantRow j (nth l k)).Of : List Int), rdE u70o4n0 ((nth l k).Of : List Int), rowE 34 vo ((l.take k).map (wantRow j) : List LRow), blkE g12 (.cells #[I (c1), I (a1)] 27), blkE g1 (.cells #[vw, vt] 25), rdE vw (j.When : List LRow), rdE vt (j.To : List (List Int)), rdE vl (l : List LRow)] H70o7 := hS70o7
        refine ⟨Ext.mono hxx (labS_of 0 rfl (fun _ _ => trivial)), ?_⟩
        refine wpR_end (by kernel_rfl) ?_
        exact ⟨r70o5, g70o6, hu70o41, hu70o42, h6r70o5, a68_1, a68_2, a68_5, a68_6, a68_7, a68_8, rfl, (hS70o7.drop (List.Sublist.cons_cons _ (List.Sublist.cons_cons _ (List.Sublist.cons _ (List.Sublist.cons_cons _ (List.Sublist.cons_cons _ (List.Sublist.cons_cons _ (List.Sublist.cons_cons _ (List.Sublist.cons_cons _ (List.Sublist.cons_cons _ (List.Sublist.slnil)))))))))))⟩
    rintro f71 H71 ⟨r70o5, g70o6, hu70o41, hu70o42, h6r70o5, a71_1, a71_2, a71_5, a71_6, a71_7, a71_8, a71_9, hS71⟩
    clear a68_1 a68_2 a68_5 a68_54 a68_6 a68_7 a68_8
    refine wpF_seq ?_
    refine wpF_seq ?_
    refine wpF_cut (fun f H => f 1 = vl ∧ f 2 = PT g1 0 ∧ f 5 = I ((j.To.length : Int)) ∧ f 6 = PT g12 0 ∧ f 7 = vo ∧ f 8 = I ((k : Int)) ∧ f 9 = PT g70o6 0 ∧ f 67 = B (decide ((rowsFault ([(wantRow j (nth l k))]) (j.To.length : Int)) ≠ 0)) ∧ St H0 NoB NoB [blkE g70o6 (.cells #[r70o5, I ((wantRow j (nth l k)).Kind), I ((wantRow j (nth l k)).To)] 34), rdE r70o5 ((wantRow j (nth l k)).Of : List Int), rowE 34 vo ((l.take k).map (wantRow j) : List LRow), blkE g12 (.cells #[I (c1), I (a1)] 27), blkE g1 (.cells #[vw, vt] 25), rdE vw (j.When : List LRow), rdE vt (j.To : List (List Int)), rdE vl (l : List LRow)] H) ?_ ?_
    · refine wpF_region ?_
      refine wpL_q (U := NoB) rfl (q_loadBlkA rfl a71_9 Try.isAgg34 Try.sizeOf34 rfl (hS71.blk 0 rfl) (fun h => h)) ?_
      refine wpL_o rfl ?_
      refine e_buildSlice (vs := [Value.agg #[r70o5, I ((wantRow j (nth l k)).Kind), I ((wantRow j (nth l k)).To)]]) (xs := ([(wantRow j (nth l k))] : List LRow)) rfl Try.underlying22 Try.zeroValue34 rfl Try.sizeOf34 (par1 (v0 := Value.agg #[r70o5, I ((wantRow j (nth l k)).Kind), I ((wantRow j (nth l k)).To)]) rfl) rfl hS71 (RdVs.cons (Rd.lRow.2 ⟨_, rfl, (hS71.rdS 1 rfl), (by first | assumption | (constructor <;> (dsimp only; omega)) | (constructor <;> omega)), (by first | assumption | (constructor <;> (dsimp only; omega)) | (constructor <;> omega))⟩) (RdVs.nil)) (by decide) (by decide) (fun v72 H73 hS74 hxx hvv72 => ?_)
      replace hS74 : St H0 NoB NoB [rowE 34 v72 ([(wantRow j (nth l k))] : List LRow), blkE g70o6 (.cells #[r70o5, I ((wantRow j (nth l k)).Kind), I ((wantRow j (nth l k)).To)] 34), rdE r70o5 ((wantRow j (nth l k)).Of : List Int), rowE 34 vo ((l.take k).map (wantRow j) : List LRow), blkE g12 (.cells #[I (c1), I (a1)] 27), blkE g1 (.cells #[vw, vt] 25), rdE vw (j.When : List LRow), rdE vt (j.To : List (List Int)), rdE vl (l : List LRow)] H73 := hS74
      refine wpL_q (U := NoB) rfl (q_move (v := I ((j.To.length : Int))) rfl a71_5) ?_
      have hS75 : St H0 NoB NoB [rdE v72 ([(wantRow j (nth l k))] : List LRow), blkE g70o6 (.cells #[r70o5, I ((wantRow j (nth l k)).Kind), I ((wantRow j (nth l k)).To)] 34), rdE r70o5 ((wantRow j (nth l k)).Of : List Int), rowE 34 vo ((l.take k).map (wantRow j) : List LRow), blkE g12 (.cells #[I (c1), I (a1)] 27), blkE g1 (.cells #[vw, vt] 25), rdE vw (j.When : List LRow), rdE vt (j.To : List (List Int)), rdE vl (l : List LRow)] H73 := St.fin hS74
      refine wpL_o rfl ?_
      refine e_call rfl Try.call15 (arr2 (v0 := v72) (v1 := I ((j.To.length : Int))) rfl rfl) (Rows_R v72 ([(wantRow j (nth l k))]) (j.To.length : Int) (hS75.rdN 0 rfl)) ?_
      rintro _ H76 ⟨hxx, rfl⟩
      have hS77 : St H0 NoB NoB [rdE v72 ([(wantRow j (nth l k))] : List LRow), blkE g70o6 (.cells #[r70o5, I ((wantRow j (nth l k)).Kind), I ((wantRow j (nth l k)).To)] 34), rdE r70o5 ((wantRow j (nth l k)).Of : List Int), rowE 34 vo ((l.take k).map (wantRow j) : List LRow), blkE g12 (.cells #[I (c1), I (a1)] 27), blkE g1 (.cells #[vw, vt] 25), rdE vw (j.When : List LRow), rdE vt (j.To : List (List Int)), rdE vl (l : List LRow)] H76 := hS75.ext hxx
      refine wpL_q (U := NoB) rfl (q_neq rfl rfl rfl) ?_
      exact ⟨a71_1, a71_2, a71_5, a71_6, a71_7, a71_8, a71_9, rfl, (hS77.drop (List.Sublist.cons _ (List.Sublist.cons_cons _ (List.Sublist.cons_cons _ (List.Sublist.cons_cons _ (List.Sublist.cons_cons _ (List.Sublist.cons_cons _ (List.Sublist.cons_cons _ (List.Sublist.cons_cons _ (List.Sublist.cons_cons _ (List.Sublist.slnil)))))))))))⟩
    rintro f79 H79 ⟨a79_1, a79_2, a79_5, a79_6, a79_7, a79_8, a79_9, a79_67, hS79⟩
    clear a71_1 a71_2 a71_5 a71_6 a71_7 a71_8 a71_9
    refine wpF_cut (fun f H => ∃ (c3 : Int), ∃ (a3 : Int), (WantA j l (k + 1) c3 a3) ∧ f 1 = vl ∧ f 2 = PT g1 0 ∧ f 5 = I ((j.To.length : Int)) ∧ f 6 = PT g12 0 ∧ f 7 = vo ∧ f 8 = I ((k : Int)) ∧ f 9 = PT g70o6 0 ∧ St H0 NoB NoB [blkE g70o6 (.cells #[r70o5, I ((wantRow j (nth l k)).Kind), I ((wantRow j (nth l k)).To)] 34), rdE r70o5 ((wantRow j (nth l k)).Of : List Int), rowE 34 vo ((l.take k).map (wantRow j) : List LRow), blkE g12 (.cells #[I (c3), I (a3)] 27), blkE g1 (.cells #[vw, vt] 25), rdE vw (j.When : List LRow), rdE vt (j.To : List (List Int)), rdE vl (l : List LRow)] H) ?_ ?_
    · refine wpF_condP a79_67 (fun h4 => ?t88) (fun h4 => ?e88)
      case e88 =>
        refine wpF_skip ?_
        exact ⟨c1, a1, (hw.good hc0 (fun hb => h4 (by rw [rowsFault_one]; exact (wantRow_fault hhd (by omega)).2 hb))), a79_1, a79_2, a79_5, a79_6, a79_7, a79_8, a79_9, hS79⟩
      refine wpF_cut (fun f H => f 1 = vl ∧ f 2 = PT g1 0 ∧ f 5 = I ((j.To.length : Int)) ∧ f 6 = PT g12 0 ∧ f 7 = vo ∧ f 8 = I ((k : Int)) ∧ f 9 = PT g70o6 0 ∧ St H0 NoB NoB [blkE g12 (.cells #[I (10), I ((k : Int))] 27), blkE g70o6 (.cells #[r70o5, I ((wantRow j (nth l k)).Kind), I ((wantRow j (nth l k)).To)] 34), rdE r70o5 ((wantRow j (nth l k)).Of : List Int), rowE 34 vo ((l.take k).map (wantRow j) : List LRow), blkE g1 (.cells #[vw, vt] 25), rdE vw (j.When : List LRow), rdE vt (j.To : List (List Int)), rdE vl (l : List LRow)] H) ?_ ?_
      · refine wpF_region ?_
        refine wpL_q (U := NoB) rfl (q_move (v := I ((k : Int))) rfl a79_8) ?_
        refine wpL_o rfl ?_
        refine e_call rfl Try.call13 (arr2 (v0 := I (10)) (v1 := I ((k : Int))) rfl rfl) (fault_L 10 (k : Int)) ?_
        rintro _ H82 ⟨hxx, rfl⟩
        have hS83 : St H0 NoB NoB [blkE g70o6 (.cells #[r70o5, I ((wantRow j (nth l k)).Kind), I ((wantRow j (nth l k)).To)] 34), rdE r70o5 ((wantRow j (nth l k)).Of : List Int), rowE 34 vo ((l.take k).map (wantRow j) : List LRow), blkE g12 (.cells #[I (c1), I (a1)] 27), blkE g1 (.cells #[vw, vt] 25), rdE vw (j.When : List LRow), rdE vt (j.To : List (List Int)), rdE vl (l : List LRow)] H82 := hS79.ext hxx
        refine wpL_o rfl ?_
        refine e_storeBlkA (cs' := #[I (10), I ((k : Int))]) rfl a79_6 rfl Try.sizeOf27 rfl rfl (List.forall_mem_cons.2 ⟨rfl, List.forall_mem_cons.2 ⟨rfl, List.forall_mem_nil _⟩⟩) (hS83.front 3 rfl) (fun H85 hS86 hxx => ?_)
        replace hS86 : St H0 NoB NoB [blkE g12 (.cells #[I (10), I ((k : Int))] 27), blkE g70o6 (.cells #[r70o5, I ((wantRow j (nth l k)).Kind), I ((wantRow j (nth l k)).To)] 34), rdE r70o5 ((wantRow j (nth l k)).Of : List Int), rowE 34 vo ((l.take k).map (wantRow j) : List LRow), blkE g1 (.cells #[vw, vt] 25), rdE vw (j.When : List LRow), rdE vt (j.To : List (List Int)), rdE vl (l : List LRow)] H85 := hS86
        exact ⟨a79_1, a79_2, a79_5, a79_6, a79_7, a79_8, a79_9, hS86⟩
      rintro f87 H87 ⟨a87_1, a87_2, a87_5, a87_6, a87_7, a87_8, a87_9, hS87⟩
      clear a79_1 a79_2 a79_5 a79_6 a79_67 a79_7 a79_8 a79_9
      exact ⟨10, (k : Int), (hw.bad hc0 (by omega) ((wantRow_fault hhd (by omega)).1 (by rw [← rowsFault_one]; exact h4))), a87_1, a87_2, a87_5, a87_6, a87_7, a87_8, a87_9, (St.drop (show St H0 NoB NoB [blkE g70o6 (.cells #[r70o5, I ((wantRow j (nth l k)).Kind), I ((wantRow j (nth l k)).To)] 34), rdE r70o5 ((wantRow j (nth l k)).Of : List Int), rowE 34 vo ((l.take k).map (wantRow j) : List LRow), blkE g12 (.cells #[I (10), I ((k : Int))] 27), blkE g1 (.cells #[vw, vt] 25), rdE vw (j.When : List LRow), rdE vt (j.To : List (List Int)), rdE vl (l : List LRow)] H87 from ((((((((hS87.front 7 rfl).front 7 rfl).front 7 rfl).front 7 rfl).front 4 rfl).front 7 rfl).front 7 rfl).front 7 rfl)) (List.Sublist.cons_cons _ (List.Sublist.cons_cons _ (List.Sublist.cons_cons _ (List.Sublist.cons_cons _ (List.Sublist.cons_cons _ (List.Sublist.cons_cons _ (List.Sublist.cons_cons _ (List.Sublist.cons_cons _ (List.Sublist.slnil))))))))))⟩
    rintro f80 H80 ⟨c3, a3, hw3, a80_1, a80_2, a80_5, a80_6, a80_7, a80_8, a80_9, hS80⟩
    clear a79_1 a79_2 a79_5 a79_6 a79_67 a79_7 a79_8 a79_9
    refine wpF_cut (fun f H => ∃ (v94 : Value), f 1 = vl ∧ f 2 = PT g1 0 ∧ f 5 = I ((j.To.length : Int)) ∧ f 6 = PT g12 0 ∧ f 7 = v94 ∧ f 8 = I ((k : Int)) ∧ St H0 NoB NoB [rowE 34 v94 ((l.take (k + 1)).map (wantRow j) : List LRow), blkE g70o6 (.cells #[r70o5, I ((wantRow j (nth l k)).Kind), I ((wantRow j (nth l k)).To)] 34), rdE r70o5 ((wantRow j (nth l k)).Of : List Int), blkE g12 (.cells #[I (c3), I (a3)] 27), blkE g1 (.cells #[vw, vt] 25), rdE vw (j.When : List LRow), rdE vt (j.To : List (List Int)), rdE vl (l : List LRow)] H) ?_ ?_
    · refine wpF_region ?_
      refine wpL_q (U := NoB) rfl (q_move (v := vo) rfl a80_7) ?_
      refine wpL_q (U := NoB) rfl (q_loadBlkA rfl a80_9 Try.isAgg34 Try.sizeOf34 rfl (hS80.blk 0 rfl) (fun h => h)) ?_
      refine wpL_o rfl ?_
      refine e_buildSlice (vs := [Value.agg #[r70o5, I ((wantRow j (nth l k)).Kind), I ((wantRow j (nth l k)).To)]]) (xs := ([(wantRow j (nth l k))] : List LRow)) rfl Try.underlying22 Try.zeroValue34 rfl Try.sizeOf34 (par1 (v0 := Value.agg #[r70o5, I ((wantRow j (nth l k)).Kind), I ((wantRow j (nth l k)).To)]) rfl) rfl hS80 (RdVs.cons (Rd.lRow.2 ⟨_, rfl, (hS80.rdS 1 rfl), (by first | assumption | (constructor <;> (dsimp only; omega)) | (constructor <;> omega)), (by first | assumption | (constructor <;> (dsimp only; omega)) | (constructor <;> omega))⟩) (RdVs.nil)) (by decide) (by decide) (fun v89 H90 hS91 hxx hvv89 => ?_)
      replace hS91 : St H0 NoB NoB [rowE 34 v89 ([(wantRow j (nth l k))] : List LRow), blkE g70o6 (.cells #[r70o5, I ((wantRow j (nth l k)).Kind), I ((wantRow j (nth l k)).To)] 34), rdE r70o5 ((wantRow j (nth l k)).Of : List Int), rowE 34 vo ((l.take k).map (wantRow j) : List LRow), blkE g12 (.cells #[I (c3), I (a3)] 27), blkE g1 (.cells #[vw, vt] 25), rdE vw (j.When : List LRow), rdE vt (j.To : List (List Int)), rdE vl (l : List LRow)] H90 := hS91
      have hS92 : St H0 NoB NoB [rdE v89 ([(wantRow j (nth l k))] : List LRow), blkE g70o6 (.cells #[r70o5, I ((wantRow j (nth l k)).Kind), I ((wantRow j (nth l k)).To)] 34), rdE r70o5 ((wantRow j (nth l k)).Of : List Int), rowE 34 vo ((l.take k).map (wantRow j) : List LRow), blkE g12 (.cells #[I (c3), I (a3)] 27), blkE g1 (.cells #[vw, vt] 25), rdE vw (j.When : List LRow), rdE vt (j.To : List (List Int)), rdE vl (l : List LRow)] H90 := St.fin hS91
      have hS93 : St H0 NoB NoB [rowE 34 vo ((l.take k).map (wantRow j) : List LRow), rdE v89 ([(wantRow j (nth l k))] : List LRow), blkE g70o6 (.cells #[r70o5, I ((wantRow j (nth l k)).Kind), I ((wantRow j (nth l k)).To)] 34), rdE r70o5 ((wantRow j (nth l k)).Of : List Int), blkE g12 (.cells #[I (c3), I (a3)] 27), blkE g1 (.cells #[vw, vt] 25), rdE vw (j.When : List LRow), rdE vt (j.To : List (List Int)), rdE vl (l : List LRow)] H90 := (hS92.front 3 rfl)
      refine wpL_o rfl ?_
      refine e_append rfl Try.underlying22 em_LRow_34 rfl rfl hS93 (hS93.rdS 1 rfl) (fun _ h => h) (by have hb : GoT.bytes LRow = 40 := rfl; simp [hb]; omega) (by decide) (fun v94 H95 hS96 hxx => ?_)
      replace hS96 : St H0 NoB NoB [rowE 34 v94 (((l.take k).map (wantRow j)) ++ ([(wantRow j (nth l k))]) : List LRow), rdE v89 ([(wantRow j (nth l k))] : List LRow), blkE g70o6 (.cells #[r70o5, I ((wantRow j (nth l k)).Kind), I ((wantRow j (nth l k)).To)] 34), rdE r70o5 ((wantRow j (nth l k)).Of : List Int), blkE g12 (.cells #[I (c3), I (a3)] 27), blkE g1 (.cells #[vw, vt] 25), rdE vw (j.When : List LRow), rdE vt (j.To : List (List Int)), rdE vl (l : List LRow)] H95 := hS96
      have hS97 : St H0 NoB NoB [rowE 34 v94 ((l.take (k + 1)).map (wantRow j) : List LRow), rdE v89 ([(wantRow j (nth l k))] : List LRow), blkE g70o6 (.cells #[r70o5, I ((wantRow j (nth l k)).Kind), I ((wantRow j (nth l k)).To)] 34), rdE r70o5 ((wantRow j (nth l k)).Of : List Int), blkE g12 (.cells #[I (c3), I (a3)] 27), blkE g1 (.cells #[vw, vt] 25), rdE vw (j.When : List LRow), rdE vt (j.To : List (List Int)), rdE vl (l : List LRow)] H95 := by rw [show ((l.take (k + 1)).map (wantRow j)) = (((l.take k).map (wantRow j)) ++ ([(wantRow j (nth l k))])) from (by rw [take_succ_nth (by omega), List.map_append]; rfl)]; exact hS96
      refine wpL_q (U := NoB) rfl (q_assign (v := v94) rfl rfl) ?_
      exact ⟨v94, a80_1, a80_2, a80_5, a80_6, rfl, a80_8, (hS97.drop (List.Sublist.cons_cons _ (List.Sublist.cons _ (List.Sublist.cons_cons _ (List.Sublist.cons_cons _ (List.Sublist.cons_cons _ (List.Sublist.cons_cons _ (List.Sublist.cons_cons _ (List.Sublist.cons_cons _ (List.Sublist.cons_cons _ (List.Sublist.slnil)))))))))))⟩
    rintro f98 H98 ⟨v94, a98_1, a98_2, a98_5, a98_6, a98_7, a98_8, hS98⟩
    clear a80_1 a80_2 a80_5 a80_6 a80_7 a80_8 a80_9
    refine wpF_cut (fun f H => f 1 = vl ∧ f 2 = PT g1 0 ∧ f 5 = I ((j.To.length : Int)) ∧ f 6 = PT g12 0 ∧ f 7 = v94 ∧ f 8 = I ((k : Int) + 1) ∧ H98 = H) ?_ ?_
    · refine wpF_region ?_
      refine wpL_q (U := NoB) rfl (q_move (v := I ((k : Int))) rfl a98_8) ?_
      refine wpL_q (U := NoB) rfl (q_add rfl rfl rfl (by constructor <;> omega)) ?_
      refine wpL_q (U := NoB) rfl (q_assign (v := I ((k : Int) + 1)) rfl rfl) ?_
      exact ⟨a98_1, a98_2, a98_5, a98_6, a98_7, rfl, rfl⟩
    rintro f99 _ ⟨a99_1, a99_2, a99_5, a99_6, a99_7, a99_8, rfl⟩
    clear a98_1 a98_2 a98_5 a98_6 a98_7 a98_8
    refine ⟨_, ?_, k + 1, c3, a3, v94, rfl, (by omega), hw3, a99_1, a99_2, a99_5, a99_6, a99_7, (Eq.trans a99_8 (congrArg I (by omega))), (hS98.drop (List.Sublist.cons_cons _ (List.Sublist.cons _ (List.Sublist.cons _ (List.Sublist.cons_cons _ (List.Sublist.cons_cons _ (List.Sublist.cons_cons _ (List.Sublist.cons_cons _ (List.Sublist.cons_cons _ (List.Sublist.slnil))))))))))⟩
    omega
  have hF := hw.done hk (by simpa using hlt)
  refine wpF_exit ?_
  refine atX_here ?_
  refine wpF_seq ?_
  refine wpF_cut (fun f H => ∃ (r100 : Value), ∃ (g104 : Nat), f 6 = PT g12 0 ∧ f 7 = vo ∧ f 10 = r100 ∧ f 11 = PT g104 0 ∧ St H0 NoB NoB [blkE g104 (.cells #[I ((wantFault j l).1), I ((wantFault j l).2)] 27), rdE r100 (wantAll j l : List LRow), rowE 34 vo ((l.take k).map (wantRow j) : List LRow), blkE g12 (.cells #[I (c1), I (a1)] 27), blkE g1 (.cells #[vw, vt] 25), rdE vw (j.When : List LRow), rdE vt (j.To : List (List Int)), rdE vl (l : List LRow)] H) ?_ ?_
  · refine wpF_region ?_
    refine wpL_q (U := NoB) rfl (q_loadBlkA rfl a68_2 Try.isAgg25 Try.sizeOf25 rfl (hS64.blk 2 rfl) (fun h => h)) ?_
    refine wpL_q (U := NoB) rfl (q_move (v := vl) rfl a68_1) ?_
    refine wpL_o rfl ?_
    refine e_call rfl Try.call17 (arr2 (v0 := Value.agg #[vw, vt]) (v1 := vl) rfl rfl) (Want_L vw vt vl j l (hS64.rdS 3 rfl) (hS64.rdS 4 rfl) (hS64.rdS 5 rfl)) ?_
    rintro _ H101 ⟨hxx, r100, rfl, hrr100⟩
    have hS102 : St H0 NoB NoB [rdE r100 (wantAll j l : List LRow), rowE 34 vo ((l.take k).map (wantRow j) : List LRow), blkE g12 (.cells #[I (c1), I (a1)] 27), blkE g1 (.cells #[vw, vt] 25), rdE vw (j.When : List LRow), rdE vt (j.To : List (List Int)), rdE vl (l : List LRow)] H101 := (hS64.res hxx hrr100)
    refine wpL_q (U := NoB) rfl (q_move (v := Value.tuple #[r100, Value.agg #[I ((wantFault j l).1), I ((wantFault j l).2)]]) rfl rfl) ?_
    refine wpL_q (U := NoB) rfl (q_extract (vs := #[r100, Value.agg #[I ((wantFault j l).1), I ((wantFault j l).2)]]) (v := r100) rfl rfl rfl) ?_
    refine wpL_q (U := NoB) rfl (q_extract (vs := #[r100, Value.agg #[I ((wantFault j l).1), I ((wantFault j l).2)]]) (v := Value.agg #[I ((wantFault j l).1), I ((wantFault j l).2)]) rfl rfl rfl) ?_
    refine wpL_o rfl ?_
    refine e_alloc rfl Try.zeroValue27 hS102 (fun g104 H105 hS106 hxx => ?_)
    replace hS106 : St H0 NoB NoB [blkE g104 (.cells #[I (0), I (0)] 27), rdE r100 (wantAll j l : List LRow), rowE 34 vo ((l.take k).map (wantRow j) : List LRow), blkE g12 (.cells #[I (c1), I (a1)] 27), blkE g1 (.cells #[vw, vt] 25), rdE vw (j.When : List LRow), rdE vt (j.To : List (List Int)), rdE vl (l : List LRow)] H105 := hS106
    refine wpL_q (U := NoB) rfl (q_assign (v := r100) rfl rfl) ?_
    refine wpL_o rfl ?_
    refine e_storeBlkA (cs' := #[I ((wantFault j l).1), I ((wantFault j l).2)]) rfl rfl rfl Try.sizeOf27 rfl rfl (List.forall_mem_cons.2 ⟨rfl, List.forall_mem_cons.2 ⟨rfl, List.forall_mem_nil _⟩⟩) hS106 (fun H107 hS108 hxx => ?_)
    replace hS108 : St H0 NoB NoB [blkE g104 (.cells #[I ((wantFault j l).1), I ((wantFault j l).2)] 27), rdE r100 (wantAll j l : List LRow), rowE 34 vo ((l.take k).map (wantRow j) : List LRow), blkE g12 (.cells #[I (c1), I (a1)] 27), blkE g1 (.cells #[vw, vt] 25), rdE vw (j.When : List LRow), rdE vt (j.To : List (List Int)), rdE vl (l : List LRow)] H107 := hS108
    exact ⟨r100, g104, a68_6, a68_7, rfl, rfl, hS108⟩
  rintro f109 H109 ⟨r100, g104, a109_6, a109_7, a109_10, a109_11, hS109⟩
  clear a68_1 a68_2 a68_5 a68_54 a68_6 a68_7 a68_8
  refine wpF_seq ?_
  refine wpF_seq ?_
  have hS110 : St H0 NoB NoB [rdE vo ((l.take k).map (wantRow j) : List LRow), blkE g104 (.cells #[I ((wantFault j l).1), I ((wantFault j l).2)] 27), rdE r100 (wantAll j l : List LRow), blkE g12 (.cells #[I (c1), I (a1)] 27), blkE g1 (.cells #[vw, vt] 25), rdE vw (j.When : List LRow), rdE vt (j.To : List (List Int)), rdE vl (l : List LRow)] H109 := St.fin (hS109.front 2 rfl)
  have hwal : (wantAll j l).length ≤ l.length := by unfold wantAll; split <;> simp
  refine wpF_cut (fun f H => f 6 = PT g12 0 ∧ f 7 = vo ∧ f 10 = r100 ∧ f 82 = B (decide (¬ (((wantFault j l).1) = c1 ∧ ((wantFault j l).2) = a1))) ∧ H109 = H) ?_ ?_
  · refine wpF_region ?_
    refine wpL_q (U := NoB) rfl (q_loadBlkA rfl a109_11 Try.isAgg27 Try.sizeOf27 rfl (hS110.blk 1 rfl) (fun h => h)) ?_
    refine wpL_q (U := NoB) rfl (q_loadBlkA rfl a109_6 Try.isAgg27 Try.sizeOf27 rfl (hS110.blk 3 rfl) (fun h => h)) ?_
    refine wpL_q (U := NoB) rfl (q_neqF2 rfl Try.eqGuardType27 (fl27 _ _ _ _) rfl rfl) ?_
    exact ⟨a109_6, a109_7, a109_10, rfl, rfl⟩
  rintro f111 _ ⟨a111_6, a111_7, a111_10, a111_82, rfl⟩
  clear a109_10 a109_11 a109_6 a109_7
  refine wpF_condP a111_82 (fun hne => ?t134) (fun hne => ?e134)
  case t134 =>
    refine wpF_seq ?_
    refine wpF_cut (fun f H => f 4 = B (false) ∧ H109 = H) ?_ ?_
    · refine wpF_region ?_
      refine wpL_q (U := NoB) rfl (q_assign (v := B (false)) rfl rfl) ?_
      exact ⟨rfl, rfl⟩
    rintro f113 _ ⟨a113_4, rfl⟩
    clear a111_10 a111_6 a111_7 a111_82
    refine wpF_ret ?_
    refine ⟨_, resT a113_4 resN, hS110.frame, ?_⟩
    show (B (false)) = B true
    exfalso
    exact hne (by rw [hF]; exact ⟨rfl, rfl⟩)
  refine wpF_skip ?_
  refine wpF_seq ?_
  refine wpF_seq ?_
  refine wpF_cut (fun f H => f 7 = vo ∧ f 10 = r100 ∧ f 85 = B (decide (c1 ≠ 0)) ∧ H109 = H) ?_ ?_
  · refine wpF_region ?_
    refine wpL_q (U := NoB) rfl (q_fieldAddr rfl Try.underlying27 rfl Try.sizeOf3 a111_6) ?_
    refine wpL_q (U := NoB) rfl (q_loadBlk rfl rfl Try.isAgg3 (hS110.blk 3 rfl) rfl (fun h => h)) ?_
    refine wpL_q (U := NoB) rfl (q_neq rfl rfl rfl) ?_
    exact ⟨a111_7, a111_10, rfl, rfl⟩
  rintro f114 _ ⟨a114_7, a114_10, a114_85, rfl⟩
  clear a111_10 a111_6 a111_7 a111_82
  refine wpF_condP a114_85 (fun hbad => ?t133) (fun hbad => ?e133)
  case t133 =>
    refine wpF_seq ?_
    refine wpF_cut (fun f H => f 4 = B (decide (((wantAll j l).length : Int) = 0)) ∧ H109 = H) ?_ ?_
    · refine wpF_region ?_
      refine wpL_q (U := NoB) rfl (q_move (v := r100) rfl a114_10) ?_
      refine wpL_q (U := NoB) rfl (q_lenRd rfl Try.underlying22 rfl (hS110.rdl 2 rfl)) ?_
      refine wpL_q (U := NoB) rfl (q_eql rfl rfl rfl) ?_
      refine wpL_q (U := NoB) rfl (q_assign (v := B (decide (((wantAll j l).length : Int) = 0))) rfl rfl) ?_
      exact ⟨rfl, rfl⟩
    rintro f116 _ ⟨a116_4, rfl⟩
    clear a114_10 a114_7 a114_85
    refine wpF_ret ?_
    refine ⟨_, resT a116_4 resN, hS110.frame, ?_⟩
    show (B (decide (((wantAll j l).length : Int) = 0))) = B true
    exact congrArg B (decide_eq_true (by rw [wantAll_bad (by rw [hF]; exact hbad)]; rfl))
  have hz : ¬ (wantFault j l).1 ≠ 0 := by rw [hF]; exact hbad
  have hal := wantAll_ok hz
  have hww : (l.take k).map (wantRow j) = wantAll j l := by rw [hal, List.take_of_length_le (by omega)]
  refine wpF_skip ?_
  refine wpF_seq ?_
  refine wpF_seq ?_
  refine wpF_cut (fun f H => f 7 = vo ∧ f 10 = r100 ∧ f 93 = B (decide (((wantAll j l).length : Int) ≠ (((l.take k).map (wantRow j)).length : Int))) ∧ H109 = H) ?_ ?_
  · refine wpF_region ?_
    refine wpL_q (U := NoB) rfl (q_move (v := r100) rfl a114_10) ?_
    refine wpL_q (U := NoB) rfl (q_lenRd rfl Try.underlying22 rfl (hS110.rdl 2 rfl)) ?_
    refine wpL_q (U := NoB) rfl (q_move (v := vo) rfl a114_7) ?_
    refine wpL_q (U := NoB) rfl (q_lenRd rfl Try.underlying22 rfl (hS110.rdl 0 rfl)) ?_
    refine wpL_q (U := NoB) rfl (q_neq rfl rfl rfl) ?_
    exact ⟨a114_7, a114_10, rfl, rfl⟩
  rintro f117 _ ⟨a117_7, a117_10, a117_93, rfl⟩
  clear a114_10 a114_7 a114_85
  refine wpF_condP a117_93 (fun hlen => ?t132) (fun hlen => ?e132)
  case t132 =>
    refine wpF_seq ?_
    refine wpF_cut (fun f H => f 4 = B (false) ∧ H109 = H) ?_ ?_
    · refine wpF_region ?_
      refine wpL_q (U := NoB) rfl (q_assign (v := B (false)) rfl rfl) ?_
      exact ⟨rfl, rfl⟩
    rintro f119 _ ⟨a119_4, rfl⟩
    clear a117_10 a117_7 a117_93
    refine wpF_ret ?_
    refine ⟨_, resT a119_4 resN, hS110.frame, ?_⟩
    show (B (false)) = B true
    exfalso
    rw [hww] at hlen
    exact hlen rfl
  refine wpF_skip ?_
  refine wpF_seq ?_
  refine wpF_seq ?_
  refine wpF_cut (fun f H => f 7 = vo ∧ f 10 = r100 ∧ f 12 = I (0) ∧ H109 = H) ?_ ?_
  · refine wpF_region ?_
    refine wpL_q (U := NoB) rfl (q_assign (v := I (0)) rfl rfl) ?_
    exact ⟨a117_7, a117_10, rfl, rfl⟩
  rintro f120 _ ⟨a120_7, a120_10, a120_12, rfl⟩
  clear a117_10 a117_7 a117_93
  refine wpF_block ?_
  refine wpF_loop (fun mz f H => ∃ (i : Nat), mz = (wantAll j l).length - i ∧ (i ≤ (wantAll j l).length) ∧ f 7 = vo ∧ f 10 = r100 ∧ f 12 = I ((i : Int)) ∧ St H0 NoB NoB [rdE vo ((l.take k).map (wantRow j) : List LRow), blkE g104 (.cells #[I ((wantFault j l).1), I ((wantFault j l).2)] 27), rdE r100 (wantAll j l : List LRow), blkE g12 (.cells #[I (c1), I (a1)] 27), blkE g1 (.cells #[vw, vt] 25), rdE vw (j.When : List LRow), rdE vt (j.To : List (List Int)), rdE vl (l : List LRow)] H) ((wantAll j l).length - 0) ?_ ?_
  · exact ⟨0, rfl, Nat.zero_le _, a120_7, a120_10, (Eq.trans a120_12 (congrArg I (by omega))), hS110⟩
  intro m121 f121 H121 hI121
  obtain ⟨i, hm121, hi, a121_7, a121_10, a121_12, hS121⟩ := hI121
  clear a120_10 a120_12 a120_7
  refine wpF_seq ?_
  refine wpF_seq ?_
  refine wpF_cut (fun f H => f 7 = vo ∧ f 10 = r100 ∧ f 12 = I ((i : Int)) ∧ f 97 = B (decide ((i : Int) < ((wantAll j l).length : Int))) ∧ H121 = H) ?_ ?_
  · refine wpF_region ?_
    refine wpL_q (U := NoB) rfl (q_move (v := I ((i : Int))) rfl a121_12) ?_
    refine wpL_q (U := NoB) rfl (q_move (v := r100) rfl a121_10) ?_
    refine wpL_q (U := NoB) rfl (q_lenRd rfl Try.underlying22 rfl (hS121.rdl 2 rfl)) ?_
    refine wpL_q (U := NoB) rfl (q_lss rfl rfl rfl) ?_
    exact ⟨a121_7, a121_10, a121_12, rfl, rfl⟩
  rintro f122 _ ⟨a122_7, a122_10, a122_12, a122_97, rfl⟩
  clear a121_10 a121_12 a121_7
  refine wpF_condP a122_97 (fun hlt2 => ?t131) (fun hlt2 => ?e131)
  case e131 =>
    refine wpF_exit ?_
    refine atX_here ?_
    refine wpF_seq ?_
    refine wpF_cut (fun f H => f 4 = B (true) ∧ H121 = H) ?_ ?_
    · refine wpF_region ?_
      refine wpL_q (U := NoB) rfl (q_assign (v := B (true)) rfl rfl) ?_
      exact ⟨rfl, rfl⟩
    rintro f130 _ ⟨a130_4, rfl⟩
    clear a122_10 a122_12 a122_7 a122_97
    refine wpF_ret ?_
    refine ⟨_, resT a130_4 resN, hS121.frame, ?_⟩
    show (B (true)) = B true
    rfl
  refine wpF_skip ?_
  refine wpF_seq ?_
  refine wpF_block ?_
  refine wpF_seq ?_
  refine wpF_cut (fun f H => (In64 (nth (wantAll j l) i).Kind) ∧ (In64 (nth (wantAll j l) i).To) ∧ (In64 (nth ((l.take k).map (wantRow j)) i).Kind) ∧ (In64 (nth ((l.take k).map (wantRow j)) i).To) ∧ f 7 = vo ∧ f 10 = r100 ∧ f 12 = I ((i : Int)) ∧ f 109 = B (decide (¬ ((nth (wantAll j l) i) = (nth ((l.take k).map (wantRow j)) i)))) ∧ St H0 NoB NoB [rdE vo ((l.take k).map (wantRow j) : List LRow), blkE g104 (.cells #[I ((wantFault j l).1), I ((wantFault j l).2)] 27), rdE r100 (wantAll j l : List LRow), blkE g12 (.cells #[I (c1), I (a1)] 27), blkE g1 (.cells #[vw, vt] 25), rdE vw (j.When : List LRow), rdE vt (j.To : List (List Int)), rdE vl (l : List LRow)] H) ?_ ?_
  · refine wpF_drawn [] [] (fun _ _ => False) (by kernel_rfl) (by kernel_rfl) ?_
    refine wpR_q 0 (by kernel_rfl) rfl (quietAt rfl rfl (q_move (v := r100) rfl a122_10)) ?_
    refine wpR_q 1 (by kernel_rfl) rfl (quietAt rfl rfl (q_move (v := I ((i : Int))) rfl a122_12)) ?_
    refine wpR_q 2 (by kernel_rfl) rfl (quietAt rfl rfl (q_indexRd (k := i) rfl Try.underlying22 el_LRow_34 rfl rfl (hS121.rdl 2 rfl) (by omega) (by omega))) ?_
    obtain ⟨u124o3, huu124o3, hlu124o3⟩ := (Rd.list.1 (hS121.rdS 2 rfl)).elem i (by omega)
    obtain ⟨u124o3n0, rfl, hu124o30, hu124o31, hu124o32⟩ := Rd.lRow.1 huu124o3
    have hS124o3 : St H0 NoB NoB [rdE u124o3n0 ((nth (wantAll j l) i).Of : List Int), rdE vo ((l.take k).map (wantRow j) : List LRow), blkE g104 (.cells #[I ((wantFault j l).1), I ((wantFault j l).2)] 27), rdE r100 (wantAll j l : List LRow), blkE g12 (.cells #[I (c1), I (a1)] 27), blkE g1 (.cells #[vw, vt] 25), rdE vw (j.When : List LRow), rdE vt (j.To : List (List Int)), rdE vl (l : List LRow)] H121 := hS121.rd hu124o30
    refine wpR_q 3 (by kernel_rfl) rfl (quietAt rfl rfl (q_loadE rfl rfl (hlu124o3 Try.prog 34 _ el_LRow_34 (labU_sub [] rfl (List.forall_mem_nil _))))) ?_
    refine wpR_q 4 (by kernel_rfl) rfl (quietAt rfl rfl (q_move (v := vo) rfl a122_7)) ?_
    refine wpR_q 5 (by kernel_rfl) rfl (quietAt rfl rfl (q_move (v := I ((i : Int))) rfl a122_12)) ?_
    refine wpR_q 6 (by kernel_rfl) rfl (quietAt rfl rfl (q_indexRd (k := i) rfl Try.underlying22 el_LRow_34 rfl rfl (hS124o3.rdl 1 rfl) (by omega) (by omega))) ?_
    obtain ⟨u124o7, huu124o7, hlu124o7⟩ := (Rd.list.1 (hS124o3.rdS 1 rfl)).elem i (by omega)
    obtain ⟨u124o7n0, rfl, hu124o70, hu124o71, hu124o72⟩ := Rd.lRow.1 huu124o7
    have hS124o7 : St H0 NoB NoB [rdE u124o7n0 ((nth ((l.take k).map (wantRow j)) i).Of : List Int), rdE u124o3n0 ((nth (wantAll j l) i).Of : List Int), rdE vo ((l.take k).map (wantRow j) : List LRow), blkE g104 (.cells #[I ((wantFault j l).1), I ((wantFault j l).2)] 27), rdE r100 (wantAll j l : List LRow), blkE g12 (.cells #[I (c1), I (a1)] 27), blkE g1 (.cells #[vw, vt] 25), rdE vw (j.When : List LRow), rdE vt (j.To : List (List Int)), rdE vl (l : List LRow)] H121 := hS124o3.rd hu124o70
    refine wpR_q 7 (by kernel_rfl) rfl (quietAt rfl rfl (q_loadE rfl rfl (hlu124o7 Try.prog 34 _ el_LRow_34 (labU_sub [] rfl (List.forall_mem_nil _))))) ?_
    refine wpR_n [8] (by kernel_rfl) ?_
    refine List.forall_mem_cons.2 ⟨?_, List.forall_mem_nil _⟩
    refine exE rfl rfl ?_
    refine e_call rfl Try.call18 (arr2 (v0 := Value.agg #[u124o3n0, I ((nth (wantAll j l) i).Kind), I ((nth (wantAll j l) i).To)]) (v1 := Value.agg #[u124o7n0, I ((nth ((l.take k).map (wantRow j)) i).Kind), I ((nth ((l.take k).map (wantRow j)) i).To)]) rfl rfl) (SameRow u124o3n0 u124o7n0 (nth (wantAll j l) i) (nth ((l.take k).map (wantRow j)) i) (hS124o7.rdN 1 rfl) (by first | assumption | (constructor <;> omega)) (by first | assumption | (constructor <;> omega)) (hS124o7.rdN 0 rfl) (by first | assumption | (constructor <;> omega)) (by first | assumption | (constructor <;> omega))) ?_
    rintro _ H124o8 ⟨hxx, rfl⟩
    have hS124o8 : St H0 NoB NoB [rdE u124o7n0 ((nth ((l.take k).map (wantRow j)) i).Of : List Int), rdE u124o3n0 ((nth (wantAll j l) i).Of : List Int), rdE vo ((l.take k).map (wantRow j) : List LRow), blkE g104 (.cells #[I ((wantFault j l).1), I ((wantFault j l).2)] 27), rdE r100 (wantAll j l : List LRow), blkE g12 (.cells #[I (c1), I (a1)] 27), blkE g1 (.cells #[vw, vt] 25), rdE vw (j.When : List LRow), rdE vt (j.To : List (List Int)), rdE vl (l : List LRow)] H124o8 := hS124o7.ext hxx
    refine ⟨Ext.mono hxx (fun _ h => h.elim), ?_⟩
    refine wpR_q 9 (by kernel_rfl) rfl (quietAt rfl rfl (q_notP rfl rfl)) ?_
    refine wpR_end (by kernel_rfl) ?_
    exact ⟨hu124o31, hu124o32, hu124o71, hu124o72, a122_7, a122_10, a122_12, rfl, (hS124o8.drop (List.Sublist.cons _ (List.Sublist.cons _ (List.Sublist.cons_cons _ (List.Sublist.cons_cons _ (List.Sublist.cons_cons _ (List.Sublist.cons_cons _ (List.Sublist.cons_cons _ (List.Sublist.cons_cons _ (List.Sublist.cons_cons _ (List.Sublist.cons_cons _ (List.Sublist.slnil))))))))))))⟩
  rintro f125 H125 ⟨hu124o31, hu124o32, hu124o71, hu124o72, a125_7, a125_10, a125_12, a125_109, hS125⟩
  clear a122_10 a122_12 a122_7 a122_97
  refine wpF_condP a125_109 (fun hrow => ?t129) (fun hrow => ?e129)
  case e129 =>
    refine wpF_skip ?_
    refine wpF_cut (fun f H => f 7 = vo ∧ f 10 = r100 ∧ f 12 = I ((i : Int) + 1) ∧ H125 = H) ?_ ?_
    · refine wpF_region ?_
      refine wpL_q (U := NoB) rfl (q_move (v := I ((i : Int))) rfl a125_12) ?_
      refine wpL_q (U := NoB) rfl (q_add rfl rfl rfl (by constructor <;> omega)) ?_
      refine wpL_q (U := NoB) rfl (q_assign (v := I ((i : Int) + 1)) rfl rfl) ?_
      exact ⟨a125_7, a125_10, rfl, rfl⟩
    rintro f128 _ ⟨a128_7, a128_10, a128_12, rfl⟩
    clear a125_10 a125_109 a125_12 a125_7
    refine ⟨_, ?_, i + 1, rfl, (by omega), a128_7, a128_10, (Eq.trans a128_12 (congrArg I (by omega))), hS125⟩
    omega
  refine wpF_seq ?_
  refine wpF_cut (fun f H => f 4 = B (false) ∧ H125 = H) ?_ ?_
  · refine wpF_region ?_
    refine wpL_q (U := NoB) rfl (q_assign (v := B (false)) rfl rfl) ?_
    exact ⟨rfl, rfl⟩
  rintro f127 _ ⟨a127_4, rfl⟩
  clear a125_10 a125_109 a125_12 a125_7
  refine wpF_ret ?_
  refine ⟨_, resT a127_4 resN, hS125.frame, ?_⟩
  show (B (false)) = B true
  exfalso
  rw [hww] at hrow
  simp at hrow

end Go.Um
