import Derived.Test.YtfgibfbgklkgbaaProg
import Derived.Test.YtfgibfbgklkgbaaHoldC1
import Derived.Test.YtfgibfbgklkgbaaLoopR2
import Derived.Test.YtfgibfbgklkgbaaUmSub
namespace Go.Um
open Go.Proofs
open GoT (sz ag rdc)
open KeyT (kv)

theorem el_LInt_32_HoldR1 : ElT Try.prog (List Int) 32 := ⟨Try.isAgg32, Try.sizeOf32⟩

set_option maxHeartbeats 1000000 in
set_option maxRecDepth 100000 in
theorem Lost_R {H0 : Heap} {S : Nat → Prop} (wa wb wc wd we vr : Value) (l : Loop) (r : List LRow) (rwa : Rd S H0 wa l.Low) (rwb : Rd S H0 wb l.High) (rwc : Rd S H0 wc l.Start) (rwd : Rd S H0 wd l.Jumps) (rwe : Rd S H0 we l.Bad) (rr : Rd S H0 vr r) (hl : LW l) (hrz : rowsFault r l.Low.length = 0) : CallsH Try.prog 38 #[Value.agg #[wa, wb, wc, wd, we], vr] H0 (fun rv_ H' => Ext NoB H0 H' ∧ ∃ w0_, rv_ = Value.tuple #[w0_, B ((lostS l r).isSome)] ∧ Rd (fun b => S b ∧ b < H0.size) H' w0_ ((lostS l r).getD [])) := by
  have hs1 := (Rd.list.1 rwa).small
  have hs2 := (Rd.list.1 rwb).small
  have hs4 := (Rd.list.1 rwd).small
  have hsr := (Rd.list.1 rr).small
  have hS0 : St H0 NoB (fun b => S b ∧ b < H0.size) [rdE wa l.Low, rdE wb l.High, rdE wc l.Start, rdE wd l.Jumps, rdE we l.Bad, rdE vr r] H0 := St.arg (St.arg (St.arg (St.arg (St.arg (St.arg (St.start (fun _ h => h.2)) (Bl0.nil) rr (fun _ h => h.1)) (Bl0.cons (Bl0.nil)) rwe (fun _ h => h.1)) (Bl0.cons (Bl0.cons (Bl0.nil))) rwd (fun _ h => h.1)) (Bl0.cons (Bl0.cons (Bl0.cons (Bl0.nil)))) rwc (fun _ h => h.1)) (Bl0.cons (Bl0.cons (Bl0.cons (Bl0.cons (Bl0.nil))))) rwb (fun _ h => h.1)) (Bl0.cons (Bl0.cons (Bl0.cons (Bl0.cons (Bl0.cons (Bl0.nil)))))) rwa (fun _ h => h.1)
  refine callsH_of_wpF (args := [Value.agg #[wa, wb, wc, wd, we], vr]) (rs := [.tmp 4, .tmp 5]) Try.func38 rfl Try.ntmps38 Try.results38 (by kernel_rfl) (Nat.le_of_ble_eq_true rfl) ?_
  have a0_0 : argF [Value.agg #[wa, wb, wc, wd, we], vr] 0 = Value.agg #[wa, wb, wc, wd, we] := rfl
  have a0_1 : argF [Value.agg #[wa, wb, wc, wd, we], vr] 1 = vr := rfl
  generalize argF [Value.agg #[wa, wb, wc, wd, we], vr] = f0 at *
  refine wpF_seq ?_
  refine wpF_cut (fun f H => ∃ (g1 : Nat), f 1 = vr ∧ f 2 = PT g1 0 ∧ St H0 NoB (fun b => S b ∧ b < H0.size) [blkE g1 (.cells #[wa, wb, wc, wd, we] 42), rdE wa l.Low, rdE wb l.High, rdE wc l.Start, rdE wd l.Jumps, rdE we l.Bad, rdE vr r] H) ?_ ?_
  · refine wpF_region ?_
    refine wpL_o rfl ?_
    refine e_box (v := Value.agg #[wa, wb, wc, wd, we]) rfl a0_0 hS0 (fun g1 H2 hS3 hxx => ?_)
    replace hS3 : St H0 NoB (fun b => S b ∧ b < H0.size) [blkE g1 (.cells #[wa, wb, wc, wd, we] 42), rdE wa l.Low, rdE wb l.High, rdE wc l.Start, rdE wd l.Jumps, rdE we l.Bad, rdE vr r] H2 := hS3
    refine wpL_q (U := NoB) rfl (q_assign (v := (Value.slice none 0 0)) rfl rfl) ?_
    refine wpL_q (U := NoB) rfl (q_assign (v := B (false)) rfl rfl) ?_
    exact ⟨g1, a0_1, rfl, hS3⟩
  rintro f4 H4 ⟨g1, a4_1, a4_2, hS4⟩
  clear a0_0 a0_1
  refine wpF_seq ?_
  refine wpF_cut (fun f H => ∃ (r5 : Value), f 1 = vr ∧ f 2 = PT g1 0 ∧ f 6 = r5 ∧ St H0 NoB (fun b => S b ∧ b < H0.size) [rdE r5 (statesF l l.Low.length [] : List (List Int)), blkE g1 (.cells #[wa, wb, wc, wd, we] 42), rdE wa l.Low, rdE wb l.High, rdE wc l.Start, rdE wd l.Jumps, rdE we l.Bad, rdE vr r] H) ?_ ?_
  · refine wpF_region ?_
    refine wpL_q (U := NoB) rfl (q_loadBlkA rfl a4_2 Try.isAgg42 Try.sizeOf42 rfl (hS4.blk 0 rfl) (fun h => h)) ?_
    refine wpL_o rfl ?_
    refine e_call rfl Try.call40 (arr2 (v0 := Value.agg #[wa, wb, wc, wd, we]) (v1 := (Value.slice none 0 0)) rfl rfl) (States_R _ wa wb wc wd we ((Value.slice none 0 0)) l [] (hS4.rdS 1 rfl) (hS4.rdS 2 rfl) (hS4.rdS 3 rfl) (hS4.rdS 4 rfl) (hS4.rdS 5 rfl) rdNil hl (Nat.zero_le _) rfl) ?_
    rintro r5 H6 ⟨hxx, hrr5⟩
    have hS7 : St H0 NoB (fun b => S b ∧ b < H0.size) [rdE r5 (statesF l l.Low.length [] : List (List Int)), blkE g1 (.cells #[wa, wb, wc, wd, we] 42), rdE wa l.Low, rdE wb l.High, rdE wc l.Start, rdE wd l.Jumps, rdE we l.Bad, rdE vr r] H6 := hS4.res hxx hrr5
    refine wpL_q (U := NoB) rfl (q_assign (v := r5) rfl rfl) ?_
    exact ⟨r5, a4_1, a4_2, rfl, hS7⟩
  rintro f9 H9 ⟨r5, a9_1, a9_2, a9_6, hS9⟩
  clear a4_1 a4_2
  refine wpF_seq ?_
  refine wpF_seq ?_
  refine wpF_cut (fun f H => f 1 = vr ∧ f 2 = PT g1 0 ∧ f 6 = r5 ∧ f 7 = I (0) ∧ H9 = H) ?_ ?_
  · refine wpF_region ?_
    refine wpL_q (U := NoB) rfl (q_assign (v := I (0)) rfl rfl) ?_
    exact ⟨a9_1, a9_2, a9_6, rfl, rfl⟩
  rintro f10 _ ⟨a10_1, a10_2, a10_6, a10_7, rfl⟩
  clear a9_1 a9_2 a9_6
  have hmany := hl.many
  have hsll : (statesL l).length ≤ 1200 := allTo_le hl (Nat.le_refl l.Low.length)
  refine wpF_block ?_
  refine wpF_loop (fun mz f H => ∃ (i : Nat), mz = (statesL l).length - i ∧ (i ≤ (statesL l).length) ∧ (∀ j, j < i → lost1 l r (nth (statesL l) j) = false) ∧ f 1 = vr ∧ f 2 = PT g1 0 ∧ f 6 = r5 ∧ f 7 = I ((i : Int)) ∧ St H0 NoB (fun b => S b ∧ b < H0.size) [rdE r5 (statesL l), blkE g1 (.cells #[wa, wb, wc, wd, we] 42), rdE wa l.Low, rdE wb l.High, rdE wc l.Start, rdE wd l.Jumps, rdE we l.Bad, rdE vr r] H) ((statesL l).length - 0) ?_ ?_
  · exact ⟨0, rfl, Nat.zero_le _, (fun j hj => absurd hj (Nat.not_lt_zero j)), a10_1, a10_2, a10_6, (Eq.trans a10_7 (congrArg I (by omega))), (show St H0 NoB (fun b => S b ∧ b < H0.size) [rdE r5 (statesL l), blkE g1 (.cells #[wa, wb, wc, wd, we] 42), rdE wa l.Low, rdE wb l.High, rdE wc l.Start, rdE wd l.Jumps, rdE we l.Bad, rdE vr r] H9 from (by have h__ := hS9; rw [states_same hl] at h__; exact h__))⟩
  intro m11 f11 H11 hI11
  obtain ⟨i, hm11, hi, hp1, a11_1, a11_2, a11_6, a11_7, hS11⟩ := hI11
  clear a10_1 a10_2 a10_6 a10_7
  refine wpF_seq ?_
  refine wpF_seq ?_
  refine wpF_cut (fun f H => f 1 = vr ∧ f 2 = PT g1 0 ∧ f 6 = r5 ∧ f 7 = I ((i : Int)) ∧ f 16 = B (decide ((i : Int) < ((statesL l).length : Int))) ∧ H11 = H) ?_ ?_
  · refine wpF_region ?_
    refine wpL_q (U := NoB) rfl (q_move (v := I ((i : Int))) rfl a11_7) ?_
    refine wpL_q (U := NoB) rfl (q_move (v := r5) rfl a11_6) ?_
    refine wpL_q (U := NoB) rfl (q_lenRd rfl Try.underlying23 rfl (hS11.rdl 0 rfl)) ?_
    refine wpL_q (U := NoB) rfl (q_lss rfl rfl rfl) ?_
    exact ⟨a11_1, a11_2, a11_6, a11_7, rfl, rfl⟩
  rintro f12 _ ⟨a12_1, a12_2, a12_6, a12_7, a12_16, rfl⟩
  clear a11_1 a11_2 a11_6 a11_7
  refine wpF_condP a12_16 (fun hlt => ?t60) (fun hlt => ?e60)
  case t60 =>
    have hst := state_st hl (i := i) (by omega)
    refine wpF_skip ?_
    refine wpF_seq ?_
    refine wpF_block ?_
    refine wpF_seq ?_
    obtain ⟨u14o5, huu14o5, hlu14o5⟩ := (Rd.list.1 (hS11.rdS 0 rfl)).elem i (by omega)
    have hS14o5 : St H0 NoB (fun b => S b ∧ b < H0.size) [rdE u14o5 (nth (statesL l) i), rdE r5 (statesL l), blkE g1 (.cells #[wa, wb, wc, wd, we] 42), rdE wa l.Low, rdE wb l.High, rdE wc l.Start, rdE wd l.Jumps, rdE we l.Bad, rdE vr r] H11 := hS11.rd huu14o5
    refine wpF_cut (fun f H => f 1 = vr ∧ f 2 = PT g1 0 ∧ f 6 = r5 ∧ f 7 = I ((i : Int)) ∧ f 34 = B (decide (((holdB l.Start (nth (statesL l) i)) = true) ∧ ((!(holdB r (nth (statesL l) i))) = true))) ∧ St H0 NoB (fun b => S b ∧ b < H0.size) [rdE r5 (statesL l), blkE g1 (.cells #[wa, wb, wc, wd, we] 42), rdE wa l.Low, rdE wb l.High, rdE wc l.Start, rdE wd l.Jumps, rdE we l.Bad, rdE vr r] H) ?_ ?_
    · refine wpF_drawn [] [] (fun _ _ => False) (by kernel_rfl) (by kernel_rfl) ?_
      refine wpR_q 0 (by kernel_rfl) rfl (quietAt rfl rfl (q_fieldAddr rfl Try.underlying42 rfl Try.sizeOf22 a12_2)) ?_
      refine wpR_q 1 (by kernel_rfl) rfl (quietAt rfl rfl (q_loadBlk rfl rfl Try.isAgg22 (hS11.blk 1 rfl) rfl (labU_not [] rfl (List.forall_mem_nil _)))) ?_
      refine wpR_q 2 (by kernel_rfl) rfl (quietAt rfl rfl (q_move (v := r5) rfl a12_6)) ?_
      refine wpR_q 3 (by kernel_rfl) rfl (quietAt rfl rfl (q_move (v := I ((i : Int))) rfl a12_7)) ?_
      refine wpR_q 4 (by kernel_rfl) rfl (quietAt rfl rfl (q_indexRd (k := i) rfl Try.underlying23 el_LInt_32_HoldR1 rfl rfl (hS11.rdl 0 rfl) (by omega) (by omega))) ?_
      refine wpR_q 5 (by kernel_rfl) rfl (quietAt rfl rfl (q_loadE rfl rfl (hlu14o5 Try.prog 32 _ el_LInt_32_HoldR1 (labU_sub [] rfl (List.forall_mem_nil _))))) ?_
      refine wpR_n [6] (by kernel_rfl) ?_
      refine List.forall_mem_cons.2 ⟨?_, List.forall_mem_nil _⟩
      refine exE rfl rfl ?_
      refine e_call rfl Try.call33 (arr2 (v0 := wc) (v1 := u14o5) rfl rfl) (Hold_R wc u14o5 l.Start (nth (statesL l) i) (hS14o5.rdN 5 rfl) (hS14o5.rdN 0 rfl) (HoldOk.of hl.start hmany.2 (inside_small hl hst.1 hst.2) (by rw [hst.1]; exact Int.le_refl _))) ?_
      rintro _ H14o6 ⟨hxx, rfl⟩
      have hS14o6 : St H0 NoB (fun b => S b ∧ b < H0.size) [rdE u14o5 (nth (statesL l) i), rdE r5 (statesL l), blkE g1 (.cells #[wa, wb, wc, wd, we] 42), rdE wa l.Low, rdE wb l.High, rdE wc l.Start, rdE wd l.Jumps, rdE we l.Bad, rdE vr r] H14o6 := hS14o5.ext hxx
      refine ⟨Ext.mono hxx (fun _ h => h.elim), ?_⟩
      refine wpR_q 7 (by kernel_rfl) rfl (quietAt rfl rfl (q_move (v := B (holdB l.Start (nth (statesL l) i))) rfl rfl)) ?_
      by_cases hg15 : (holdB l.Start (nth (statesL l) i)) = true
      · have hb16 := Eq.trans rfl (congrArg B hg15)
        refine wpR_q 8 (by kernel_rfl) rfl (quietAt_g rfl rfl rfl rfl hb16 (q_move (v := vr) rfl a12_1)) ?_
        refine wpR_q 9 (by kernel_rfl) rfl (quietAt_g rfl rfl rfl rfl hb16 (q_move (v := r5) rfl a12_6)) ?_
        refine wpR_q 10 (by kernel_rfl) rfl (quietAt_g rfl rfl rfl rfl hb16 (q_move (v := I ((i : Int))) rfl a12_7)) ?_
        refine wpR_q 11 (by kernel_rfl) rfl (quietAt_g rfl rfl rfl rfl hb16 (q_indexRd (k := i) rfl Try.underlying23 el_LInt_32_HoldR1 rfl rfl (hS14o6.rdl 1 rfl) (by omega) (by omega))) ?_
        obtain ⟨u14o12, huu14o12, hlu14o12⟩ := (Rd.list.1 (hS14o6.rdS 1 rfl)).elem i (by omega)
        have hS14o12 : St H0 NoB (fun b => S b ∧ b < H0.size) [rdE u14o12 (nth (statesL l) i), rdE u14o5 (nth (statesL l) i), rdE r5 (statesL l), blkE g1 (.cells #[wa, wb, wc, wd, we] 42), rdE wa l.Low, rdE wb l.High, rdE wc l.Start, rdE wd l.Jumps, rdE we l.Bad, rdE vr r] H14o6 := hS14o6.rd huu14o12
        refine wpR_q 12 (by kernel_rfl) rfl (quietAt_g rfl rfl rfl rfl hb16 (q_loadE rfl rfl (hlu14o12 Try.prog 32 _ el_LInt_32_HoldR1 (labU_sub [] rfl (List.forall_mem_nil _))))) ?_
        refine wpR_n [13] (by kernel_rfl) ?_
        refine List.forall_mem_cons.2 ⟨?_, List.forall_mem_nil _⟩
        refine exE_g rfl rfl rfl rfl hb16 ?_
        refine e_call rfl Try.call33 (arr2 (v0 := vr) (v1 := u14o12) rfl rfl) (Hold_R vr u14o12 r (nth (statesL l) i) (hS14o12.rdN 9 rfl) (hS14o12.rdN 0 rfl) (holdok_st hl hrz hst)) ?_
        rintro _ H14o13 ⟨hxx, rfl⟩
        have hS14o13 : St H0 NoB (fun b => S b ∧ b < H0.size) [rdE u14o12 (nth (statesL l) i), rdE u14o5 (nth (statesL l) i), rdE r5 (statesL l), blkE g1 (.cells #[wa, wb, wc, wd, we] 42), rdE wa l.Low, rdE wb l.High, rdE wc l.Start, rdE wd l.Jumps, rdE we l.Bad, rdE vr r] H14o13 := hS14o12.ext hxx
        refine ⟨Ext.mono hxx (fun _ h => h.elim), ?_⟩
        refine wpR_q 14 (by kernel_rfl) rfl (quietAt_g rfl rfl rfl rfl hb16 (q_not rfl rfl)) ?_
        refine wpR_q 15 (by kernel_rfl) rfl (quietAt rfl rfl (q_pickT (v := B (!(holdB r (nth (statesL l) i)))) rfl hb16 rfl)) ?_
        refine wpR_end (by kernel_rfl) ?_
        exact ⟨a12_1, a12_2, a12_6, a12_7, (Eq.trans rfl (congrArg B (bool_congr_of ((Iff.rfl).trans (((and_iff_right hg15).trans Iff.rfl)).symm)))), (hS14o13.drop (sn (sn (sk (sk (sk (sk (sk (sk (sk (sk (List.Sublist.slnil))))))))))))⟩
      · have hb17 := Eq.trans rfl (congrArg B (Bool.eq_false_iff.2 hg15))
        refine wpR_q 8 (by kernel_rfl) rfl (quietAt_s rfl rfl rfl rfl hb17 rfl) ?_
        refine wpR_q 9 (by kernel_rfl) rfl (quietAt_s rfl rfl rfl rfl hb17 rfl) ?_
        refine wpR_q 10 (by kernel_rfl) rfl (quietAt_s rfl rfl rfl rfl hb17 rfl) ?_
        refine wpR_q 11 (by kernel_rfl) rfl (quietAt_s rfl rfl rfl rfl hb17 rfl) ?_
        refine wpR_q 12 (by kernel_rfl) rfl (quietAt_s rfl rfl rfl rfl hb17 rfl) ?_
        refine wpR_q 13 (by kernel_rfl) rfl (quietAt_s rfl rfl rfl rfl hb17 rfl) ?_
        refine wpR_q 14 (by kernel_rfl) rfl (quietAt_s rfl rfl rfl rfl hb17 rfl) ?_
        refine wpR_q 15 (by kernel_rfl) rfl (quietAt rfl rfl (q_pickF (v := B (false)) rfl hb17 rfl)) ?_
        refine wpR_end (by kernel_rfl) ?_
        exact ⟨a12_1, a12_2, a12_6, a12_7, (Eq.trans rfl (congrArg B ((decide_eq_false (fun h => hg15 h.1)).symm))), (hS14o6.drop (sn (sk (sk (sk (sk (sk (sk (sk (sk (List.Sublist.slnil)))))))))))⟩
    rintro f18 H18 ⟨a18_1, a18_2, a18_6, a18_7, a18_34, hS18⟩
    clear a12_1 a12_16 a12_2 a12_6 a12_7
    refine wpF_condP a18_34 (fun h34 => ?t24) (fun h34 => ?e24)
    case e24 =>
      refine wpF_skip ?_
      refine wpF_cut (fun f H => f 1 = vr ∧ f 2 = PT g1 0 ∧ f 6 = r5 ∧ f 7 = I ((i : Int) + 1) ∧ H18 = H) ?_ ?_
      · refine wpF_region ?_
        refine wpL_q (U := NoB) rfl (q_move (v := I ((i : Int))) rfl a18_7) ?_
        refine wpL_q (U := NoB) rfl (q_add rfl rfl rfl (by constructor <;> omega)) ?_
        refine wpL_q (U := NoB) rfl (q_assign (v := I ((i : Int) + 1)) rfl rfl) ?_
        exact ⟨a18_1, a18_2, a18_6, rfl, rfl⟩
      rintro f23 _ ⟨a23_1, a23_2, a23_6, a23_7, rfl⟩
      clear a18_1 a18_2 a18_34 a18_6 a18_7
      refine ⟨_, ?_, i + 1, rfl, (by omega), (all_succ hp1 (lost1_no h34)), a23_1, a23_2, a23_6, (Eq.trans a23_7 (congrArg I (by omega))), hS18⟩
      omega
    refine wpF_seq ?_
    obtain ⟨u20, huu20, hlu20⟩ := (Rd.list.1 (hS18.rdS 0 rfl)).elem i (by omega)
    have hS21 : St H0 NoB (fun b => S b ∧ b < H0.size) [rdE u20 (nth (statesL l) i), rdE r5 (statesL l), blkE g1 (.cells #[wa, wb, wc, wd, we] 42), rdE wa l.Low, rdE wb l.High, rdE wc l.Start, rdE wd l.Jumps, rdE we l.Bad, rdE vr r] H18 := hS18.rd huu20
    refine wpF_cut (fun f H => f 4 = u20 ∧ f 5 = B (true) ∧ St H0 NoB (fun b => S b ∧ b < H0.size) [rdE u20 (nth (statesL l) i), blkE g1 (.cells #[wa, wb, wc, wd, we] 42), rdE wa l.Low, rdE wb l.High, rdE wc l.Start, rdE wd l.Jumps, rdE we l.Bad, rdE vr r] H) ?_ ?_
    · refine wpF_region ?_
      refine wpL_q (U := NoB) rfl (q_move (v := r5) rfl a18_6) ?_
      refine wpL_q (U := NoB) rfl (q_move (v := I ((i : Int))) rfl a18_7) ?_
      refine wpL_q (U := NoB) rfl (q_indexRd (k := i) rfl Try.underlying23 el_LInt_32_HoldR1 rfl rfl (hS18.rdl 0 rfl) (by omega) (by omega)) ?_
      refine wpL_q (U := NoB) rfl (q_loadE rfl rfl (hlu20 Try.prog 32 _ el_LInt_32_HoldR1 (fun _ h => False.elim h))) ?_
      refine wpL_q (U := NoB) rfl (q_assign (v := u20) rfl rfl) ?_
      refine wpL_q (U := NoB) rfl (q_assign (v := B (true)) rfl rfl) ?_
      exact ⟨rfl, rfl, (hS21.drop (sk (sn (sk (sk (sk (sk (sk (sk (sk (List.Sublist.slnil)))))))))))⟩
    rintro f22 H22 ⟨a22_4, a22_5, hS22⟩
    clear a18_1 a18_2 a18_34 a18_6 a18_7
    refine wpF_ret ?_
    refine ⟨_, resT a22_4 (resT a22_5 resN), hS22.frame, ?_⟩
    show ∃ w0_, (Value.tuple #[u20, B (true)]) = Value.tuple #[w0_, B ((lostS l r).isSome)] ∧ Rd (fun b => S b ∧ b < H0.size) H22 w0_ ((lostS l r).getD [])
    have hls : lostS l r = _ := lostS_1 (k := i) (by omega) hp1 (by rw [lost1, h34.1]; exact h34.2)
    exact ⟨u20, by rw [hls]; rfl, by rw [hls]; exact (hS22.result (hS22.rdS 0 rfl))⟩
  refine wpF_exit ?_
  refine atX_here ?_
  refine wpF_seq ?_
  refine wpF_seq ?_
  refine wpF_cut (fun f H => f 1 = vr ∧ f 2 = PT g1 0 ∧ f 6 = r5 ∧ f 8 = I (0) ∧ H11 = H) ?_ ?_
  · refine wpF_region ?_
    refine wpL_q (U := NoB) rfl (q_assign (v := I (0)) rfl rfl) ?_
    exact ⟨a12_1, a12_2, a12_6, rfl, rfl⟩
  rintro f25 _ ⟨a25_1, a25_2, a25_6, a25_8, rfl⟩
  clear a12_1 a12_16 a12_2 a12_6 a12_7
  refine wpF_block ?_
  refine wpF_loop (fun mz f H => ∃ (i2 : Nat), mz = (statesL l).length - i2 ∧ (i2 ≤ (statesL l).length) ∧ (∀ j, j < i2 → lost2 l r (nth (statesL l) j) = false) ∧ f 1 = vr ∧ f 2 = PT g1 0 ∧ f 6 = r5 ∧ f 8 = I ((i2 : Int)) ∧ St H0 NoB (fun b => S b ∧ b < H0.size) [rdE r5 (statesL l), blkE g1 (.cells #[wa, wb, wc, wd, we] 42), rdE wa l.Low, rdE wb l.High, rdE wc l.Start, rdE wd l.Jumps, rdE we l.Bad, rdE vr r] H) ((statesL l).length - 0) ?_ ?_
  · exact ⟨0, rfl, Nat.zero_le _, (fun j hj => absurd hj (Nat.not_lt_zero j)), a25_1, a25_2, a25_6, (Eq.trans a25_8 (congrArg I (by omega))), hS11⟩
  intro m26 f26 H26 hI26
  obtain ⟨i2, hm26, hi2, hp2, a26_1, a26_2, a26_6, a26_8, hS26⟩ := hI26
  clear a25_1 a25_2 a25_6 a25_8
  refine wpF_seq ?_
  refine wpF_seq ?_
  refine wpF_cut (fun f H => f 1 = vr ∧ f 2 = PT g1 0 ∧ f 6 = r5 ∧ f 8 = I ((i2 : Int)) ∧ f 42 = B (decide ((i2 : Int) < ((statesL l).length : Int))) ∧ H26 = H) ?_ ?_
  · refine wpF_region ?_
    refine wpL_q (U := NoB) rfl (q_move (v := I ((i2 : Int))) rfl a26_8) ?_
    refine wpL_q (U := NoB) rfl (q_move (v := r5) rfl a26_6) ?_
    refine wpL_q (U := NoB) rfl (q_lenRd rfl Try.underlying23 rfl (hS26.rdl 0 rfl)) ?_
    refine wpL_q (U := NoB) rfl (q_lss rfl rfl rfl) ?_
    exact ⟨a26_1, a26_2, a26_6, a26_8, rfl, rfl⟩
  rintro f27 _ ⟨a27_1, a27_2, a27_6, a27_8, a27_42, rfl⟩
  clear a26_1 a26_2 a26_6 a26_8
  refine wpF_condP a27_42 (fun hlt2 => ?t59) (fun hlt2 => ?e59)
  case e59 =>
    refine wpF_exit ?_
    refine atX_here ?_
    refine wpF_seq ?_
    refine wpF_cut (fun f H => f 4 = (Value.slice none 0 0) ∧ f 5 = B (false) ∧ H26 = H) ?_ ?_
    · refine wpF_region ?_
      refine wpL_q (U := NoB) rfl (q_assign (v := (Value.slice none 0 0)) rfl rfl) ?_
      refine wpL_q (U := NoB) rfl (q_assign (v := B (false)) rfl rfl) ?_
      exact ⟨rfl, rfl, rfl⟩
    rintro f58 _ ⟨a58_4, a58_5, rfl⟩
    clear a27_1 a27_2 a27_42 a27_6 a27_8
    refine wpF_ret ?_
    refine ⟨_, resT a58_4 (resT a58_5 resN), hS26.frame, ?_⟩
    show ∃ w0_, (Value.tuple #[(Value.slice none 0 0), B (false)]) = Value.tuple #[w0_, B ((lostS l r).isSome)] ∧ Rd (fun b => S b ∧ b < H0.size) H26 w0_ ((lostS l r).getD [])
    have hls : lostS l r = _ := lostS_no (fun j hj => hp1 j (by omega)) (fun j hj => hp2 j (by omega))
    exact ⟨(Value.slice none 0 0), by rw [hls]; rfl, by rw [hls]; exact rdNil⟩
  have hst := state_st hl (i := i2) (by omega)
  have hnl : (nextL l (nth (statesL l) i2)).length ≤ 6 := Nat.le_trans (nextTo_len _) hl.jumps
  refine wpF_skip ?_
  refine wpF_seq ?_
  refine wpF_block ?_
  refine wpF_seq ?_
  refine wpF_seq ?_
  obtain ⟨u29, huu29, hlu29⟩ := (Rd.list.1 (hS26.rdS 0 rfl)).elem i2 (by omega)
  have hS30 : St H0 NoB (fun b => S b ∧ b < H0.size) [rdE u29 (nth (statesL l) i2), rdE r5 (statesL l), blkE g1 (.cells #[wa, wb, wc, wd, we] 42), rdE wa l.Low, rdE wb l.High, rdE wc l.Start, rdE wd l.Jumps, rdE we l.Bad, rdE vr r] H26 := hS26.rd huu29
  refine wpF_cut (fun f H => f 1 = vr ∧ f 2 = PT g1 0 ∧ f 6 = r5 ∧ f 8 = I ((i2 : Int)) ∧ f 51 = B (!(holdB r (nth (statesL l) i2))) ∧ St H0 NoB (fun b => S b ∧ b < H0.size) [rdE r5 (statesL l), blkE g1 (.cells #[wa, wb, wc, wd, we] 42), rdE wa l.Low, rdE wb l.High, rdE wc l.Start, rdE wd l.Jumps, rdE we l.Bad, rdE vr r] H) ?_ ?_
  · refine wpF_region ?_
    refine wpL_q (U := NoB) rfl (q_move (v := vr) rfl a27_1) ?_
    refine wpL_q (U := NoB) rfl (q_move (v := r5) rfl a27_6) ?_
    refine wpL_q (U := NoB) rfl (q_move (v := I ((i2 : Int))) rfl a27_8) ?_
    refine wpL_q (U := NoB) rfl (q_indexRd (k := i2) rfl Try.underlying23 el_LInt_32_HoldR1 rfl rfl (hS26.rdl 0 rfl) (by omega) (by omega)) ?_
    refine wpL_q (U := NoB) rfl (q_loadE rfl rfl (hlu29 Try.prog 32 _ el_LInt_32_HoldR1 (fun _ h => False.elim h))) ?_
    refine wpL_o rfl ?_
    refine e_call rfl Try.call33 (arr2 (v0 := vr) (v1 := u29) rfl rfl) (Hold_R vr u29 r (nth (statesL l) i2) (hS30.rdN 8 rfl) (hS30.rdN 0 rfl) (holdok_st hl hrz hst)) ?_
    rintro _ H31 ⟨hxx, rfl⟩
    have hS32 : St H0 NoB (fun b => S b ∧ b < H0.size) [rdE u29 (nth (statesL l) i2), rdE r5 (statesL l), blkE g1 (.cells #[wa, wb, wc, wd, we] 42), rdE wa l.Low, rdE wb l.High, rdE wc l.Start, rdE wd l.Jumps, rdE we l.Bad, rdE vr r] H31 := hS30.ext hxx
    refine wpL_q (U := NoB) rfl (q_not rfl rfl) ?_
    exact ⟨a27_1, a27_2, a27_6, a27_8, rfl, (hS32.drop (sn (sk (sk (sk (sk (sk (sk (sk (sk (List.Sublist.slnil)))))))))))⟩
  rintro f34 H34 ⟨a34_1, a34_2, a34_6, a34_8, a34_51, hS34⟩
  clear a27_1 a27_2 a27_42 a27_6 a27_8
  refine wpF_cond a34_51 (fun h51 => ?t57) (fun h51 => ?e57)
  case t57 =>
    have hno2 : lost2 l r (nth (statesL l) i2) = false := by rw [lost2, show holdB r (nth (statesL l) i2) = false by simpa using h51]; rfl
    refine wpF_exit ?_
    refine atX_here ?_
    refine wpF_cut (fun f H => f 1 = vr ∧ f 2 = PT g1 0 ∧ f 6 = r5 ∧ f 8 = I ((i2 : Int) + 1) ∧ H34 = H) ?_ ?_
    · refine wpF_region ?_
      refine wpL_q (U := NoB) rfl (q_move (v := I ((i2 : Int))) rfl a34_8) ?_
      refine wpL_q (U := NoB) rfl (q_add rfl rfl rfl (by constructor <;> omega)) ?_
      refine wpL_q (U := NoB) rfl (q_assign (v := I ((i2 : Int) + 1)) rfl rfl) ?_
      exact ⟨a34_1, a34_2, a34_6, rfl, rfl⟩
    rintro f36 _ ⟨a36_1, a36_2, a36_6, a36_8, rfl⟩
    clear a34_1 a34_2 a34_51 a34_6 a34_8
    refine ⟨_, ?_, i2 + 1, rfl, (by omega), (all_succ hp2 hno2), a36_1, a36_2, a36_6, (Eq.trans a36_8 (congrArg I (by omega))), hS34⟩
    omega
  refine wpF_skip ?_
  refine wpF_seq ?_
  obtain ⟨u37o4, huu37o4, hlu37o4⟩ := (Rd.list.1 (hS34.rdS 0 rfl)).elem i2 (by omega)
  have hS37o4 : St H0 NoB (fun b => S b ∧ b < H0.size) [rdE u37o4 (nth (statesL l) i2), rdE r5 (statesL l), blkE g1 (.cells #[wa, wb, wc, wd, we] 42), rdE wa l.Low, rdE wb l.High, rdE wc l.Start, rdE wd l.Jumps, rdE we l.Bad, rdE vr r] H34 := hS34.rd huu37o4
  refine wpF_cut (fun f H => ∃ (r37o5 : Value), f 1 = vr ∧ f 2 = PT g1 0 ∧ f 6 = r5 ∧ f 8 = I ((i2 : Int)) ∧ f 9 = r37o5 ∧ St H0 NoB (fun b => S b ∧ b < H0.size) [rdE r37o5 (nextL l (nth (statesL l) i2)), rdE r5 (statesL l), blkE g1 (.cells #[wa, wb, wc, wd, we] 42), rdE wa l.Low, rdE wb l.High, rdE wc l.Start, rdE wd l.Jumps, rdE we l.Bad, rdE vr r] H) ?_ ?_
  · refine wpF_drawn [] [] (fun _ _ => False) (by kernel_rfl) (by kernel_rfl) ?_
    refine wpR_q 0 (by kernel_rfl) rfl (quietAt rfl rfl (q_loadBlkA rfl a34_2 Try.isAgg42 Try.sizeOf42 rfl (hS34.blk 1 rfl) (labU_not [] rfl (List.forall_mem_nil _)))) ?_
    refine wpR_q 1 (by kernel_rfl) rfl (quietAt rfl rfl (q_move (v := r5) rfl a34_6)) ?_
    refine wpR_q 2 (by kernel_rfl) rfl (quietAt rfl rfl (q_move (v := I ((i2 : Int))) rfl a34_8)) ?_
    refine wpR_q 3 (by kernel_rfl) rfl (quietAt rfl rfl (q_indexRd (k := i2) rfl Try.underlying23 el_LInt_32_HoldR1 rfl rfl (hS34.rdl 0 rfl) (by omega) (by omega))) ?_
    refine wpR_q 4 (by kernel_rfl) rfl (quietAt rfl rfl (q_loadE rfl rfl (hlu37o4 Try.prog 32 _ el_LInt_32_HoldR1 (labU_sub [] rfl (List.forall_mem_nil _))))) ?_
    refine wpR_n [5] (by kernel_rfl) ?_
    refine List.forall_mem_cons.2 ⟨?_, List.forall_mem_nil _⟩
    refine exE rfl rfl ?_
    refine e_call rfl Try.call31 (arr2 (v0 := Value.agg #[wa, wb, wc, wd, we]) (v1 := u37o4) rfl rfl) (Next_R wa wb wc wd we u37o4 l (nth (statesL l) i2) (hS37o4.rdS 3 rfl) (hS37o4.rdS 4 rfl) (hS37o4.rdS 5 rfl) (hS37o4.rdS 6 rfl) (hS37o4.rdS 7 rfl) (hS37o4.rdS 0 rfl) hl hst.1 (inside_small hl hst.1 hst.2)) ?_
    rintro r37o5 H37o5 ⟨hxx, hrr37o5⟩
    have hS37o5 : St H0 NoB (fun b => S b ∧ b < H0.size) [rdE r37o5 (nextL l (nth (statesL l) i2)), rdE u37o4 (nth (statesL l) i2), rdE r5 (statesL l), blkE g1 (.cells #[wa, wb, wc, wd, we] 42), rdE wa l.Low, rdE wb l.High, rdE wc l.Start, rdE wd l.Jumps, rdE we l.Bad, rdE vr r] H37o5 := hS37o4.res hxx hrr37o5
    refine ⟨Ext.mono hxx (fun _ h => h.elim), ?_⟩
    refine wpR_q 6 (by kernel_rfl) rfl (quietAt rfl rfl (q_assign (v := r37o5) rfl rfl)) ?_
    refine wpR_end (by kernel_rfl) ?_
    exact ⟨r37o5, a34_1, a34_2, a34_6, a34_8, rfl, (hS37o5.drop (sk (sn (sk (sk (sk (sk (sk (sk (sk (sk (List.Sublist.slnil))))))))))))⟩
  rintro f38 H38 ⟨r37o5, a38_1, a38_2, a38_6, a38_8, a38_9, hS38⟩
  clear a34_1 a34_2 a34_51 a34_6 a34_8
  refine wpF_seq ?_
  refine wpF_cut (fun f H => f 1 = vr ∧ f 2 = PT g1 0 ∧ f 6 = r5 ∧ f 8 = I ((i2 : Int)) ∧ f 9 = r37o5 ∧ f 10 = I (0) ∧ H38 = H) ?_ ?_
  · refine wpF_region ?_
    refine wpL_q (U := NoB) rfl (q_assign (v := I (0)) rfl rfl) ?_
    exact ⟨a38_1, a38_2, a38_6, a38_8, a38_9, rfl, rfl⟩
  rintro f39 _ ⟨a39_1, a39_2, a39_6, a39_8, a39_9, a39_10, rfl⟩
  clear a38_1 a38_2 a38_6 a38_8 a38_9
  refine wpF_block ?_
  refine wpF_loop (fun mz f H => ∃ (k : Nat), mz = (nextL l (nth (statesL l) i2)).length - k ∧ (k ≤ (nextL l (nth (statesL l) i2)).length) ∧ (∀ j, j < k → holdB r (nth (nextL l (nth (statesL l) i2)) j) = true) ∧ f 1 = vr ∧ f 2 = PT g1 0 ∧ f 6 = r5 ∧ f 8 = I ((i2 : Int)) ∧ f 9 = r37o5 ∧ f 10 = I ((k : Int)) ∧ St H0 NoB (fun b => S b ∧ b < H0.size) [rdE r37o5 (nextL l (nth (statesL l) i2)), rdE r5 (statesL l), blkE g1 (.cells #[wa, wb, wc, wd, we] 42), rdE wa l.Low, rdE wb l.High, rdE wc l.Start, rdE wd l.Jumps, rdE we l.Bad, rdE vr r] H) ((nextL l (nth (statesL l) i2)).length - 0) ?_ ?_
  · exact ⟨0, rfl, Nat.zero_le _, (fun j hj => absurd hj (Nat.not_lt_zero j)), a39_1, a39_2, a39_6, a39_8, a39_9, (Eq.trans a39_10 (congrArg I (by omega))), hS38⟩
  intro m40 f40 H40 hI40
  obtain ⟨k, hm40, hk, hq, a40_1, a40_2, a40_6, a40_8, a40_9, a40_10, hS40⟩ := hI40
  clear a39_1 a39_10 a39_2 a39_6 a39_8 a39_9
  refine wpF_seq ?_
  refine wpF_seq ?_
  refine wpF_cut (fun f H => f 1 = vr ∧ f 2 = PT g1 0 ∧ f 6 = r5 ∧ f 8 = I ((i2 : Int)) ∧ f 9 = r37o5 ∧ f 10 = I ((k : Int)) ∧ f 61 = B (decide ((k : Int) < ((nextL l (nth (statesL l) i2)).length : Int))) ∧ H40 = H) ?_ ?_
  · refine wpF_region ?_
    refine wpL_q (U := NoB) rfl (q_move (v := I ((k : Int))) rfl a40_10) ?_
    refine wpL_q (U := NoB) rfl (q_move (v := r37o5) rfl a40_9) ?_
    refine wpL_q (U := NoB) rfl (q_lenRd rfl Try.underlying23 rfl (hS40.rdl 0 rfl)) ?_
    refine wpL_q (U := NoB) rfl (q_lss rfl rfl rfl) ?_
    exact ⟨a40_1, a40_2, a40_6, a40_8, a40_9, a40_10, rfl, rfl⟩
  rintro f41 _ ⟨a41_1, a41_2, a41_6, a41_8, a41_9, a41_10, a41_61, rfl⟩
  clear a40_1 a40_10 a40_2 a40_6 a40_8 a40_9
  refine wpF_condP a41_61 (fun hltk => ?t56) (fun hltk => ?e56)
  case e56 =>
    have hno2 : lost2 l r (nth (statesL l) i2) = false := lost2_none (fun j hj => hq j (by omega))
    refine wpF_exit ?_
    refine atX_here ?_
    refine wpF_cut (fun f H => f 1 = vr ∧ f 2 = PT g1 0 ∧ f 6 = r5 ∧ f 8 = I ((i2 : Int) + 1) ∧ H40 = H) ?_ ?_
    · refine wpF_region ?_
      refine wpL_q (U := NoB) rfl (q_move (v := I ((i2 : Int))) rfl a41_8) ?_
      refine wpL_q (U := NoB) rfl (q_add rfl rfl rfl (by constructor <;> omega)) ?_
      refine wpL_q (U := NoB) rfl (q_assign (v := I ((i2 : Int) + 1)) rfl rfl) ?_
      exact ⟨a41_1, a41_2, a41_6, rfl, rfl⟩
    rintro f55 _ ⟨a55_1, a55_2, a55_6, a55_8, rfl⟩
    clear a41_1 a41_10 a41_2 a41_6 a41_61 a41_8 a41_9
    refine ⟨_, ?_, i2 + 1, rfl, (by omega), (all_succ hp2 hno2), a55_1, a55_2, a55_6, (Eq.trans a55_8 (congrArg I (by omega))), (hS40.drop (sn (sk (sk (sk (sk (sk (sk (sk (sk (List.Sublist.slnil)))))))))))⟩
    omega
  refine wpF_skip ?_
  refine wpF_seq ?_
  refine wpF_block ?_
  refine wpF_seq ?_
  obtain ⟨u43, huu43, hlu43⟩ := (Rd.list.1 (hS40.rdS 0 rfl)).elem k (by omega)
  have hS44 : St H0 NoB (fun b => S b ∧ b < H0.size) [rdE u43 (nth (nextL l (nth (statesL l) i2)) k), rdE r37o5 (nextL l (nth (statesL l) i2)), rdE r5 (statesL l), blkE g1 (.cells #[wa, wb, wc, wd, we] 42), rdE wa l.Low, rdE wb l.High, rdE wc l.Start, rdE wd l.Jumps, rdE we l.Bad, rdE vr r] H40 := hS40.rd huu43
  refine wpF_cut (fun f H => f 1 = vr ∧ f 2 = PT g1 0 ∧ f 6 = r5 ∧ f 8 = I ((i2 : Int)) ∧ f 9 = r37o5 ∧ f 10 = I ((k : Int)) ∧ f 70 = B (!(holdB r (nth (nextL l (nth (statesL l) i2)) k))) ∧ St H0 NoB (fun b => S b ∧ b < H0.size) [rdE r37o5 (nextL l (nth (statesL l) i2)), rdE r5 (statesL l), blkE g1 (.cells #[wa, wb, wc, wd, we] 42), rdE wa l.Low, rdE wb l.High, rdE wc l.Start, rdE wd l.Jumps, rdE we l.Bad, rdE vr r] H) ?_ ?_
  · refine wpF_region ?_
    refine wpL_q (U := NoB) rfl (q_move (v := vr) rfl a41_1) ?_
    refine wpL_q (U := NoB) rfl (q_move (v := r37o5) rfl a41_9) ?_
    refine wpL_q (U := NoB) rfl (q_move (v := I ((k : Int))) rfl a41_10) ?_
    refine wpL_q (U := NoB) rfl (q_indexRd (k := k) rfl Try.underlying23 el_LInt_32_HoldR1 rfl rfl (hS40.rdl 0 rfl) (by omega) (by omega)) ?_
    refine wpL_q (U := NoB) rfl (q_loadE rfl rfl (hlu43 Try.prog 32 _ el_LInt_32_HoldR1 (fun _ h => False.elim h))) ?_
    refine wpL_o rfl ?_
    refine e_call rfl Try.call33 (arr2 (v0 := vr) (v1 := u43) rfl rfl) (Hold_R vr u43 r (nth (nextL l (nth (statesL l) i2)) k) (hS44.rdN 9 rfl) (hS44.rdN 0 rfl) (holdok_st hl hrz (next_st hl (nth_mem (by omega))))) ?_
    rintro _ H45 ⟨hxx, rfl⟩
    have hS46 : St H0 NoB (fun b => S b ∧ b < H0.size) [rdE u43 (nth (nextL l (nth (statesL l) i2)) k), rdE r37o5 (nextL l (nth (statesL l) i2)), rdE r5 (statesL l), blkE g1 (.cells #[wa, wb, wc, wd, we] 42), rdE wa l.Low, rdE wb l.High, rdE wc l.Start, rdE wd l.Jumps, rdE we l.Bad, rdE vr r] H45 := hS44.ext hxx
    refine wpL_q (U := NoB) rfl (q_not rfl rfl) ?_
    exact ⟨a41_1, a41_2, a41_6, a41_8, a41_9, a41_10, rfl, (hS46.drop (sn (sk (sk (sk (sk (sk (sk (sk (sk (sk (List.Sublist.slnil))))))))))))⟩
  rintro f48 H48 ⟨a48_1, a48_2, a48_6, a48_8, a48_9, a48_10, a48_70, hS48⟩
  clear a41_1 a41_10 a41_2 a41_6 a41_61 a41_8 a41_9
  refine wpF_cond a48_70 (fun h70 => ?t54) (fun h70 => ?e54)
  case e54 =>
    refine wpF_skip ?_
    refine wpF_cut (fun f H => f 1 = vr ∧ f 2 = PT g1 0 ∧ f 6 = r5 ∧ f 8 = I ((i2 : Int)) ∧ f 9 = r37o5 ∧ f 10 = I ((k : Int) + 1) ∧ H48 = H) ?_ ?_
    · refine wpF_region ?_
      refine wpL_q (U := NoB) rfl (q_move (v := I ((k : Int))) rfl a48_10) ?_
      refine wpL_q (U := NoB) rfl (q_add rfl rfl rfl (by constructor <;> omega)) ?_
      refine wpL_q (U := NoB) rfl (q_assign (v := I ((k : Int) + 1)) rfl rfl) ?_
      exact ⟨a48_1, a48_2, a48_6, a48_8, a48_9, rfl, rfl⟩
    rintro f53 _ ⟨a53_1, a53_2, a53_6, a53_8, a53_9, a53_10, rfl⟩
    clear a48_1 a48_10 a48_2 a48_6 a48_70 a48_8 a48_9
    refine ⟨_, ?_, k + 1, rfl, (by omega), (all_succ hq (by simpa using h70)), a53_1, a53_2, a53_6, a53_8, a53_9, (Eq.trans a53_10 (congrArg I (by omega))), hS48⟩
    omega
  refine wpF_seq ?_
  obtain ⟨u50, huu50, hlu50⟩ := (Rd.list.1 (hS48.rdS 1 rfl)).elem i2 (by omega)
  have hS51 : St H0 NoB (fun b => S b ∧ b < H0.size) [rdE u50 (nth (statesL l) i2), rdE r37o5 (nextL l (nth (statesL l) i2)), rdE r5 (statesL l), blkE g1 (.cells #[wa, wb, wc, wd, we] 42), rdE wa l.Low, rdE wb l.High, rdE wc l.Start, rdE wd l.Jumps, rdE we l.Bad, rdE vr r] H48 := hS48.rd huu50
  refine wpF_cut (fun f H => f 4 = u50 ∧ f 5 = B (true) ∧ St H0 NoB (fun b => S b ∧ b < H0.size) [rdE u50 (nth (statesL l) i2), blkE g1 (.cells #[wa, wb, wc, wd, we] 42), rdE wa l.Low, rdE wb l.High, rdE wc l.Start, rdE wd l.Jumps, rdE we l.Bad, rdE vr r] H) ?_ ?_
  · refine wpF_region ?_
    refine wpL_q (U := NoB) rfl (q_move (v := r5) rfl a48_6) ?_
    refine wpL_q (U := NoB) rfl (q_move (v := I ((i2 : Int))) rfl a48_8) ?_
    refine wpL_q (U := NoB) rfl (q_indexRd (k := i2) rfl Try.underlying23 el_LInt_32_HoldR1 rfl rfl (hS48.rdl 1 rfl) (by omega) (by omega)) ?_
    refine wpL_q (U := NoB) rfl (q_loadE rfl rfl (hlu50 Try.prog 32 _ el_LInt_32_HoldR1 (fun _ h => False.elim h))) ?_
    refine wpL_q (U := NoB) rfl (q_assign (v := u50) rfl rfl) ?_
    refine wpL_q (U := NoB) rfl (q_assign (v := B (true)) rfl rfl) ?_
    exact ⟨rfl, rfl, (hS51.drop (sk (sn (sn (sk (sk (sk (sk (sk (sk (sk (List.Sublist.slnil))))))))))))⟩
  rintro f52 H52 ⟨a52_4, a52_5, hS52⟩
  clear a48_1 a48_10 a48_2 a48_6 a48_70 a48_8 a48_9
  refine wpF_ret ?_
  refine ⟨_, resT a52_4 (resT a52_5 resN), hS52.frame, ?_⟩
  show ∃ w0_, (Value.tuple #[u50, B (true)]) = Value.tuple #[w0_, B ((lostS l r).isSome)] ∧ Rd (fun b => S b ∧ b < H0.size) H52 w0_ ((lostS l r).getD [])
  have hls : lostS l r = _ := lostS_2 (k := i2) (fun j hj => hp1 j (by omega)) (by omega) hp2 (lost2_yes (by simpa using h51) (k := k) (by omega) h70)
  exact ⟨u50, by rw [hls]; rfl, by rw [hls]; exact (hS52.result (hS52.rdS 0 rfl))⟩

end Go.Um
