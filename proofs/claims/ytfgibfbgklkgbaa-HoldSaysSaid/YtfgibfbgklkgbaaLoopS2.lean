import Derived.Test.YtfgibfbgklkgbaaProg
import Derived.Test.YtfgibfbgklkgbaaLoopS1
import Derived.Test.YtfgibfbgklkgbaaUmSub
namespace Go.Um
open Go.Proofs
open GoT (sz ag rdc)
open KeyT (kv)

theorem el_Int_3_LoopS2 : ElT Try.prog Int 3 := ⟨Try.isAgg3, Try.sizeOf3⟩
theorem el_LInt_32_LoopS2 : ElT Try.prog (List Int) 32 := ⟨Try.isAgg32, Try.sizeOf32⟩

set_option maxRecDepth 100000 in
theorem State_L {H0 : Heap} (wa wb wc wd we vs : Value) (l : Loop) (s : List Int) (rwa : Rd NoB H0 wa l.Low) (rwb : Rd NoB H0 wb l.High) (rwc : Rd NoB H0 wc l.Start) (rwd : Rd NoB H0 wd l.Jumps) (rwe : Rd NoB H0 we l.Bad) (rs : Rd NoB H0 vs s) (hn1 : s.length ≤ l.Low.length) (hn2 : s.length ≤ l.High.length) : CallsH Try.prog 64 #[Value.agg #[wa, wb, wc, wd, we], vs] H0 (fun rv_ H' => Ext NoB H0 H' ∧ rv_ = B (insideB l s)) := by
  have hs1 := (Rd.list.1 rwa).small
  have hs2 := (Rd.list.1 rwb).small
  have hs4 := (Rd.list.1 rwd).small
  have hss := (Rd.list.1 rs).small
  have hS0 : St H0 NoB NoB [rdE wa l.Low, rdE wb l.High, rdE wc l.Start, rdE wd l.Jumps, rdE we l.Bad, rdE vs s] H0 := St.arg (St.arg (St.arg (St.arg (St.arg (St.arg (St.start (fun _ h => h.elim)) (Bl0.nil) rs (fun _ h => h)) (Bl0.cons (Bl0.nil)) rwe (fun _ h => h)) (Bl0.cons (Bl0.cons (Bl0.nil))) rwd (fun _ h => h)) (Bl0.cons (Bl0.cons (Bl0.cons (Bl0.nil)))) rwc (fun _ h => h)) (Bl0.cons (Bl0.cons (Bl0.cons (Bl0.cons (Bl0.nil))))) rwb (fun _ h => h)) (Bl0.cons (Bl0.cons (Bl0.cons (Bl0.cons (Bl0.cons (Bl0.nil)))))) rwa (fun _ h => h)
  refine callsH_of_wpF (args := [Value.agg #[wa, wb, wc, wd, we], vs]) (rs := [.tmp 4]) Try.func64 rfl Try.ntmps64 Try.results64 (by kernel_rfl) (Nat.le_of_ble_eq_true rfl) ?_
  have a0_0 : argF [Value.agg #[wa, wb, wc, wd, we], vs] 0 = Value.agg #[wa, wb, wc, wd, we] := rfl
  have a0_1 : argF [Value.agg #[wa, wb, wc, wd, we], vs] 1 = vs := rfl
  generalize argF [Value.agg #[wa, wb, wc, wd, we], vs] = f0 at *
  refine wpF_seq ?_
  refine wpF_cut (fun f H => ∃ (g1 : Nat), f 1 = vs ∧ f 2 = PT g1 0 ∧ St H0 NoB NoB [blkE g1 (.cells #[wa, wb, wc, wd, we] 42), rdE wa l.Low, rdE wb l.High, rdE wc l.Start, rdE wd l.Jumps, rdE we l.Bad, rdE vs s] H) ?_ ?_
  · refine wpF_region ?_
    refine wpL_o rfl ?_
    refine e_box (v := Value.agg #[wa, wb, wc, wd, we]) rfl a0_0 hS0 (fun g1 H2 hS3 hxx => ?_)
    replace hS3 : St H0 NoB NoB [blkE g1 (.cells #[wa, wb, wc, wd, we] 42), rdE wa l.Low, rdE wb l.High, rdE wc l.Start, rdE wd l.Jumps, rdE we l.Bad, rdE vs s] H2 := hS3
    refine wpL_q (U := NoB) rfl (q_assign (v := B (false)) rfl rfl) ?_
    exact ⟨g1, a0_1, rfl, hS3⟩
  rintro f4 H4 ⟨g1, a4_1, a4_2, hS4⟩
  clear a0_0 a0_1
  refine wpF_seq ?_
  refine wpF_seq ?_
  refine wpF_cut (fun f H => f 2 = PT g1 0 ∧ f 7 = vs ∧ f 8 = I ((s.length : Int)) ∧ f 9 = I (0) ∧ H4 = H) ?_ ?_
  · refine wpF_region ?_
    refine wpL_q (U := NoB) rfl (q_move (v := vs) rfl a4_1) ?_
    refine wpL_q (U := NoB) rfl (q_lenRd rfl Try.underlying32 rfl (hS4.rdl 6 rfl)) ?_
    refine wpL_q (U := NoB) rfl (q_move (v := I (0)) rfl rfl) ?_
    exact ⟨a4_2, rfl, rfl, rfl, rfl⟩
  rintro f5 _ ⟨a5_2, a5_7, a5_8, a5_9, rfl⟩
  clear a4_1 a4_2
  refine wpF_block ?_
  refine wpF_loop (fun mz f H => ∃ (k : Nat), mz = s.length - k ∧ (k ≤ s.length) ∧ (∀ j, j < k → nth l.Low j ≤ nth s j ∧ nth s j ≤ nth l.High j) ∧ f 2 = PT g1 0 ∧ f 7 = vs ∧ f 8 = I ((s.length : Int)) ∧ f 9 = I ((k : Int)) ∧ St H0 NoB NoB [blkE g1 (.cells #[wa, wb, wc, wd, we] 42), rdE wa l.Low, rdE wb l.High, rdE wc l.Start, rdE wd l.Jumps, rdE we l.Bad, rdE vs s] H) (s.length - 0) ?_ ?_
  · exact ⟨0, rfl, Nat.zero_le _, (fun j hj => absurd hj (Nat.not_lt_zero j)), a5_2, a5_7, a5_8, (Eq.trans a5_9 (congrArg I (by omega))), hS4⟩
  intro m6 f6 H6 hI6
  obtain ⟨k, hm6, hk, hp, a6_2, a6_7, a6_8, a6_9, hS6⟩ := hI6
  clear a5_2 a5_7 a5_8 a5_9
  refine wpF_seq ?_
  refine wpF_cut (fun f H => f 2 = PT g1 0 ∧ f 7 = vs ∧ f 8 = I ((s.length : Int)) ∧ f 9 = I ((k : Int)) ∧ f 10 = B (decide ((k : Int) < (s.length : Int))) ∧ H6 = H) ?_ ?_
  · refine wpF_region ?_
    refine wpL_q (U := NoB) rfl (q_lss rfl a6_9 a6_8) ?_
    exact ⟨a6_2, a6_7, a6_8, a6_9, rfl, rfl⟩
  rintro f7 _ ⟨a7_2, a7_7, a7_8, a7_9, a7_10, rfl⟩
  clear a6_2 a6_7 a6_8 a6_9
  refine wpF_seq ?_
  refine wpF_condP a7_10 (fun hlt => ?t19) (fun hlt => ?e19)
  case e19 =>
    refine wpF_exit ?_
    refine atX_here ?_
    refine wpF_seq ?_
    refine wpF_cut (fun f H => f 4 = B (true) ∧ H6 = H) ?_ ?_
    · refine wpF_region ?_
      refine wpL_q (U := NoB) rfl (q_assign (v := B (true)) rfl rfl) ?_
      exact ⟨rfl, rfl⟩
    rintro f18 _ ⟨a18_4, rfl⟩
    clear a7_10 a7_2 a7_7 a7_8 a7_9
    refine wpF_ret ?_
    refine ⟨_, resT a18_4 resN, hS6.frame, ?_⟩
    show (B (true)) = B (insideB l s)
    exact congrArg B (decide_eq_true (fun j hj => hp j (by omega))).symm
  refine wpF_skip ?_
  refine wpF_seq ?_
  refine wpF_block ?_
  refine wpF_seq ?_
  refine wpF_cut (fun f H => f 2 = PT g1 0 ∧ f 5 = I ((k : Int)) ∧ f 6 = I (nth s k) ∧ f 7 = vs ∧ f 8 = I ((s.length : Int)) ∧ f 9 = I ((k : Int)) ∧ H6 = H) ?_ ?_
  · refine wpF_region ?_
    refine wpL_q (U := NoB) rfl (q_move (v := I ((k : Int))) rfl a7_9) ?_
    refine wpL_q (U := NoB) rfl (q_indexRd (k := k) rfl Try.underlying32 el_Int_3_LoopS2 a7_7 a7_9 (hS6.rdl 6 rfl) (by omega) (by omega)) ?_
    refine wpL_q (U := NoB) rfl (q_loadInt (k := k) rfl rfl el_Int_3_LoopS2 (hS6.rdl 6 rfl) (by omega) (fun _ h => h)) ?_
    refine wpL_q (U := NoB) rfl (q_assign (v := I ((k : Int))) rfl rfl) ?_
    refine wpL_q (U := NoB) rfl (q_assign (v := I (nth s k)) rfl rfl) ?_
    exact ⟨a7_2, rfl, rfl, a7_7, a7_8, a7_9, rfl⟩
  rintro f9 _ ⟨a9_2, a9_5, a9_6, a9_7, a9_8, a9_9, rfl⟩
  clear a7_10 a7_2 a7_7 a7_8 a7_9
  refine wpF_seq ?_
  refine wpF_cut (fun f H => f 2 = PT g1 0 ∧ f 7 = vs ∧ f 8 = I ((s.length : Int)) ∧ f 9 = I ((k : Int)) ∧ f 29 = B (decide (((nth s k) < (nth l.Low k)) ∨ ((nth l.High k) < (nth s k)))) ∧ H6 = H) ?_ ?_
  · refine wpF_region ?_
    refine wpL_q (U := NoB) rfl (q_move (v := I (nth s k)) rfl a9_6) ?_
    refine wpL_q (U := NoB) rfl (q_fieldAddr rfl Try.underlying42 rfl Try.sizeOf32 a9_2) ?_
    refine wpL_q (U := NoB) rfl (q_loadBlk rfl rfl Try.isAgg32 (hS6.blk 0 rfl) rfl (fun h => h)) ?_
    refine wpL_q (U := NoB) rfl (q_move (v := I ((k : Int))) rfl a9_5) ?_
    refine wpL_q (U := NoB) rfl (q_indexRd (k := k) rfl Try.underlying32 el_Int_3_LoopS2 rfl rfl (hS6.rdl 1 rfl) (by omega) (by omega)) ?_
    refine wpL_q (U := NoB) rfl (q_loadInt (k := k) rfl rfl el_Int_3_LoopS2 (hS6.rdl 1 rfl) (by omega) (fun _ h => h)) ?_
    refine wpL_q (U := NoB) rfl (q_lss rfl rfl rfl) ?_
    refine wpL_q (U := NoB) rfl (q_move (v := B (decide ((nth s k) < (nth l.Low k)))) rfl rfl) ?_
    by_cases hg10 : (nth s k) < (nth l.Low k)
    · have hb11 := Eq.trans rfl (congrArg B (decide_eq_true hg10))
      refine wpL_gs rfl rfl rfl hb11 rfl ?_
      refine wpL_gs rfl rfl rfl hb11 rfl ?_
      refine wpL_gs rfl rfl rfl hb11 rfl ?_
      refine wpL_gs rfl rfl rfl hb11 rfl ?_
      refine wpL_gs rfl rfl rfl hb11 rfl ?_
      refine wpL_gs rfl rfl rfl hb11 rfl ?_
      refine wpL_gs rfl rfl rfl hb11 rfl ?_
      refine wpL_q (U := NoB) rfl (q_pickT (v := B (true)) rfl hb11 rfl) ?_
      exact ⟨a9_2, a9_7, a9_8, a9_9, (Eq.trans rfl (congrArg B ((decide_eq_true (Or.inl hg10)).symm))), rfl⟩
    · have hb12 := Eq.trans rfl (congrArg B (decide_eq_false hg10))
      refine wpL_gq (U := NoB) rfl rfl rfl hb12 (q_move (v := I (nth s k)) rfl a9_6) ?_
      refine wpL_gq (U := NoB) rfl rfl rfl hb12 (q_fieldAddr rfl Try.underlying42 rfl Try.sizeOf32 a9_2) ?_
      refine wpL_gq (U := NoB) rfl rfl rfl hb12 (q_loadBlk rfl rfl Try.isAgg32 (hS6.blk 0 rfl) rfl (fun h => h)) ?_
      refine wpL_gq (U := NoB) rfl rfl rfl hb12 (q_move (v := I ((k : Int))) rfl a9_5) ?_
      refine wpL_gq (U := NoB) rfl rfl rfl hb12 (q_indexRd (k := k) rfl Try.underlying32 el_Int_3_LoopS2 rfl rfl (hS6.rdl 2 rfl) (by omega) (by omega)) ?_
      refine wpL_gq (U := NoB) rfl rfl rfl hb12 (q_loadInt (k := k) rfl rfl el_Int_3_LoopS2 (hS6.rdl 2 rfl) (by omega) (fun _ h => h)) ?_
      refine wpL_gq (U := NoB) rfl rfl rfl hb12 (q_gtr rfl rfl rfl) ?_
      refine wpL_q (U := NoB) rfl (q_pickF (v := B (decide ((nth l.High k) < (nth s k)))) rfl hb12 rfl) ?_
      exact ⟨a9_2, a9_7, a9_8, a9_9, (Eq.trans rfl (congrArg B (decide_congr_of ((Iff.rfl).trans (((or_iff_right hg10).trans Iff.rfl)).symm)))), rfl⟩
  rintro f13 _ ⟨a13_2, a13_7, a13_8, a13_9, a13_29, rfl⟩
  clear a9_2 a9_5 a9_6 a9_7 a9_8 a9_9
  refine wpF_condP a13_29 (fun hb => ?t17) (fun hb => ?e17)
  case e17 =>
    refine wpF_skip ?_
    refine wpF_cut (fun f H => f 2 = PT g1 0 ∧ f 7 = vs ∧ f 8 = I ((s.length : Int)) ∧ f 9 = I ((k : Int) + 1) ∧ H6 = H) ?_ ?_
    · refine wpF_region ?_
      refine wpL_q (U := NoB) rfl (q_add rfl a13_9 rfl (by constructor <;> omega)) ?_
      refine wpL_q (U := NoB) rfl (q_move (v := I ((k : Int) + 1)) rfl rfl) ?_
      exact ⟨a13_2, a13_7, a13_8, rfl, rfl⟩
    rintro f16 _ ⟨a16_2, a16_7, a16_8, a16_9, rfl⟩
    clear a13_2 a13_29 a13_7 a13_8 a13_9
    refine ⟨_, ?_, k + 1, rfl, (by omega), (all_succ hp (by omega)), a16_2, a16_7, a16_8, (Eq.trans a16_9 (congrArg I (by omega))), hS6⟩
    omega
  refine wpF_seq ?_
  refine wpF_cut (fun f H => f 4 = B (false) ∧ H6 = H) ?_ ?_
  · refine wpF_region ?_
    refine wpL_q (U := NoB) rfl (q_assign (v := B (false)) rfl rfl) ?_
    exact ⟨rfl, rfl⟩
  rintro f15 _ ⟨a15_4, rfl⟩
  clear a13_2 a13_29 a13_7 a13_8 a13_9
  refine wpF_ret ?_
  refine ⟨_, resT a15_4 resN, hS6.frame, ?_⟩
  show (B (false)) = B (insideB l s)
  exact congrArg B (decide_eq_false (fun h => by have := h k (by omega); omega)).symm

set_option maxRecDepth 100000 in
theorem Inside_R {H0 : Heap} (wa wb wc wd we vs : Value) (l : Loop) (s : List Int) (rwa : Rd NoB H0 wa l.Low) (rwb : Rd NoB H0 wb l.High) (rwc : Rd NoB H0 wc l.Start) (rwd : Rd NoB H0 wd l.Jumps) (rwe : Rd NoB H0 we l.Bad) (rs : Rd NoB H0 vs s) (hn1 : s.length ≤ l.Low.length) (hn2 : s.length ≤ l.High.length) : CallsH Try.prog 30 #[Value.agg #[wa, wb, wc, wd, we], vs] H0 (fun rv_ H' => Ext NoB H0 H' ∧ rv_ = B (decide (insideB l s = true ∧ s.length = l.Low.length))) := by
  have hs1 := (Rd.list.1 rwa).small
  have hs2 := (Rd.list.1 rwb).small
  have hs4 := (Rd.list.1 rwd).small
  have hss := (Rd.list.1 rs).small
  have hS0 : St H0 NoB NoB [rdE wa l.Low, rdE wb l.High, rdE wc l.Start, rdE wd l.Jumps, rdE we l.Bad, rdE vs s] H0 := St.arg (St.arg (St.arg (St.arg (St.arg (St.arg (St.start (fun _ h => h.elim)) (Bl0.nil) rs (fun _ h => h)) (Bl0.cons (Bl0.nil)) rwe (fun _ h => h)) (Bl0.cons (Bl0.cons (Bl0.nil))) rwd (fun _ h => h)) (Bl0.cons (Bl0.cons (Bl0.cons (Bl0.nil)))) rwc (fun _ h => h)) (Bl0.cons (Bl0.cons (Bl0.cons (Bl0.cons (Bl0.nil))))) rwb (fun _ h => h)) (Bl0.cons (Bl0.cons (Bl0.cons (Bl0.cons (Bl0.cons (Bl0.nil)))))) rwa (fun _ h => h)
  refine callsH_of_wpF (args := [Value.agg #[wa, wb, wc, wd, we], vs]) (rs := [.tmp 4]) Try.func30 rfl Try.ntmps30 Try.results30 (by kernel_rfl) (Nat.le_of_ble_eq_true rfl) ?_
  have a0_0 : argF [Value.agg #[wa, wb, wc, wd, we], vs] 0 = Value.agg #[wa, wb, wc, wd, we] := rfl
  have a0_1 : argF [Value.agg #[wa, wb, wc, wd, we], vs] 1 = vs := rfl
  generalize argF [Value.agg #[wa, wb, wc, wd, we], vs] = f0 at *
  refine wpF_seq ?_
  refine wpF_cut (fun f H => ∃ (g1 : Nat), f 1 = vs ∧ f 2 = PT g1 0 ∧ St H0 NoB NoB [blkE g1 (.cells #[wa, wb, wc, wd, we] 42), rdE wa l.Low, rdE wb l.High, rdE wc l.Start, rdE wd l.Jumps, rdE we l.Bad, rdE vs s] H) ?_ ?_
  · refine wpF_region ?_
    refine wpL_o rfl ?_
    refine e_box (v := Value.agg #[wa, wb, wc, wd, we]) rfl a0_0 hS0 (fun g1 H2 hS3 hxx => ?_)
    replace hS3 : St H0 NoB NoB [blkE g1 (.cells #[wa, wb, wc, wd, we] 42), rdE wa l.Low, rdE wb l.High, rdE wc l.Start, rdE wd l.Jumps, rdE we l.Bad, rdE vs s] H2 := hS3
    refine wpL_q (U := NoB) rfl (q_assign (v := B (false)) rfl rfl) ?_
    exact ⟨g1, a0_1, rfl, hS3⟩
  rintro f4 H4 ⟨g1, a4_1, a4_2, hS4⟩
  clear a0_0 a0_1
  refine wpF_seq ?_
  refine wpF_seq ?_
  refine wpF_cut (fun f H => f 1 = vs ∧ f 2 = PT g1 0 ∧ f 5 = I (0) ∧ H4 = H) ?_ ?_
  · refine wpF_region ?_
    refine wpL_q (U := NoB) rfl (q_assign (v := I (0)) rfl rfl) ?_
    exact ⟨a4_1, a4_2, rfl, rfl⟩
  rintro f5 _ ⟨a5_1, a5_2, a5_5, rfl⟩
  clear a4_1 a4_2
  refine wpF_block ?_
  refine wpF_loop (fun mz f H => ∃ (k : Nat), mz = s.length - k ∧ (k ≤ s.length) ∧ (∀ j, j < k → nth l.Low j ≤ nth s j ∧ nth s j ≤ nth l.High j) ∧ f 1 = vs ∧ f 2 = PT g1 0 ∧ f 5 = I ((k : Int)) ∧ St H0 NoB NoB [blkE g1 (.cells #[wa, wb, wc, wd, we] 42), rdE wa l.Low, rdE wb l.High, rdE wc l.Start, rdE wd l.Jumps, rdE we l.Bad, rdE vs s] H) (s.length - 0) ?_ ?_
  · exact ⟨0, rfl, Nat.zero_le _, (fun j hj => absurd hj (Nat.not_lt_zero j)), a5_1, a5_2, (Eq.trans a5_5 (congrArg I (by omega))), hS4⟩
  intro m6 f6 H6 hI6
  obtain ⟨k, hm6, hk, hp, a6_1, a6_2, a6_5, hS6⟩ := hI6
  clear a5_1 a5_2 a5_5
  refine wpF_seq ?_
  refine wpF_seq ?_
  refine wpF_cut (fun f H => f 1 = vs ∧ f 2 = PT g1 0 ∧ f 5 = I ((k : Int)) ∧ f 9 = B (decide ((k : Int) < (s.length : Int))) ∧ H6 = H) ?_ ?_
  · refine wpF_region ?_
    refine wpL_q (U := NoB) rfl (q_move (v := I ((k : Int))) rfl a6_5) ?_
    refine wpL_q (U := NoB) rfl (q_move (v := vs) rfl a6_1) ?_
    refine wpL_q (U := NoB) rfl (q_lenRd rfl Try.underlying32 rfl (hS6.rdl 6 rfl)) ?_
    refine wpL_q (U := NoB) rfl (q_lss rfl rfl rfl) ?_
    exact ⟨a6_1, a6_2, a6_5, rfl, rfl⟩
  rintro f7 _ ⟨a7_1, a7_2, a7_5, a7_9, rfl⟩
  clear a6_1 a6_2 a6_5
  refine wpF_condP a7_9 (fun hlt => ?t16) (fun hlt => ?e16)
  case e16 =>
    refine wpF_exit ?_
    refine atX_here ?_
    refine wpF_seq ?_
    refine wpF_cut (fun f H => f 4 = B (decide ((s.length : Int) = (l.Low.length : Int))) ∧ H6 = H) ?_ ?_
    · refine wpF_region ?_
      refine wpL_q (U := NoB) rfl (q_move (v := vs) rfl a7_1) ?_
      refine wpL_q (U := NoB) rfl (q_lenRd rfl Try.underlying32 rfl (hS6.rdl 6 rfl)) ?_
      refine wpL_q (U := NoB) rfl (q_fieldAddr rfl Try.underlying42 rfl Try.sizeOf32 a7_2) ?_
      refine wpL_q (U := NoB) rfl (q_loadBlk rfl rfl Try.isAgg32 (hS6.blk 0 rfl) rfl (fun h => h)) ?_
      refine wpL_q (U := NoB) rfl (q_lenRd rfl Try.underlying32 rfl (hS6.rdl 1 rfl)) ?_
      refine wpL_q (U := NoB) rfl (q_eql rfl rfl rfl) ?_
      refine wpL_q (U := NoB) rfl (q_assign (v := B (decide ((s.length : Int) = (l.Low.length : Int)))) rfl rfl) ?_
      exact ⟨rfl, rfl⟩
    rintro f15 _ ⟨a15_4, rfl⟩
    clear a7_1 a7_2 a7_5 a7_9
    refine wpF_ret ?_
    refine ⟨_, resT a15_4 resN, hS6.frame, ?_⟩
    show (B (decide ((s.length : Int) = (l.Low.length : Int)))) = B (decide (insideB l s = true ∧ s.length = l.Low.length))
    exact congrArg B (decide_congr_of ⟨fun h => ⟨decide_eq_true (fun j hj => hp j (by omega)), by omega⟩, fun h => by have := h.2; omega⟩)
  refine wpF_skip ?_
  refine wpF_seq ?_
  refine wpF_block ?_
  refine wpF_seq ?_
  refine wpF_cut (fun f H => f 1 = vs ∧ f 2 = PT g1 0 ∧ f 5 = I ((k : Int)) ∧ f 27 = B (decide (¬ ((nth l.Low k) ≤ (nth s k) ∧ (nth s k) ≤ (nth l.High k)))) ∧ St H0 NoB NoB [blkE g1 (.cells #[wa, wb, wc, wd, we] 42), rdE wa l.Low, rdE wb l.High, rdE wc l.Start, rdE wd l.Jumps, rdE we l.Bad, rdE vs s] H) ?_ ?_
  · refine wpF_drawn [] [] (fun _ _ => False) (by kernel_rfl) (by kernel_rfl) ?_
    refine wpR_q 0 (by kernel_rfl) rfl (quietAt rfl rfl (q_move (v := vs) rfl a7_1)) ?_
    refine wpR_q 1 (by kernel_rfl) rfl (quietAt rfl rfl (q_move (v := I ((k : Int))) rfl a7_5)) ?_
    refine wpR_q 2 (by kernel_rfl) rfl (quietAt rfl rfl (q_indexRd (k := k) rfl Try.underlying32 el_Int_3_LoopS2 rfl rfl (hS6.rdl 6 rfl) (by omega) (by omega))) ?_
    refine wpR_q 3 (by kernel_rfl) rfl (quietAt rfl rfl (q_loadInt (k := k) rfl rfl el_Int_3_LoopS2 (hS6.rdl 6 rfl) (by omega) (labU_sub [] rfl (List.forall_mem_nil _)))) ?_
    refine wpR_q 4 (by kernel_rfl) rfl (quietAt rfl rfl (q_fieldAddr rfl Try.underlying42 rfl Try.sizeOf32 a7_2)) ?_
    refine wpR_q 5 (by kernel_rfl) rfl (quietAt rfl rfl (q_loadBlk rfl rfl Try.isAgg32 (hS6.blk 0 rfl) rfl (labU_not [] rfl (List.forall_mem_nil _)))) ?_
    refine wpR_q 6 (by kernel_rfl) rfl (quietAt rfl rfl (q_move (v := I ((k : Int))) rfl a7_5)) ?_
    refine wpR_q 7 (by kernel_rfl) rfl (quietAt rfl rfl (q_indexRd (k := k) rfl Try.underlying32 el_Int_3_LoopS2 rfl rfl (hS6.rdl 1 rfl) (by omega) (by omega))) ?_
    refine wpR_q 8 (by kernel_rfl) rfl (quietAt rfl rfl (q_loadInt (k := k) rfl rfl el_Int_3_LoopS2 (hS6.rdl 1 rfl) (by omega) (labU_sub [] rfl (List.forall_mem_nil _)))) ?_
    refine wpR_q 9 (by kernel_rfl) rfl (quietAt rfl rfl (q_fieldAddr rfl Try.underlying42 rfl Try.sizeOf32 a7_2)) ?_
    refine wpR_q 10 (by kernel_rfl) rfl (quietAt rfl rfl (q_loadBlk rfl rfl Try.isAgg32 (hS6.blk 0 rfl) rfl (labU_not [] rfl (List.forall_mem_nil _)))) ?_
    refine wpR_q 11 (by kernel_rfl) rfl (quietAt rfl rfl (q_move (v := I ((k : Int))) rfl a7_5)) ?_
    refine wpR_q 12 (by kernel_rfl) rfl (quietAt rfl rfl (q_indexRd (k := k) rfl Try.underlying32 el_Int_3_LoopS2 rfl rfl (hS6.rdl 2 rfl) (by omega) (by omega))) ?_
    refine wpR_q 13 (by kernel_rfl) rfl (quietAt rfl rfl (q_loadInt (k := k) rfl rfl el_Int_3_LoopS2 (hS6.rdl 2 rfl) (by omega) (labU_sub [] rfl (List.forall_mem_nil _)))) ?_
    refine wpR_n [14] (by kernel_rfl) ?_
    refine List.forall_mem_cons.2 ⟨?_, List.forall_mem_nil _⟩
    refine exE rfl rfl ?_
    refine e_call rfl Try.call44 (arr3 (v0 := I (nth s k)) (v1 := I (nth l.Low k)) (v2 := I (nth l.High k)) rfl rfl rfl) (in_R (nth s k) (nth l.Low k) (nth l.High k)) ?_
    rintro _ H9o14 ⟨hxx, rfl⟩
    have hS9o14 : St H0 NoB NoB [blkE g1 (.cells #[wa, wb, wc, wd, we] 42), rdE wa l.Low, rdE wb l.High, rdE wc l.Start, rdE wd l.Jumps, rdE we l.Bad, rdE vs s] H9o14 := hS6.ext hxx
    refine ⟨Ext.mono hxx (fun _ h => h.elim), ?_⟩
    refine wpR_q 15 (by kernel_rfl) rfl (quietAt rfl rfl (q_notP rfl rfl)) ?_
    refine wpR_end (by kernel_rfl) ?_
    exact ⟨a7_1, a7_2, a7_5, rfl, hS9o14⟩
  rintro f10 H10 ⟨a10_1, a10_2, a10_5, a10_27, hS10⟩
  clear a7_1 a7_2 a7_5 a7_9
  refine wpF_condP a10_27 (fun hb => ?t14) (fun hb => ?e14)
  case t14 =>
    refine wpF_seq ?_
    refine wpF_cut (fun f H => f 4 = B (false) ∧ H10 = H) ?_ ?_
    · refine wpF_region ?_
      refine wpL_q (U := NoB) rfl (q_assign (v := B (false)) rfl rfl) ?_
      exact ⟨rfl, rfl⟩
    rintro f12 _ ⟨a12_4, rfl⟩
    clear a10_1 a10_2 a10_27 a10_5
    refine wpF_ret ?_
    refine ⟨_, resT a12_4 resN, hS10.frame, ?_⟩
    show (B (false)) = B (decide (insideB l s = true ∧ s.length = l.Low.length))
    exact congrArg B (decide_eq_false (fun h => by have := of_decide_eq_true h.1 k (by omega); omega)).symm
  refine wpF_skip ?_
  refine wpF_cut (fun f H => f 1 = vs ∧ f 2 = PT g1 0 ∧ f 5 = I ((k : Int) + 1) ∧ H10 = H) ?_ ?_
  · refine wpF_region ?_
    refine wpL_q (U := NoB) rfl (q_move (v := I ((k : Int))) rfl a10_5) ?_
    refine wpL_q (U := NoB) rfl (q_add rfl rfl rfl (by constructor <;> omega)) ?_
    refine wpL_q (U := NoB) rfl (q_assign (v := I ((k : Int) + 1)) rfl rfl) ?_
    exact ⟨a10_1, a10_2, rfl, rfl⟩
  rintro f13 _ ⟨a13_1, a13_2, a13_5, rfl⟩
  clear a10_1 a10_2 a10_27 a10_5
  refine ⟨_, ?_, k + 1, rfl, (by omega), (all_succ hp (by omega)), a13_1, a13_2, (Eq.trans a13_5 (congrArg I (by omega))), hS10⟩
  omega

set_option maxRecDepth 100000 in
theorem IndexFuncL {H0 : Heap} (vs vf : Value) (l : List (List Int)) (gp : (List Int) → Bool) (rs : Rd NoB H0 vs l) (hf : ∀ u x, x ∈ l → ∀ H, Ext NoB H0 H → Rd NoB H u x → FnH Try.prog vf #[u] H (fun rv H' => Ext NoB H H' ∧ rv = B (gp x))) : CallsH Try.prog 57 #[vs, vf] H0 (fun rv_ H' => Ext NoB H0 H' ∧ rv_ = I (idxOf gp l)) := by
  have hsm := (Rd.list.1 rs).small
  have hS0 : St H0 NoB NoB [rdE vs l] H0 := St.arg (St.start (fun _ h => h.elim)) (Bl0.nil) rs (fun _ h => h)
  refine callsH_of_wpF (args := [vs, vf]) (rs := [.tmp 4]) Try.func57 rfl Try.ntmps57 Try.results57 (by kernel_rfl) (Nat.le_of_ble_eq_true rfl) ?_
  have a0_0 : argF [vs, vf] 0 = vs := rfl
  have a0_1 : argF [vs, vf] 1 = vf := rfl
  generalize argF [vs, vf] = f0 at *
  refine wpF_seq ?_
  refine wpF_cut (fun f H => f 0 = vs ∧ f 1 = vf ∧ H0 = H) ?_ ?_
  · refine wpF_region ?_
    refine wpL_q (U := NoB) rfl (q_assign (v := I (0)) rfl rfl) ?_
    exact ⟨a0_0, a0_1, rfl⟩
  rintro f1 _ ⟨a1_0, a1_1, rfl⟩
  clear a0_0 a0_1
  refine wpF_seq ?_
  refine wpF_seq ?_
  refine wpF_cut (fun f H => f 0 = vs ∧ f 1 = vf ∧ f 7 = I ((l.length : Int)) ∧ f 8 = I (0) ∧ H0 = H) ?_ ?_
  · refine wpF_region ?_
    refine wpL_q (U := NoB) rfl (q_move (v := vs) rfl a1_0) ?_
    refine wpL_q (U := NoB) rfl (q_lenRd rfl Try.underlying23 rfl (hS0.rdl 0 rfl)) ?_
    refine wpL_q (U := NoB) rfl (q_move (v := I (0)) rfl rfl) ?_
    exact ⟨a1_0, a1_1, rfl, rfl, rfl⟩
  rintro f2 _ ⟨a2_0, a2_1, a2_7, a2_8, rfl⟩
  clear a1_0 a1_1
  refine wpF_block ?_
  refine wpF_loop (fun mz f H => ∃ (k : Nat), mz = l.length - k ∧ (k ≤ l.length) ∧ (∀ j, j < k → gp (nth l j) = false) ∧ f 0 = vs ∧ f 1 = vf ∧ f 7 = I ((l.length : Int)) ∧ f 8 = I ((k : Int)) ∧ St H0 NoB NoB [rdE vs l] H) (l.length - 0) ?_ ?_
  · exact ⟨0, rfl, Nat.zero_le _, (fun j hj => absurd hj (Nat.not_lt_zero j)), a2_0, a2_1, a2_7, (Eq.trans a2_8 (congrArg I (by omega))), hS0⟩
  intro m3 f3 H3 hI3
  obtain ⟨k, hm3, hk, hno, a3_0, a3_1, a3_7, a3_8, hS3⟩ := hI3
  clear a2_0 a2_1 a2_7 a2_8
  refine wpF_seq ?_
  refine wpF_cut (fun f H => f 0 = vs ∧ f 1 = vf ∧ f 7 = I ((l.length : Int)) ∧ f 8 = I ((k : Int)) ∧ f 9 = B (decide ((k : Int) < (l.length : Int))) ∧ H3 = H) ?_ ?_
  · refine wpF_region ?_
    refine wpL_q (U := NoB) rfl (q_lss rfl a3_8 a3_7) ?_
    exact ⟨a3_0, a3_1, a3_7, a3_8, rfl, rfl⟩
  rintro f4 _ ⟨a4_0, a4_1, a4_7, a4_8, a4_9, rfl⟩
  clear a3_0 a3_1 a3_7 a3_8
  refine wpF_seq ?_
  refine wpF_condP a4_9 (fun hlt => ?t18) (fun hlt => ?e18)
  case e18 =>
    refine wpF_exit ?_
    refine atX_here ?_
    refine wpF_seq ?_
    refine wpF_cut (fun f H => f 4 = I (-1) ∧ H3 = H) ?_ ?_
    · refine wpF_region ?_
      refine wpL_q (U := NoB) rfl (q_assign (v := I (-1)) rfl rfl) ?_
      exact ⟨rfl, rfl⟩
    rintro f17 _ ⟨a17_4, rfl⟩
    clear a4_0 a4_1 a4_7 a4_8 a4_9
    refine wpF_ret ?_
    refine ⟨_, resT a17_4 resN, hS3.frame, ?_⟩
    show (I (-1)) = I (idxOf gp l)
    exact congrArg I (idxOf_no fun j hj => hno j (by omega)).symm
  refine wpF_skip ?_
  refine wpF_seq ?_
  refine wpF_block ?_
  refine wpF_seq ?_
  refine wpF_cut (fun f H => f 0 = vs ∧ f 1 = vf ∧ f 5 = I ((k : Int)) ∧ f 7 = I ((l.length : Int)) ∧ f 8 = I ((k : Int)) ∧ H3 = H) ?_ ?_
  · refine wpF_region ?_
    refine wpL_q (U := NoB) rfl (q_move (v := I ((k : Int))) rfl a4_8) ?_
    refine wpL_q (U := NoB) rfl (q_assign (v := I ((k : Int))) rfl rfl) ?_
    exact ⟨a4_0, a4_1, rfl, a4_7, a4_8, rfl⟩
  rintro f6 _ ⟨a6_0, a6_1, a6_5, a6_7, a6_8, rfl⟩
  clear a4_0 a4_1 a4_7 a4_8 a4_9
  refine wpF_seq ?_
  obtain ⟨u7, huu7, hlu7⟩ := (Rd.list.1 (hS3.rdS 0 rfl)).elem k (by omega)
  have hS8 : St H0 NoB NoB [rdE u7 (nth l k), rdE vs l] H3 := hS3.rd huu7
  refine wpF_cut (fun f H => f 0 = vs ∧ f 1 = vf ∧ f 5 = I ((k : Int)) ∧ f 7 = I ((l.length : Int)) ∧ f 8 = I ((k : Int)) ∧ f 16 = B (gp (nth l k)) ∧ St H0 NoB NoB [rdE vs l] H) ?_ ?_
  · refine wpF_region ?_
    refine wpL_q (U := NoB) rfl (q_move (v := vf) rfl a6_1) ?_
    refine wpL_q (U := NoB) rfl (q_move (v := vs) rfl a6_0) ?_
    refine wpL_q (U := NoB) rfl (q_move (v := I ((k : Int))) rfl a6_5) ?_
    refine wpL_q (U := NoB) rfl (q_indexRd (k := k) rfl Try.underlying23 el_LInt_32_LoopS2 rfl rfl (hS3.rdl 0 rfl) (by omega) (by omega)) ?_
    refine wpL_q (U := NoB) rfl (q_loadE rfl rfl (hlu7 Try.prog 32 _ el_LInt_32_LoopS2 (fun _ h => False.elim h))) ?_
    refine wpL_o rfl ?_
    refine e_callF rfl rfl (arr1 (v0 := u7) rfl) (hf _ _ (nth_mem (by omega)) _ hS8.frame (hS8.rdN 0 rfl)) ?_
    rintro _ H9 ⟨hxx, rfl⟩
    have hS10 : St H0 NoB NoB [rdE u7 (nth l k), rdE vs l] H9 := hS8.ext hxx
    exact ⟨a6_0, a6_1, a6_5, a6_7, a6_8, rfl, (hS10.drop (sn (sk (List.Sublist.slnil))))⟩
  rintro f12 H12 ⟨a12_0, a12_1, a12_5, a12_7, a12_8, a12_16, hS12⟩
  clear a6_0 a6_1 a6_5 a6_7 a6_8
  refine wpF_cond a12_16 (fun hg => ?t16) (fun hg => ?e16)
  case e16 =>
    refine wpF_skip ?_
    refine wpF_cut (fun f H => f 0 = vs ∧ f 1 = vf ∧ f 7 = I ((l.length : Int)) ∧ f 8 = I ((k : Int) + 1) ∧ H12 = H) ?_ ?_
    · refine wpF_region ?_
      refine wpL_q (U := NoB) rfl (q_add rfl a12_8 rfl (by constructor <;> omega)) ?_
      refine wpL_q (U := NoB) rfl (q_move (v := I ((k : Int) + 1)) rfl rfl) ?_
      exact ⟨a12_0, a12_1, a12_7, rfl, rfl⟩
    rintro f15 _ ⟨a15_0, a15_1, a15_7, a15_8, rfl⟩
    clear a12_0 a12_1 a12_16 a12_5 a12_7 a12_8
    refine ⟨_, ?_, k + 1, rfl, (by omega), (all_succ hno (by simpa using hg)), a15_0, a15_1, a15_7, (Eq.trans a15_8 (congrArg I (by omega))), hS12⟩
    omega
  refine wpF_seq ?_
  refine wpF_cut (fun f H => f 4 = I ((k : Int)) ∧ H12 = H) ?_ ?_
  · refine wpF_region ?_
    refine wpL_q (U := NoB) rfl (q_move (v := I ((k : Int))) rfl a12_5) ?_
    refine wpL_q (U := NoB) rfl (q_assign (v := I ((k : Int))) rfl rfl) ?_
    exact ⟨rfl, rfl⟩
  rintro f14 _ ⟨a14_4, rfl⟩
  clear a12_0 a12_1 a12_16 a12_5 a12_7 a12_8
  refine wpF_ret ?_
  refine ⟨_, resT a14_4 resN, hS12.frame, ?_⟩
  show (I ((k : Int))) = I (idxOf gp l)
  exact congrArg I (idxOf_at (by omega) hno (by simpa using hg)).symm

set_option maxRecDepth 100000 in
theorem ContainsFuncL {H0 : Heap} (vs vf : Value) (l : List (List Int)) (gp : (List Int) → Bool) (rs : Rd NoB H0 vs l) (hf : ∀ u x, x ∈ l → ∀ H, Ext NoB H0 H → Rd NoB H u x → FnH Try.prog vf #[u] H (fun rv H' => Ext NoB H H' ∧ rv = B (gp x))) : CallsH Try.prog 60 #[vs, vf] H0 (fun rv_ H' => Ext NoB H0 H' ∧ rv_ = B (l.any gp)) := by
  have hS0 : St H0 NoB NoB [rdE vs l] H0 := St.arg (St.start (fun _ h => h.elim)) (Bl0.nil) rs (fun _ h => h)
  refine callsH_of_wpF (args := [vs, vf]) (rs := [.tmp 4]) Try.func60 rfl Try.ntmps60 Try.results60 (by kernel_rfl) (Nat.le_of_ble_eq_true rfl) ?_
  have a0_0 : argF [vs, vf] 0 = vs := rfl
  have a0_1 : argF [vs, vf] 1 = vf := rfl
  generalize argF [vs, vf] = f0 at *
  refine wpF_seq ?_
  refine wpF_cut (fun f H => f 0 = vs ∧ f 1 = vf ∧ H0 = H) ?_ ?_
  · refine wpF_region ?_
    refine wpL_q (U := NoB) rfl (q_assign (v := B (false)) rfl rfl) ?_
    exact ⟨a0_0, a0_1, rfl⟩
  rintro f1 _ ⟨a1_0, a1_1, rfl⟩
  clear a0_0 a0_1
  refine wpF_seq ?_
  refine wpF_cut (fun f H => f 4 = B (decide (0 ≤ (idxOf gp l))) ∧ St H0 NoB NoB [] H) ?_ ?_
  · refine wpF_region ?_
    refine wpL_q (U := NoB) rfl (q_move (v := vs) rfl a1_0) ?_
    refine wpL_q (U := NoB) rfl (q_move (v := vf) rfl a1_1) ?_
    refine wpL_o rfl ?_
    refine e_call rfl Try.call57 (arr2 (v0 := vs) (v1 := vf) rfl rfl) (IndexFuncL vs vf l gp (hS0.rdN 0 rfl) (fun u x hx H hE hr => hf u x hx H (hS0.frame.trans hE) hr)) ?_
    rintro _ H2 ⟨hxx, rfl⟩
    have hS3 : St H0 NoB NoB [rdE vs l] H2 := hS0.ext hxx
    refine wpL_q (U := NoB) rfl (q_geq rfl rfl rfl) ?_
    refine wpL_q (U := NoB) rfl (q_assign (v := B (decide (0 ≤ (idxOf gp l)))) rfl rfl) ?_
    exact ⟨rfl, (hS3.drop (sn (List.Sublist.slnil)))⟩
  rintro f5 H5 ⟨a5_4, hS5⟩
  clear a1_0 a1_1
  refine wpF_ret ?_
  refine ⟨_, resT a5_4 resN, hS5.frame, ?_⟩
  show (B (decide (0 ≤ (idxOf gp l)))) = B (l.any gp)
  exact congrArg B (bool_congr_of idxOf_any.symm).symm

set_option maxRecDepth 100000 in
theorem has_1 {H0 : Heap} (vx : Value) (gx : Nat) (vs : Value) (x s : List Int) (hb : H0[gx]? = some (.cells #[vs] 32)) (rx : Rd NoB H0 vx x) (rs : Rd NoB H0 vs s) : CallsH Try.prog 74 #[vx, PT gx 0] H0 (fun rv_ H' => Ext NoB H0 H' ∧ rv_ = B (decide (x = s))) := by
  have hS0 : St H0 NoB NoB [fixE gx (.cells #[vs] 32), rdE vx x, rdE vs s] H0 := St.argFix (St.arg (St.arg (St.start (fun _ h => h.elim)) (Bl0.nil) rs (fun _ h => h)) (Bl0.cons (Bl0.nil)) rx (fun _ h => h)) (Bl0.cons (Bl0.cons (Bl0.nil))) hb (fun h => h)
  refine callsH_of_wpF (args := [vx, PT gx 0]) (rs := [.tmp 3]) Try.func74 rfl Try.ntmps74 Try.results74 (by kernel_rfl) (Nat.le_of_ble_eq_true rfl) ?_
  have a0_0 : argF [vx, PT gx 0] 0 = vx := rfl
  have a0_1 : argF [vx, PT gx 0] 1 = PT gx 0 := rfl
  generalize argF [vx, PT gx 0] = f0 at *
  refine wpF_seq ?_
  refine wpF_cut (fun f H => f 0 = vx ∧ f 1 = PT gx 0 ∧ H0 = H) ?_ ?_
  · refine wpF_region ?_
    refine wpL_q (U := NoB) rfl (q_assign (v := B (false)) rfl rfl) ?_
    exact ⟨a0_0, a0_1, rfl⟩
  rintro f1 _ ⟨a1_0, a1_1, rfl⟩
  clear a0_0 a0_1
  refine wpF_seq ?_
  refine wpF_cut (fun f H => f 3 = B (decide (x = s)) ∧ St H0 NoB NoB [fixE gx (.cells #[vs] 32), rdE vx x, rdE vs s] H) ?_ ?_
  · refine wpF_region ?_
    refine wpL_q (U := NoB) rfl (q_move (v := vx) rfl a1_0) ?_
    refine wpL_q (U := NoB) rfl (q_loadBlk rfl a1_1 Try.isAgg32 (hS0.fixd 0 rfl) rfl (fun h => h)) ?_
    refine wpL_o rfl ?_
    refine e_call rfl Try.call62 (arr2 (v0 := vx) (v1 := vs) rfl rfl) (Equal vx vs _ _ (hS0.rdN 1 rfl) (hS0.rdN 2 rfl)) ?_
    rintro _ H2 ⟨hxx, rfl⟩
    have hS3 : St H0 NoB NoB [fixE gx (.cells #[vs] 32), rdE vx x, rdE vs s] H2 := hS0.ext hxx
    refine wpL_q (U := NoB) rfl (q_assign (v := B (decide (x = s))) rfl rfl) ?_
    exact ⟨rfl, hS3⟩
  rintro f5 H5 ⟨a5_3, hS5⟩
  clear a1_0 a1_1
  refine wpF_ret ?_
  refine ⟨_, resT a5_3 resN, hS5.frame, ?_⟩
  show (B (decide (x = s))) = B (decide (x = s))
  rfl

set_option maxRecDepth 100000 in
theorem has_L {H0 : Heap} (vL vs : Value) (L : List (List Int)) (s : List Int) (rL : Rd NoB H0 vL L) (rs : Rd NoB H0 vs s) : CallsH Try.prog 56 #[vL, vs] H0 (fun rv_ H' => Ext NoB H0 H' ∧ rv_ = B (decide (s ∈ L))) := by
  have hS0 : St H0 NoB NoB [rdE vL L, rdE vs s] H0 := St.arg (St.arg (St.start (fun _ h => h.elim)) (Bl0.nil) rs (fun _ h => h)) (Bl0.cons (Bl0.nil)) rL (fun _ h => h)
  refine callsH_of_wpF (args := [vL, vs]) (rs := [.tmp 4]) Try.func56 rfl Try.ntmps56 Try.results56 (by kernel_rfl) (Nat.le_of_ble_eq_true rfl) ?_
  have a0_0 : argF [vL, vs] 0 = vL := rfl
  have a0_1 : argF [vL, vs] 1 = vs := rfl
  generalize argF [vL, vs] = f0 at *
  refine wpF_seq ?_
  refine wpF_cut (fun f H => ∃ (g1 : Nat), f 0 = vL ∧ f 3 = PT g1 0 ∧ St H0 NoB NoB [blkE g1 (.cells #[vs] 32), rdE vL L, rdE vs s] H) ?_ ?_
  · refine wpF_region ?_
    refine wpL_o rfl ?_
    refine e_box (v := vs) rfl a0_1 hS0 (fun g1 H2 hS3 hxx => ?_)
    rw [cells_rdL (hS0.rdl 1 rfl)] at hS3
    replace hS3 : St H0 NoB NoB [blkE g1 (.cells #[vs] 32), rdE vL L, rdE vs s] H2 := hS3
    refine wpL_q (U := NoB) rfl (q_assign (v := B (false)) rfl rfl) ?_
    exact ⟨g1, a0_0, rfl, hS3⟩
  rintro f4 H4 ⟨g1, a4_0, a4_3, hS4⟩
  clear a0_0 a0_1
  refine wpF_seq ?_
  refine wpF_cut (fun f H => f 4 = B (L.any (fun x => decide (x = s))) ∧ St H0 NoB NoB [blkE g1 (.cells #[vs] 32), rdE vL L, rdE vs s] H) ?_ ?_
  · refine wpF_region ?_
    refine wpL_q (U := NoB) rfl (q_move (v := vL) rfl a4_0) ?_
    refine wpL_q (U := NoB) rfl (q_makeFunc (fi' := #[]) rfl (by simp) (arr1 (v0 := PT g1 0) a4_3)) ?_
    refine wpL_o rfl ?_
    refine e_call rfl Try.call60 (arr2 (v0 := vL) (v1 := Value.func (.func 74) #[] #[PT g1 0]) rfl rfl) (ContainsFuncL vL (Value.func (.func 74) #[] #[PT g1 0]) L (fun x => decide (x = s)) (hS4.rdN 1 rfl) (fun u x hx H hE hr => ⟨_, _, rfl, Try.call74, has_1 u g1 vs x s (hE.blk (hS4.blk 0 rfl)) hr ((hS4.rdN 2 rfl).extN hE)⟩)) ?_
    rintro _ H5 ⟨hxx, rfl⟩
    have hS6 : St H0 NoB NoB [blkE g1 (.cells #[vs] 32), rdE vL L, rdE vs s] H5 := hS4.ext hxx
    refine wpL_q (U := NoB) rfl (q_assign (v := B (L.any (fun x => decide (x = s)))) rfl rfl) ?_
    exact ⟨rfl, hS6⟩
  rintro f8 H8 ⟨a8_4, hS8⟩
  clear a4_0 a4_3
  refine wpF_ret ?_
  refine ⟨_, resT a8_4 resN, hS8.frame, ?_⟩
  show (B (L.any (fun x => decide (x = s)))) = B (decide (s ∈ L))
  exact congrArg B any_mem

set_option maxRecDepth 100000 in
theorem Is_R {H0 : Heap} (vL vs : Value) (L : List (List Int)) (s : List Int) (rL : Rd NoB H0 vL L) (rs : Rd NoB H0 vs s) : CallsH Try.prog 35 #[vL, vs] H0 (fun rv_ H' => Ext NoB H0 H' ∧ rv_ = B (decide (s ∈ L))) := by
  have hsm := (Rd.list.1 rL).small
  have hS0 : St H0 NoB NoB [rdE vL L, rdE vs s] H0 := St.arg (St.arg (St.start (fun _ h => h.elim)) (Bl0.nil) rs (fun _ h => h)) (Bl0.cons (Bl0.nil)) rL (fun _ h => h)
  refine callsH_of_wpF (args := [vL, vs]) (rs := [.tmp 4]) Try.func35 rfl Try.ntmps35 Try.results35 (by kernel_rfl) (Nat.le_of_ble_eq_true rfl) ?_
  have a0_0 : argF [vL, vs] 0 = vL := rfl
  have a0_1 : argF [vL, vs] 1 = vs := rfl
  generalize argF [vL, vs] = f0 at *
  refine wpF_seq ?_
  refine wpF_cut (fun f H => f 0 = vL ∧ f 1 = vs ∧ H0 = H) ?_ ?_
  · refine wpF_region ?_
    refine wpL_q (U := NoB) rfl (q_assign (v := B (false)) rfl rfl) ?_
    exact ⟨a0_0, a0_1, rfl⟩
  rintro f1 _ ⟨a1_0, a1_1, rfl⟩
  clear a0_0 a0_1
  refine wpF_seq ?_
  refine wpF_seq ?_
  refine wpF_cut (fun f H => f 0 = vL ∧ f 1 = vs ∧ f 5 = I (0) ∧ H0 = H) ?_ ?_
  · refine wpF_region ?_
    refine wpL_q (U := NoB) rfl (q_assign (v := I (0)) rfl rfl) ?_
    exact ⟨a1_0, a1_1, rfl, rfl⟩
  rintro f2 _ ⟨a2_0, a2_1, a2_5, rfl⟩
  clear a1_0 a1_1
  refine wpF_block ?_
  refine wpF_loop (fun mz f H => ∃ (k : Nat), mz = L.length - k ∧ (k ≤ L.length) ∧ (∀ j, j < k → ¬ nth L j = s) ∧ f 0 = vL ∧ f 1 = vs ∧ f 5 = I ((k : Int)) ∧ St H0 NoB NoB [rdE vL L, rdE vs s] H) (L.length - 0) ?_ ?_
  · exact ⟨0, rfl, Nat.zero_le _, (fun j hj => absurd hj (Nat.not_lt_zero j)), a2_0, a2_1, (Eq.trans a2_5 (congrArg I (by omega))), hS0⟩
  intro m3 f3 H3 hI3
  obtain ⟨k, hm3, hk, hp, a3_0, a3_1, a3_5, hS3⟩ := hI3
  clear a2_0 a2_1 a2_5
  refine wpF_seq ?_
  refine wpF_seq ?_
  refine wpF_cut (fun f H => f 0 = vL ∧ f 1 = vs ∧ f 5 = I ((k : Int)) ∧ f 9 = B (decide ((k : Int) < (L.length : Int))) ∧ H3 = H) ?_ ?_
  · refine wpF_region ?_
    refine wpL_q (U := NoB) rfl (q_move (v := I ((k : Int))) rfl a3_5) ?_
    refine wpL_q (U := NoB) rfl (q_move (v := vL) rfl a3_0) ?_
    refine wpL_q (U := NoB) rfl (q_lenRd rfl Try.underlying23 rfl (hS3.rdl 0 rfl)) ?_
    refine wpL_q (U := NoB) rfl (q_lss rfl rfl rfl) ?_
    exact ⟨a3_0, a3_1, a3_5, rfl, rfl⟩
  rintro f4 _ ⟨a4_0, a4_1, a4_5, a4_9, rfl⟩
  clear a3_0 a3_1 a3_5
  refine wpF_condP a4_9 (fun hlt => ?t17) (fun hlt => ?e17)
  case e17 =>
    refine wpF_exit ?_
    refine atX_here ?_
    refine wpF_seq ?_
    refine wpF_cut (fun f H => f 4 = B (false) ∧ H3 = H) ?_ ?_
    · refine wpF_region ?_
      refine wpL_q (U := NoB) rfl (q_assign (v := B (false)) rfl rfl) ?_
      exact ⟨rfl, rfl⟩
    rintro f16 _ ⟨a16_4, rfl⟩
    clear a4_0 a4_1 a4_5 a4_9
    refine wpF_ret ?_
    refine ⟨_, resT a16_4 resN, hS3.frame, ?_⟩
    show (B (false)) = B (decide (s ∈ L))
    exact congrArg B (decide_eq_false (fun h => by obtain ⟨j, hj, he⟩ := nth_of_mem h; exact hp j (by omega) he)).symm
  refine wpF_skip ?_
  refine wpF_seq ?_
  refine wpF_block ?_
  refine wpF_seq ?_
  obtain ⟨u6, huu6, hlu6⟩ := (Rd.list.1 (hS3.rdS 0 rfl)).elem k (by omega)
  have hS7 : St H0 NoB NoB [rdE u6 (nth L k), rdE vL L, rdE vs s] H3 := hS3.rd huu6
  refine wpF_cut (fun f H => f 0 = vL ∧ f 1 = vs ∧ f 5 = I ((k : Int)) ∧ f 17 = B (decide ((nth L k) = s)) ∧ St H0 NoB NoB [rdE vL L, rdE vs s] H) ?_ ?_
  · refine wpF_region ?_
    refine wpL_q (U := NoB) rfl (q_move (v := vL) rfl a4_0) ?_
    refine wpL_q (U := NoB) rfl (q_move (v := I ((k : Int))) rfl a4_5) ?_
    refine wpL_q (U := NoB) rfl (q_indexRd (k := k) rfl Try.underlying23 el_LInt_32_LoopS2 rfl rfl (hS3.rdl 0 rfl) (by omega) (by omega)) ?_
    refine wpL_q (U := NoB) rfl (q_loadE rfl rfl (hlu6 Try.prog 32 _ el_LInt_32_LoopS2 (fun _ h => False.elim h))) ?_
    refine wpL_q (U := NoB) rfl (q_move (v := vs) rfl a4_1) ?_
    refine wpL_o rfl ?_
    refine e_call rfl Try.call39 (arr2 (v0 := u6) (v1 := vs) rfl rfl) (Ints u6 vs _ _ (hS7.rdN 0 rfl) (hS7.rdN 2 rfl)) ?_
    rintro _ H8 ⟨hxx, rfl⟩
    have hS9 : St H0 NoB NoB [rdE u6 (nth L k), rdE vL L, rdE vs s] H8 := hS7.ext hxx
    exact ⟨a4_0, a4_1, a4_5, rfl, (hS9.drop (sn (sk (sk (List.Sublist.slnil)))))⟩
  rintro f11 H11 ⟨a11_0, a11_1, a11_5, a11_17, hS11⟩
  clear a4_0 a4_1 a4_5 a4_9
  refine wpF_condP a11_17 (fun heq => ?t15) (fun heq => ?e15)
  case t15 =>
    refine wpF_seq ?_
    refine wpF_cut (fun f H => f 4 = B (true) ∧ H11 = H) ?_ ?_
    · refine wpF_region ?_
      refine wpL_q (U := NoB) rfl (q_assign (v := B (true)) rfl rfl) ?_
      exact ⟨rfl, rfl⟩
    rintro f13 _ ⟨a13_4, rfl⟩
    clear a11_0 a11_1 a11_17 a11_5
    refine wpF_ret ?_
    refine ⟨_, resT a13_4 resN, hS11.frame, ?_⟩
    show (B (true)) = B (decide (s ∈ L))
    exact congrArg B (decide_eq_true (heq ▸ nth_mem (by omega))).symm
  refine wpF_skip ?_
  refine wpF_cut (fun f H => f 0 = vL ∧ f 1 = vs ∧ f 5 = I ((k : Int) + 1) ∧ H11 = H) ?_ ?_
  · refine wpF_region ?_
    refine wpL_q (U := NoB) rfl (q_move (v := I ((k : Int))) rfl a11_5) ?_
    refine wpL_q (U := NoB) rfl (q_add rfl rfl rfl (by constructor <;> omega)) ?_
    refine wpL_q (U := NoB) rfl (q_assign (v := I ((k : Int) + 1)) rfl rfl) ?_
    exact ⟨a11_0, a11_1, rfl, rfl⟩
  rintro f14 _ ⟨a14_0, a14_1, a14_5, rfl⟩
  clear a11_0 a11_1 a11_17 a11_5
  refine ⟨_, ?_, k + 1, rfl, (by omega), (all_succ hp heq), a14_0, a14_1, (Eq.trans a14_5 (congrArg I (by omega))), hS11⟩
  omega

end Go.Um
