import Derived.Test.YtfgibfbgklkgbaaProg
import Derived.Test.YtfgibfbgklkgbaaLoopS1
namespace Go.Um
open Go.Proofs
open GoT (sz ag rdc)
open KeyT (kv)

theorem el_Int_3_LoopR1 : ElT Try.prog Int 3 := ⟨Try.isAgg3, Try.sizeOf3⟩
theorem el_LRow_34_LoopR1 : ElT Try.prog LRow 34 := ⟨Try.isAgg34, Try.sizeOf34⟩

set_option maxRecDepth 100000 in
theorem Hold_R {H0 : Heap} (vl vs : Value) (l : List LRow) (s : List Int) (rl : Rd NoB H0 vl l) (rs : Rd NoB H0 vs s) (hh : HoldOk l s) : CallsH Try.prog 33 #[vl, vs] H0 (fun rv_ H' => Ext NoB H0 H' ∧ rv_ = B (holdB l s)) := by
  have hsl := (Rd.list.1 rl).small
  have hS0 : St H0 NoB NoB [rdE vl l, rdE vs s] H0 := St.arg (St.arg (St.start (fun _ h => h.elim)) (Bl0.nil) rs (fun _ h => h)) (Bl0.cons (Bl0.nil)) rl (fun _ h => h)
  refine callsH_of_wpF (args := [vl, vs]) (rs := [.tmp 4]) Try.func33 rfl Try.ntmps33 Try.results33 (by kernel_rfl) (Nat.le_of_ble_eq_true rfl) ?_
  have a0_0 : argF [vl, vs] 0 = vl := rfl
  have a0_1 : argF [vl, vs] 1 = vs := rfl
  generalize argF [vl, vs] = f0 at *
  refine wpF_seq ?_
  refine wpF_cut (fun f H => f 0 = vl ∧ f 1 = vs ∧ H0 = H) ?_ ?_
  · refine wpF_region ?_
    refine wpL_q (U := NoB) rfl (q_assign (v := B (false)) rfl rfl) ?_
    exact ⟨a0_0, a0_1, rfl⟩
  rintro f1 _ ⟨a1_0, a1_1, rfl⟩
  clear a0_0 a0_1
  refine wpF_seq ?_
  refine wpF_seq ?_
  refine wpF_cut (fun f H => f 0 = vl ∧ f 1 = vs ∧ f 5 = I (0) ∧ H0 = H) ?_ ?_
  · refine wpF_region ?_
    refine wpL_q (U := NoB) rfl (q_assign (v := I (0)) rfl rfl) ?_
    exact ⟨a1_0, a1_1, rfl, rfl⟩
  rintro f2 _ ⟨a2_0, a2_1, a2_5, rfl⟩
  clear a1_0 a1_1
  refine wpF_block ?_
  refine wpF_loop (fun mz f H => ∃ (k : Nat), mz = l.length - k ∧ (k ≤ l.length) ∧ (∀ j, j < k → ¬ rowOut (nth l j) (dotL (nth l j).Of s)) ∧ f 0 = vl ∧ f 1 = vs ∧ f 5 = I ((k : Int)) ∧ St H0 NoB NoB [rdE vl l, rdE vs s] H) (l.length - 0) ?_ ?_
  · exact ⟨0, rfl, Nat.zero_le _, (fun j hj => absurd hj (Nat.not_lt_zero j)), a2_0, a2_1, (Eq.trans a2_5 (congrArg I (by omega))), hS0⟩
  intro m3 f3 H3 hI3
  obtain ⟨k, hm3, hk, hp, a3_0, a3_1, a3_5, hS3⟩ := hI3
  clear a2_0 a2_1 a2_5
  refine wpF_seq ?_
  refine wpF_seq ?_
  refine wpF_cut (fun f H => f 0 = vl ∧ f 1 = vs ∧ f 5 = I ((k : Int)) ∧ f 11 = B (decide ((k : Int) < (l.length : Int))) ∧ H3 = H) ?_ ?_
  · refine wpF_region ?_
    refine wpL_q (U := NoB) rfl (q_move (v := I ((k : Int))) rfl a3_5) ?_
    refine wpL_q (U := NoB) rfl (q_move (v := vl) rfl a3_0) ?_
    refine wpL_q (U := NoB) rfl (q_lenRd rfl Try.underlying22 rfl (hS3.rdl 0 rfl)) ?_
    refine wpL_q (U := NoB) rfl (q_lss rfl rfl rfl) ?_
    exact ⟨a3_0, a3_1, a3_5, rfl, rfl⟩
  rintro f4 _ ⟨a4_0, a4_1, a4_5, a4_11, rfl⟩
  clear a3_0 a3_1 a3_5
  refine wpF_condP a4_11 (fun hlt => ?t67) (fun hlt => ?e67)
  case e67 =>
    refine wpF_exit ?_
    refine atX_here ?_
    refine wpF_seq ?_
    refine wpF_cut (fun f H => f 4 = B (true) ∧ H3 = H) ?_ ?_
    · refine wpF_region ?_
      refine wpL_q (U := NoB) rfl (q_assign (v := B (true)) rfl rfl) ?_
      exact ⟨rfl, rfl⟩
    rintro f66 _ ⟨a66_4, rfl⟩
    clear a4_0 a4_1 a4_11 a4_5
    refine wpF_ret ?_
    refine ⟨_, resT a66_4 resN, hS3.frame, ?_⟩
    show (B (true)) = B (holdB l s)
    exact congrArg B (decide_eq_true (fun j hj => hp j (by omega))).symm
  have hso := LRow.small rl (k := k) (by omega)
  have hol := hh.len k (by omega)
  refine wpF_skip ?_
  refine wpF_seq ?_
  refine wpF_block ?_
  refine wpF_seq ?_
  refine wpF_cut (fun f H => f 0 = vl ∧ f 1 = vs ∧ f 5 = I ((k : Int)) ∧ f 6 = I (0) ∧ H3 = H) ?_ ?_
  · refine wpF_region ?_
    refine wpL_q (U := NoB) rfl (q_assign (v := I (0)) rfl rfl) ?_
    exact ⟨a4_0, a4_1, a4_5, rfl, rfl⟩
  rintro f6 _ ⟨a6_0, a6_1, a6_5, a6_6, rfl⟩
  clear a4_0 a4_1 a4_11 a4_5
  refine wpF_seq ?_
  refine wpF_seq ?_
  refine wpF_cut (fun f H => f 0 = vl ∧ f 1 = vs ∧ f 5 = I ((k : Int)) ∧ f 6 = I (0) ∧ f 7 = I (0) ∧ H3 = H) ?_ ?_
  · refine wpF_region ?_
    refine wpL_q (U := NoB) rfl (q_assign (v := I (0)) rfl rfl) ?_
    exact ⟨a6_0, a6_1, a6_5, a6_6, rfl, rfl⟩
  rintro f7 _ ⟨a7_0, a7_1, a7_5, a7_6, a7_7, rfl⟩
  clear a6_0 a6_1 a6_5 a6_6
  refine wpF_block ?_
  refine wpF_loop (fun mz f H => ∃ (i : Nat), mz = (nth l k).Of.length - i ∧ (i ≤ (nth l k).Of.length) ∧ f 0 = vl ∧ f 1 = vs ∧ f 5 = I ((k : Int)) ∧ f 6 = I (wrapI (dotTo (nth l k).Of s i)) ∧ f 7 = I ((i : Int)) ∧ St H0 NoB NoB [rdE vl l, rdE vs s] H) ((nth l k).Of.length - 0) ?_ ?_
  · exact ⟨0, rfl, Nat.zero_le _, a7_0, a7_1, a7_5, (Eq.trans a7_6 (congrArg I wrapI_zero)), (Eq.trans a7_7 (congrArg I (by omega))), hS3⟩
  intro m8 f8 H8 hI8
  obtain ⟨i, hm8, hi, a8_0, a8_1, a8_5, a8_6, a8_7, hS8⟩ := hI8
  clear a7_0 a7_1 a7_5 a7_6 a7_7
  refine wpF_seq ?_
  refine wpF_seq ?_
  refine wpF_cut (fun f H => f 0 = vl ∧ f 1 = vs ∧ f 5 = I ((k : Int)) ∧ f 6 = I (wrapI (dotTo (nth l k).Of s i)) ∧ f 7 = I ((i : Int)) ∧ f 21 = B (decide ((i : Int) < (((nth l k).Of).length : Int))) ∧ H8 = H) ?_ ?_
  · refine wpF_region ?_
    refine wpL_q (U := NoB) rfl (q_move (v := I ((i : Int))) rfl a8_7) ?_
    refine wpL_q (U := NoB) rfl (q_move (v := vl) rfl a8_0) ?_
    refine wpL_q (U := NoB) rfl (q_move (v := I ((k : Int))) rfl a8_5) ?_
    refine wpL_q (U := NoB) rfl (q_indexRd (k := k) rfl Try.underlying22 el_LRow_34_LoopR1 rfl rfl (hS8.rdl 0 rfl) (by omega) (by omega)) ?_
    refine wpL_q (U := NoB) rfl (q_fieldE (k := k) rfl Try.underlying34 rfl Try.sizeOf32 rfl rfl (hS8.rdl 0 rfl) (by omega)) ?_
    obtain ⟨_, hcu9, hFu9⟩ := (Rd.list.1 (hS8.rdS 0 rfl)).cellF k (by omega)
    obtain ⟨u9n0, rfl, hu90, hu91, hu92⟩ := hcu9
    have hS10 : St H0 NoB NoB [rdE u9n0 ((nth l k).Of), rdE vl l, rdE vs s] H8 := hS8.rd (Rd.list.2 hu90)
    refine wpL_q (U := NoB) rfl (q_loadF rfl rfl (hFu9 0 _ Try.prog 32 _ rfl Try.isAgg32 (fun _ h => False.elim h))) ?_
    refine wpL_q (U := NoB) rfl (q_lenRd rfl Try.underlying32 rfl (hS10.rdl 0 rfl)) ?_
    refine wpL_q (U := NoB) rfl (q_lss rfl rfl rfl) ?_
    exact ⟨a8_0, a8_1, a8_5, a8_6, a8_7, rfl, rfl⟩
  rintro f11 _ ⟨a11_0, a11_1, a11_5, a11_6, a11_7, a11_21, rfl⟩
  clear a8_0 a8_1 a8_5 a8_6 a8_7
  refine wpF_condP a11_21 (fun hlt2 => ?t65) (fun hlt2 => ?e65)
  case t65 =>
    have hm := hh.mul k (by omega) i (by omega)
    refine wpF_skip ?_
    refine wpF_seq ?_
    refine wpF_block ?_
    refine wpF_cut (fun f H => f 0 = vl ∧ f 1 = vs ∧ f 5 = I ((k : Int)) ∧ f 6 = I (wrapI ((wrapI (dotTo (nth l k).Of s i)) + ((nth ((nth l k).Of) i) * (nth s i)))) ∧ f 7 = I ((i : Int)) ∧ H8 = H) ?_ ?_
    · refine wpF_drawn [] [] (fun _ _ => False) (by kernel_rfl) (by kernel_rfl) ?_
      refine wpR_q 0 (by kernel_rfl) rfl (quietAt rfl rfl (q_move (v := I (wrapI (dotTo (nth l k).Of s i))) rfl a11_6)) ?_
      refine wpR_q 1 (by kernel_rfl) rfl (quietAt rfl rfl (q_move (v := vl) rfl a11_0)) ?_
      refine wpR_q 2 (by kernel_rfl) rfl (quietAt rfl rfl (q_move (v := I ((k : Int))) rfl a11_5)) ?_
      refine wpR_q 3 (by kernel_rfl) rfl (quietAt rfl rfl (q_indexRd (k := k) rfl Try.underlying22 el_LRow_34_LoopR1 rfl rfl (hS8.rdl 0 rfl) (by omega) (by omega))) ?_
      refine wpR_q 4 (by kernel_rfl) rfl (quietAt rfl rfl (q_fieldE (k := k) rfl Try.underlying34 rfl Try.sizeOf32 rfl rfl (hS8.rdl 0 rfl) (by omega))) ?_
      obtain ⟨_, hcu13o5, hFu13o5⟩ := (Rd.list.1 (hS8.rdS 0 rfl)).cellF k (by omega)
      obtain ⟨u13o5n0, rfl, hu13o50, hu13o51, hu13o52⟩ := hcu13o5
      have hS13o5 : St H0 NoB NoB [rdE u13o5n0 ((nth l k).Of), rdE vl l, rdE vs s] H8 := hS8.rd (Rd.list.2 hu13o50)
      refine wpR_q 5 (by kernel_rfl) rfl (quietAt rfl rfl (q_loadF rfl rfl (hFu13o5 0 _ Try.prog 32 _ rfl Try.isAgg32 (labU_sub [] rfl (List.forall_mem_nil _))))) ?_
      refine wpR_q 6 (by kernel_rfl) rfl (quietAt rfl rfl (q_move (v := I ((i : Int))) rfl a11_7)) ?_
      refine wpR_q 7 (by kernel_rfl) rfl (quietAt rfl rfl (q_indexRd (k := i) rfl Try.underlying32 el_Int_3_LoopR1 rfl rfl (hS13o5.rdl 0 rfl) (by omega) (by omega))) ?_
      refine wpR_q 8 (by kernel_rfl) rfl (quietAt rfl rfl (q_loadInt (k := i) rfl rfl el_Int_3_LoopR1 (hS13o5.rdl 0 rfl) (by omega) (labU_sub [] rfl (List.forall_mem_nil _)))) ?_
      refine wpR_q 9 (by kernel_rfl) rfl (quietAt rfl rfl (q_move (v := vs) rfl a11_1)) ?_
      refine wpR_q 10 (by kernel_rfl) rfl (quietAt rfl rfl (q_move (v := I ((i : Int))) rfl a11_7)) ?_
      refine wpR_q 11 (by kernel_rfl) rfl (quietAt rfl rfl (q_indexRd (k := i) rfl Try.underlying32 el_Int_3_LoopR1 rfl rfl (hS13o5.rdl 2 rfl) (by omega) (by omega))) ?_
      refine wpR_q 12 (by kernel_rfl) rfl (quietAt rfl rfl (q_loadInt (k := i) rfl rfl el_Int_3_LoopR1 (hS13o5.rdl 2 rfl) (by omega) (labU_sub [] rfl (List.forall_mem_nil _)))) ?_
      refine wpR_q 13 (by kernel_rfl) rfl (quietAt rfl rfl (q_mul rfl rfl rfl (by constructor <;> omega))) ?_
      refine wpR_q 14 (by kernel_rfl) rfl (quietAt rfl rfl (q_addW rfl rfl rfl)) ?_
      refine wpR_q 15 (by kernel_rfl) rfl (quietAt rfl rfl (q_assign (v := I (wrapI ((wrapI (dotTo (nth l k).Of s i)) + ((nth ((nth l k).Of) i) * (nth s i))))) rfl rfl)) ?_
      refine wpR_end (by kernel_rfl) ?_
      exact ⟨a11_0, a11_1, a11_5, rfl, a11_7, rfl⟩
    rintro f14 _ ⟨a14_0, a14_1, a14_5, a14_6, a14_7, rfl⟩
    clear a11_0 a11_1 a11_21 a11_5 a11_6 a11_7
    refine wpF_cut (fun f H => f 0 = vl ∧ f 1 = vs ∧ f 5 = I ((k : Int)) ∧ f 6 = I (wrapI ((wrapI (dotTo (nth l k).Of s i)) + ((nth ((nth l k).Of) i) * (nth s i)))) ∧ f 7 = I ((i : Int) + 1) ∧ H8 = H) ?_ ?_
    · refine wpF_region ?_
      refine wpL_q (U := NoB) rfl (q_move (v := I ((i : Int))) rfl a14_7) ?_
      refine wpL_q (U := NoB) rfl (q_add rfl rfl rfl (by constructor <;> omega)) ?_
      refine wpL_q (U := NoB) rfl (q_assign (v := I ((i : Int) + 1)) rfl rfl) ?_
      exact ⟨a14_0, a14_1, a14_5, a14_6, rfl, rfl⟩
    rintro f15 _ ⟨a15_0, a15_1, a15_5, a15_6, a15_7, rfl⟩
    clear a14_0 a14_1 a14_5 a14_6 a14_7
    refine ⟨_, ?_, i + 1, rfl, (by omega), a15_0, a15_1, a15_5, (Eq.trans a15_6 (congrArg I wrapI_add)), (Eq.trans a15_7 (congrArg I (by omega))), hS8⟩
    omega
  have hie : i = (nth l k).Of.length := by omega
  have hw : wrapI (dotTo (nth l k).Of s i) = dotL (nth l k).Of s := by rw [hie]; exact wrapI_in (hh.sum k (by omega))
  refine wpF_exit ?_
  refine atX_here ?_
  refine wpF_seq ?_
  refine wpF_cut (fun f H => (In64 (nth l k).Kind) ∧ f 0 = vl ∧ f 1 = vs ∧ f 5 = I ((k : Int)) ∧ f 87 = B (decide ((((((nth l k).Kind) = 1) ∧ (((nth l k).To) < (wrapI (dotTo (nth l k).Of s i)))) ∨ ((((nth l k).Kind) = 2) ∧ (((nth l k).To) ≤ (wrapI (dotTo (nth l k).Of s i))))) ∨ ((((nth l k).Kind) = 3) ∧ ((wrapI (dotTo (nth l k).Of s i)) ≠ ((nth l k).To))))) ∧ H8 = H) ?_ ?_
  · refine wpF_region ?_
    refine wpL_q (U := NoB) rfl (q_move (v := vl) rfl a11_0) ?_
    refine wpL_q (U := NoB) rfl (q_move (v := I ((k : Int))) rfl a11_5) ?_
    refine wpL_q (U := NoB) rfl (q_indexRd (k := k) rfl Try.underlying22 el_LRow_34_LoopR1 rfl rfl (hS8.rdl 0 rfl) (by omega) (by omega)) ?_
    refine wpL_q (U := NoB) rfl (q_fieldE (k := k) rfl Try.underlying34 rfl Try.sizeOf3 rfl rfl (hS8.rdl 0 rfl) (by omega)) ?_
    obtain ⟨_, hcu16, hFu16⟩ := (Rd.list.1 (hS8.rdS 0 rfl)).cellF k (by omega)
    obtain ⟨u16n0, rfl, hu160, hu161, hu162⟩ := hcu16
    refine wpL_q (U := NoB) rfl (q_loadF rfl rfl (hFu16 1 _ Try.prog 3 _ rfl Try.isAgg3 (fun _ h => False.elim h))) ?_
    refine wpL_q (U := NoB) rfl (q_eql rfl rfl rfl) ?_
    refine wpL_q (U := NoB) rfl (q_move (v := B (decide (((nth l k).Kind) = 1))) rfl rfl) ?_
    by_cases hg17 : ((nth l k).Kind) = 1
    · have hb18 := Eq.trans rfl (congrArg B (decide_eq_true hg17))
      refine wpL_gq (U := NoB) rfl rfl rfl hb18 (q_move (v := I (wrapI (dotTo (nth l k).Of s i))) rfl a11_6) ?_
      refine wpL_gq (U := NoB) rfl rfl rfl hb18 (q_move (v := vl) rfl a11_0) ?_
      refine wpL_gq (U := NoB) rfl rfl rfl hb18 (q_move (v := I ((k : Int))) rfl a11_5) ?_
      refine wpL_gq (U := NoB) rfl rfl rfl hb18 (q_indexRd (k := k) rfl Try.underlying22 el_LRow_34_LoopR1 rfl rfl (hS8.rdl 0 rfl) (by omega) (by omega)) ?_
      refine wpL_gq (U := NoB) rfl rfl rfl hb18 (q_fieldE (k := k) rfl Try.underlying34 rfl Try.sizeOf3 rfl rfl (hS8.rdl 0 rfl) (by omega)) ?_
      obtain ⟨_, hcu20, hFu20⟩ := (Rd.list.1 (hS8.rdS 0 rfl)).cellF k (by omega)
      obtain ⟨u20n0, rfl, hu200, hu201, hu202⟩ := hcu20
      refine wpL_gq (U := NoB) rfl rfl rfl hb18 (q_loadF rfl rfl (hFu20 2 _ Try.prog 3 _ rfl Try.isAgg3 (fun _ h => False.elim h))) ?_
      refine wpL_gq (U := NoB) rfl rfl rfl hb18 (q_gtr rfl rfl rfl) ?_
      refine wpL_q (U := NoB) rfl (q_pickT (v := B (decide (((nth l k).To) < (wrapI (dotTo (nth l k).Of s i))))) rfl hb18 rfl) ?_
      refine wpL_q (U := NoB) rfl (q_move (v := B (decide (((nth l k).To) < (wrapI (dotTo (nth l k).Of s i))))) rfl rfl) ?_
      by_cases hg21 : ((nth l k).To) < (wrapI (dotTo (nth l k).Of s i))
      · have hb22 := Eq.trans rfl (congrArg B (decide_eq_true hg21))
        refine wpL_gs rfl rfl rfl hb22 rfl ?_
        refine wpL_gs rfl rfl rfl hb22 rfl ?_
        refine wpL_gs rfl rfl rfl hb22 rfl ?_
        refine wpL_gs rfl rfl rfl hb22 rfl ?_
        refine wpL_gs rfl rfl rfl hb22 rfl ?_
        refine wpL_gs rfl rfl rfl hb22 rfl ?_
        refine wpL_gs rfl rfl rfl hb22 rfl ?_
        refine wpL_gs' rfl rfl rfl rfl ?_
        refine wpL_gs' rfl rfl rfl rfl ?_
        refine wpL_gs' rfl rfl rfl rfl ?_
        refine wpL_gs' rfl rfl rfl rfl ?_
        refine wpL_gs' rfl rfl rfl rfl ?_
        refine wpL_gs' rfl rfl rfl rfl ?_
        refine wpL_gs' rfl rfl rfl rfl ?_
        refine wpL_gs rfl rfl rfl hb22 rfl ?_
        refine wpL_q (U := NoB) rfl (q_pickT (v := B (true)) rfl hb22 rfl) ?_
        refine wpL_q (U := NoB) rfl (q_move (v := B (true)) rfl rfl) ?_
        refine wpL_gs rfl rfl rfl rfl rfl ?_
        refine wpL_gs rfl rfl rfl rfl rfl ?_
        refine wpL_gs rfl rfl rfl rfl rfl ?_
        refine wpL_gs rfl rfl rfl rfl rfl ?_
        refine wpL_gs rfl rfl rfl rfl rfl ?_
        refine wpL_gs rfl rfl rfl rfl rfl ?_
        refine wpL_gs rfl rfl rfl rfl rfl ?_
        refine wpL_gs' rfl rfl rfl rfl ?_
        refine wpL_gs' rfl rfl rfl rfl ?_
        refine wpL_gs' rfl rfl rfl rfl ?_
        refine wpL_gs' rfl rfl rfl rfl ?_
        refine wpL_gs' rfl rfl rfl rfl ?_
        refine wpL_gs' rfl rfl rfl rfl ?_
        refine wpL_gs' rfl rfl rfl rfl ?_
        refine wpL_gs rfl rfl rfl rfl rfl ?_
        refine wpL_q (U := NoB) rfl (q_pickT (v := B (true)) rfl rfl rfl) ?_
        exact ⟨hu161, a11_0, a11_1, a11_5, (Eq.trans rfl (congrArg B ((decide_eq_true (Or.inl (Or.inl ⟨hg17, hg21⟩))).symm))), rfl⟩
      · have hb23 := Eq.trans rfl (congrArg B (decide_eq_false hg21))
        refine wpL_gq (U := NoB) rfl rfl rfl hb23 (q_move (v := vl) rfl a11_0) ?_
        refine wpL_gq (U := NoB) rfl rfl rfl hb23 (q_move (v := I ((k : Int))) rfl a11_5) ?_
        refine wpL_gq (U := NoB) rfl rfl rfl hb23 (q_indexRd (k := k) rfl Try.underlying22 el_LRow_34_LoopR1 rfl rfl (hS8.rdl 0 rfl) (by omega) (by omega)) ?_
        refine wpL_gq (U := NoB) rfl rfl rfl hb23 (q_fieldE (k := k) rfl Try.underlying34 rfl Try.sizeOf3 rfl rfl (hS8.rdl 0 rfl) (by omega)) ?_
        obtain ⟨_, hcu24, hFu24⟩ := (Rd.list.1 (hS8.rdS 0 rfl)).cellF k (by omega)
        obtain ⟨u24n0, rfl, hu240, hu241, hu242⟩ := hcu24
        refine wpL_gq (U := NoB) rfl rfl rfl hb23 (q_loadF rfl rfl (hFu24 1 _ Try.prog 3 _ rfl Try.isAgg3 (fun _ h => False.elim h))) ?_
        refine wpL_gq (U := NoB) rfl rfl rfl hb23 (q_eql rfl rfl rfl) ?_
        refine wpL_gq (U := NoB) rfl rfl rfl hb23 (q_move (v := B (decide (((nth l k).Kind) = 2))) rfl rfl) ?_
        by_cases hg25 : ((nth l k).Kind) = 2
        · have hb26 := Eq.trans rfl (congrArg B (decide_eq_true hg25))
          refine wpL_gq (U := NoB) rfl rfl rfl hb26 (q_move (v := I (wrapI (dotTo (nth l k).Of s i))) rfl a11_6) ?_
          refine wpL_gq (U := NoB) rfl rfl rfl hb26 (q_move (v := vl) rfl a11_0) ?_
          refine wpL_gq (U := NoB) rfl rfl rfl hb26 (q_move (v := I ((k : Int))) rfl a11_5) ?_
          refine wpL_gq (U := NoB) rfl rfl rfl hb26 (q_indexRd (k := k) rfl Try.underlying22 el_LRow_34_LoopR1 rfl rfl (hS8.rdl 0 rfl) (by omega) (by omega)) ?_
          refine wpL_gq (U := NoB) rfl rfl rfl hb26 (q_fieldE (k := k) rfl Try.underlying34 rfl Try.sizeOf3 rfl rfl (hS8.rdl 0 rfl) (by omega)) ?_
          obtain ⟨_, hcu28, hFu28⟩ := (Rd.list.1 (hS8.rdS 0 rfl)).cellF k (by omega)
          obtain ⟨u28n0, rfl, hu280, hu281, hu282⟩ := hcu28
          refine wpL_gq (U := NoB) rfl rfl rfl hb26 (q_loadF rfl rfl (hFu28 2 _ Try.prog 3 _ rfl Try.isAgg3 (fun _ h => False.elim h))) ?_
          refine wpL_gq (U := NoB) rfl rfl rfl hb26 (q_geq rfl rfl rfl) ?_
          refine wpL_gq (U := NoB) rfl rfl rfl hb23 (q_pickT (v := B (decide (((nth l k).To) ≤ (wrapI (dotTo (nth l k).Of s i))))) rfl hb26 rfl) ?_
          refine wpL_q (U := NoB) rfl (q_pickF (v := B (decide (((nth l k).To) ≤ (wrapI (dotTo (nth l k).Of s i))))) rfl hb23 rfl) ?_
          refine wpL_q (U := NoB) rfl (q_move (v := B (decide (((nth l k).To) ≤ (wrapI (dotTo (nth l k).Of s i))))) rfl rfl) ?_
          by_cases hg29 : ((nth l k).To) ≤ (wrapI (dotTo (nth l k).Of s i))
          · have hb30 := Eq.trans rfl (congrArg B (decide_eq_true hg29))
            refine wpL_gs rfl rfl rfl hb30 rfl ?_
            refine wpL_gs rfl rfl rfl hb30 rfl ?_
            refine wpL_gs rfl rfl rfl hb30 rfl ?_
            refine wpL_gs rfl rfl rfl hb30 rfl ?_
            refine wpL_gs rfl rfl rfl hb30 rfl ?_
            refine wpL_gs rfl rfl rfl hb30 rfl ?_
            refine wpL_gs rfl rfl rfl hb30 rfl ?_
            refine wpL_gs' rfl rfl rfl rfl ?_
            refine wpL_gs' rfl rfl rfl rfl ?_
            refine wpL_gs' rfl rfl rfl rfl ?_
            refine wpL_gs' rfl rfl rfl rfl ?_
            refine wpL_gs' rfl rfl rfl rfl ?_
            refine wpL_gs' rfl rfl rfl rfl ?_
            refine wpL_gs' rfl rfl rfl rfl ?_
            refine wpL_gs rfl rfl rfl hb30 rfl ?_
            refine wpL_q (U := NoB) rfl (q_pickT (v := B (true)) rfl hb30 rfl) ?_
            exact ⟨hu161, a11_0, a11_1, a11_5, (Eq.trans rfl (congrArg B ((decide_eq_true (Or.inl (Or.inr ⟨hg25, hg29⟩))).symm))), rfl⟩
          · have hb31 := Eq.trans rfl (congrArg B (decide_eq_false hg29))
            refine wpL_gq (U := NoB) rfl rfl rfl hb31 (q_move (v := vl) rfl a11_0) ?_
            refine wpL_gq (U := NoB) rfl rfl rfl hb31 (q_move (v := I ((k : Int))) rfl a11_5) ?_
            refine wpL_gq (U := NoB) rfl rfl rfl hb31 (q_indexRd (k := k) rfl Try.underlying22 el_LRow_34_LoopR1 rfl rfl (hS8.rdl 0 rfl) (by omega) (by omega)) ?_
            refine wpL_gq (U := NoB) rfl rfl rfl hb31 (q_fieldE (k := k) rfl Try.underlying34 rfl Try.sizeOf3 rfl rfl (hS8.rdl 0 rfl) (by omega)) ?_
            obtain ⟨_, hcu32, hFu32⟩ := (Rd.list.1 (hS8.rdS 0 rfl)).cellF k (by omega)
            obtain ⟨u32n0, rfl, hu320, hu321, hu322⟩ := hcu32
            refine wpL_gq (U := NoB) rfl rfl rfl hb31 (q_loadF rfl rfl (hFu32 1 _ Try.prog 3 _ rfl Try.isAgg3 (fun _ h => False.elim h))) ?_
            refine wpL_gq (U := NoB) rfl rfl rfl hb31 (q_eql rfl rfl rfl) ?_
            refine wpL_gq (U := NoB) rfl rfl rfl hb31 (q_move (v := B (decide (((nth l k).Kind) = 3))) rfl rfl) ?_
            by_cases hg33 : ((nth l k).Kind) = 3
            · have hb34 := Eq.trans rfl (congrArg B (decide_eq_true hg33))
              refine wpL_gq (U := NoB) rfl rfl rfl hb34 (q_move (v := I (wrapI (dotTo (nth l k).Of s i))) rfl a11_6) ?_
              refine wpL_gq (U := NoB) rfl rfl rfl hb34 (q_move (v := vl) rfl a11_0) ?_
              refine wpL_gq (U := NoB) rfl rfl rfl hb34 (q_move (v := I ((k : Int))) rfl a11_5) ?_
              refine wpL_gq (U := NoB) rfl rfl rfl hb34 (q_indexRd (k := k) rfl Try.underlying22 el_LRow_34_LoopR1 rfl rfl (hS8.rdl 0 rfl) (by omega) (by omega)) ?_
              refine wpL_gq (U := NoB) rfl rfl rfl hb34 (q_fieldE (k := k) rfl Try.underlying34 rfl Try.sizeOf3 rfl rfl (hS8.rdl 0 rfl) (by omega)) ?_
              obtain ⟨_, hcu36, hFu36⟩ := (Rd.list.1 (hS8.rdS 0 rfl)).cellF k (by omega)
              obtain ⟨u36n0, rfl, hu360, hu361, hu362⟩ := hcu36
              refine wpL_gq (U := NoB) rfl rfl rfl hb34 (q_loadF rfl rfl (hFu36 2 _ Try.prog 3 _ rfl Try.isAgg3 (fun _ h => False.elim h))) ?_
              refine wpL_gq (U := NoB) rfl rfl rfl hb34 (q_neq rfl rfl rfl) ?_
              refine wpL_gq (U := NoB) rfl rfl rfl hb31 (q_pickT (v := B (decide ((wrapI (dotTo (nth l k).Of s i)) ≠ ((nth l k).To)))) rfl hb34 rfl) ?_
              refine wpL_q (U := NoB) rfl (q_pickF (v := B (decide ((wrapI (dotTo (nth l k).Of s i)) ≠ ((nth l k).To)))) rfl hb31 rfl) ?_
              exact ⟨hu161, a11_0, a11_1, a11_5, (Eq.trans rfl (congrArg B (decide_congr_of ((Iff.rfl).trans (((or_iff_right (not_or.2 ⟨(fun h => hg21 h.2), (fun h => hg29 h.2)⟩)).trans ((and_iff_right hg33).trans Iff.rfl))).symm)))), rfl⟩
            · have hb35 := Eq.trans rfl (congrArg B (decide_eq_false hg33))
              refine wpL_gs rfl rfl rfl hb35 rfl ?_
              refine wpL_gs rfl rfl rfl hb35 rfl ?_
              refine wpL_gs rfl rfl rfl hb35 rfl ?_
              refine wpL_gs rfl rfl rfl hb35 rfl ?_
              refine wpL_gs rfl rfl rfl hb35 rfl ?_
              refine wpL_gs rfl rfl rfl hb35 rfl ?_
              refine wpL_gs rfl rfl rfl hb35 rfl ?_
              refine wpL_gq (U := NoB) rfl rfl rfl hb31 (q_pickF (v := B (false)) rfl hb35 rfl) ?_
              refine wpL_q (U := NoB) rfl (q_pickF (v := B (false)) rfl hb31 rfl) ?_
              exact ⟨hu161, a11_0, a11_1, a11_5, (Eq.trans rfl (congrArg B ((decide_eq_false (not_or.2 ⟨(not_or.2 ⟨(fun h => hg21 h.2), (fun h => hg29 h.2)⟩), (fun h => hg33 h.1)⟩)).symm))), rfl⟩
        · have hb27 := Eq.trans rfl (congrArg B (decide_eq_false hg25))
          refine wpL_gs rfl rfl rfl hb27 rfl ?_
          refine wpL_gs rfl rfl rfl hb27 rfl ?_
          refine wpL_gs rfl rfl rfl hb27 rfl ?_
          refine wpL_gs rfl rfl rfl hb27 rfl ?_
          refine wpL_gs rfl rfl rfl hb27 rfl ?_
          refine wpL_gs rfl rfl rfl hb27 rfl ?_
          refine wpL_gs rfl rfl rfl hb27 rfl ?_
          refine wpL_gq (U := NoB) rfl rfl rfl hb23 (q_pickF (v := B (false)) rfl hb27 rfl) ?_
          refine wpL_q (U := NoB) rfl (q_pickF (v := B (false)) rfl hb23 rfl) ?_
          refine wpL_q (U := NoB) rfl (q_move (v := B (false)) rfl rfl) ?_
          refine wpL_gq (U := NoB) rfl rfl rfl rfl (q_move (v := vl) rfl a11_0) ?_
          refine wpL_gq (U := NoB) rfl rfl rfl rfl (q_move (v := I ((k : Int))) rfl a11_5) ?_
          refine wpL_gq (U := NoB) rfl rfl rfl rfl (q_indexRd (k := k) rfl Try.underlying22 el_LRow_34_LoopR1 rfl rfl (hS8.rdl 0 rfl) (by omega) (by omega)) ?_
          refine wpL_gq (U := NoB) rfl rfl rfl rfl (q_fieldE (k := k) rfl Try.underlying34 rfl Try.sizeOf3 rfl rfl (hS8.rdl 0 rfl) (by omega)) ?_
          obtain ⟨_, hcu37, hFu37⟩ := (Rd.list.1 (hS8.rdS 0 rfl)).cellF k (by omega)
          obtain ⟨u37n0, rfl, hu370, hu371, hu372⟩ := hcu37
          refine wpL_gq (U := NoB) rfl rfl rfl rfl (q_loadF rfl rfl (hFu37 1 _ Try.prog 3 _ rfl Try.isAgg3 (fun _ h => False.elim h))) ?_
          refine wpL_gq (U := NoB) rfl rfl rfl rfl (q_eql rfl rfl rfl) ?_
          refine wpL_gq (U := NoB) rfl rfl rfl rfl (q_move (v := B (decide (((nth l k).Kind) = 3))) rfl rfl) ?_
          by_cases hg38 : ((nth l k).Kind) = 3
          · have hb39 := Eq.trans rfl (congrArg B (decide_eq_true hg38))
            refine wpL_gq (U := NoB) rfl rfl rfl hb39 (q_move (v := I (wrapI (dotTo (nth l k).Of s i))) rfl a11_6) ?_
            refine wpL_gq (U := NoB) rfl rfl rfl hb39 (q_move (v := vl) rfl a11_0) ?_
            refine wpL_gq (U := NoB) rfl rfl rfl hb39 (q_move (v := I ((k : Int))) rfl a11_5) ?_
            refine wpL_gq (U := NoB) rfl rfl rfl hb39 (q_indexRd (k := k) rfl Try.underlying22 el_LRow_34_LoopR1 rfl rfl (hS8.rdl 0 rfl) (by omega) (by omega)) ?_
            refine wpL_gq (U := NoB) rfl rfl rfl hb39 (q_fieldE (k := k) rfl Try.underlying34 rfl Try.sizeOf3 rfl rfl (hS8.rdl 0 rfl) (by omega)) ?_
            obtain ⟨_, hcu41, hFu41⟩ := (Rd.list.1 (hS8.rdS 0 rfl)).cellF k (by omega)
            obtain ⟨u41n0, rfl, hu410, hu411, hu412⟩ := hcu41
            refine wpL_gq (U := NoB) rfl rfl rfl hb39 (q_loadF rfl rfl (hFu41 2 _ Try.prog 3 _ rfl Try.isAgg3 (fun _ h => False.elim h))) ?_
            refine wpL_gq (U := NoB) rfl rfl rfl hb39 (q_neq rfl rfl rfl) ?_
            refine wpL_gq (U := NoB) rfl rfl rfl rfl (q_pickT (v := B (decide ((wrapI (dotTo (nth l k).Of s i)) ≠ ((nth l k).To)))) rfl hb39 rfl) ?_
            refine wpL_q (U := NoB) rfl (q_pickF (v := B (decide ((wrapI (dotTo (nth l k).Of s i)) ≠ ((nth l k).To)))) rfl rfl rfl) ?_
            exact ⟨hu161, a11_0, a11_1, a11_5, (Eq.trans rfl (congrArg B (decide_congr_of ((Iff.rfl).trans (((or_iff_right (not_or.2 ⟨(fun h => hg21 h.2), (fun h => hg25 h.1)⟩)).trans ((and_iff_right hg38).trans Iff.rfl))).symm)))), rfl⟩
          · have hb40 := Eq.trans rfl (congrArg B (decide_eq_false hg38))
            refine wpL_gs rfl rfl rfl hb40 rfl ?_
            refine wpL_gs rfl rfl rfl hb40 rfl ?_
            refine wpL_gs rfl rfl rfl hb40 rfl ?_
            refine wpL_gs rfl rfl rfl hb40 rfl ?_
            refine wpL_gs rfl rfl rfl hb40 rfl ?_
            refine wpL_gs rfl rfl rfl hb40 rfl ?_
            refine wpL_gs rfl rfl rfl hb40 rfl ?_
            refine wpL_gq (U := NoB) rfl rfl rfl rfl (q_pickF (v := B (false)) rfl hb40 rfl) ?_
            refine wpL_q (U := NoB) rfl (q_pickF (v := B (false)) rfl rfl rfl) ?_
            exact ⟨hu161, a11_0, a11_1, a11_5, (Eq.trans rfl (congrArg B ((decide_eq_false (not_or.2 ⟨(not_or.2 ⟨(fun h => hg21 h.2), (fun h => hg25 h.1)⟩), (fun h => hg38 h.1)⟩)).symm))), rfl⟩
    · have hb19 := Eq.trans rfl (congrArg B (decide_eq_false hg17))
      refine wpL_gs rfl rfl rfl hb19 rfl ?_
      refine wpL_gs rfl rfl rfl hb19 rfl ?_
      refine wpL_gs rfl rfl rfl hb19 rfl ?_
      refine wpL_gs rfl rfl rfl hb19 rfl ?_
      refine wpL_gs rfl rfl rfl hb19 rfl ?_
      refine wpL_gs rfl rfl rfl hb19 rfl ?_
      refine wpL_gs rfl rfl rfl hb19 rfl ?_
      refine wpL_q (U := NoB) rfl (q_pickF (v := B (false)) rfl hb19 rfl) ?_
      refine wpL_q (U := NoB) rfl (q_move (v := B (false)) rfl rfl) ?_
      refine wpL_gq (U := NoB) rfl rfl rfl rfl (q_move (v := vl) rfl a11_0) ?_
      refine wpL_gq (U := NoB) rfl rfl rfl rfl (q_move (v := I ((k : Int))) rfl a11_5) ?_
      refine wpL_gq (U := NoB) rfl rfl rfl rfl (q_indexRd (k := k) rfl Try.underlying22 el_LRow_34_LoopR1 rfl rfl (hS8.rdl 0 rfl) (by omega) (by omega)) ?_
      refine wpL_gq (U := NoB) rfl rfl rfl rfl (q_fieldE (k := k) rfl Try.underlying34 rfl Try.sizeOf3 rfl rfl (hS8.rdl 0 rfl) (by omega)) ?_
      obtain ⟨_, hcu42, hFu42⟩ := (Rd.list.1 (hS8.rdS 0 rfl)).cellF k (by omega)
      obtain ⟨u42n0, rfl, hu420, hu421, hu422⟩ := hcu42
      refine wpL_gq (U := NoB) rfl rfl rfl rfl (q_loadF rfl rfl (hFu42 1 _ Try.prog 3 _ rfl Try.isAgg3 (fun _ h => False.elim h))) ?_
      refine wpL_gq (U := NoB) rfl rfl rfl rfl (q_eql rfl rfl rfl) ?_
      refine wpL_gq (U := NoB) rfl rfl rfl rfl (q_move (v := B (decide (((nth l k).Kind) = 2))) rfl rfl) ?_
      by_cases hg43 : ((nth l k).Kind) = 2
      · have hb44 := Eq.trans rfl (congrArg B (decide_eq_true hg43))
        refine wpL_gq (U := NoB) rfl rfl rfl hb44 (q_move (v := I (wrapI (dotTo (nth l k).Of s i))) rfl a11_6) ?_
        refine wpL_gq (U := NoB) rfl rfl rfl hb44 (q_move (v := vl) rfl a11_0) ?_
        refine wpL_gq (U := NoB) rfl rfl rfl hb44 (q_move (v := I ((k : Int))) rfl a11_5) ?_
        refine wpL_gq (U := NoB) rfl rfl rfl hb44 (q_indexRd (k := k) rfl Try.underlying22 el_LRow_34_LoopR1 rfl rfl (hS8.rdl 0 rfl) (by omega) (by omega)) ?_
        refine wpL_gq (U := NoB) rfl rfl rfl hb44 (q_fieldE (k := k) rfl Try.underlying34 rfl Try.sizeOf3 rfl rfl (hS8.rdl 0 rfl) (by omega)) ?_
        obtain ⟨_, hcu46, hFu46⟩ := (Rd.list.1 (hS8.rdS 0 rfl)).cellF k (by omega)
        obtain ⟨u46n0, rfl, hu460, hu461, hu462⟩ := hcu46
        refine wpL_gq (U := NoB) rfl rfl rfl hb44 (q_loadF rfl rfl (hFu46 2 _ Try.prog 3 _ rfl Try.isAgg3 (fun _ h => False.elim h))) ?_
        refine wpL_gq (U := NoB) rfl rfl rfl hb44 (q_geq rfl rfl rfl) ?_
        refine wpL_gq (U := NoB) rfl rfl rfl rfl (q_pickT (v := B (decide (((nth l k).To) ≤ (wrapI (dotTo (nth l k).Of s i))))) rfl hb44 rfl) ?_
        refine wpL_q (U := NoB) rfl (q_pickF (v := B (decide (((nth l k).To) ≤ (wrapI (dotTo (nth l k).Of s i))))) rfl rfl rfl) ?_
        refine wpL_q (U := NoB) rfl (q_move (v := B (decide (((nth l k).To) ≤ (wrapI (dotTo (nth l k).Of s i))))) rfl rfl) ?_
        by_cases hg47 : ((nth l k).To) ≤ (wrapI (dotTo (nth l k).Of s i))
        · have hb48 := Eq.trans rfl (congrArg B (decide_eq_true hg47))
          refine wpL_gs rfl rfl rfl hb48 rfl ?_
          refine wpL_gs rfl rfl rfl hb48 rfl ?_
          refine wpL_gs rfl rfl rfl hb48 rfl ?_
          refine wpL_gs rfl rfl rfl hb48 rfl ?_
          refine wpL_gs rfl rfl rfl hb48 rfl ?_
          refine wpL_gs rfl rfl rfl hb48 rfl ?_
          refine wpL_gs rfl rfl rfl hb48 rfl ?_
          refine wpL_gs' rfl rfl rfl rfl ?_
          refine wpL_gs' rfl rfl rfl rfl ?_
          refine wpL_gs' rfl rfl rfl rfl ?_
          refine wpL_gs' rfl rfl rfl rfl ?_
          refine wpL_gs' rfl rfl rfl rfl ?_
          refine wpL_gs' rfl rfl rfl rfl ?_
          refine wpL_gs' rfl rfl rfl rfl ?_
          refine wpL_gs rfl rfl rfl hb48 rfl ?_
          refine wpL_q (U := NoB) rfl (q_pickT (v := B (true)) rfl hb48 rfl) ?_
          exact ⟨hu161, a11_0, a11_1, a11_5, (Eq.trans rfl (congrArg B ((decide_eq_true (Or.inl (Or.inr ⟨hg43, hg47⟩))).symm))), rfl⟩
        · have hb49 := Eq.trans rfl (congrArg B (decide_eq_false hg47))
          refine wpL_gq (U := NoB) rfl rfl rfl hb49 (q_move (v := vl) rfl a11_0) ?_
          refine wpL_gq (U := NoB) rfl rfl rfl hb49 (q_move (v := I ((k : Int))) rfl a11_5) ?_
          refine wpL_gq (U := NoB) rfl rfl rfl hb49 (q_indexRd (k := k) rfl Try.underlying22 el_LRow_34_LoopR1 rfl rfl (hS8.rdl 0 rfl) (by omega) (by omega)) ?_
          refine wpL_gq (U := NoB) rfl rfl rfl hb49 (q_fieldE (k := k) rfl Try.underlying34 rfl Try.sizeOf3 rfl rfl (hS8.rdl 0 rfl) (by omega)) ?_
          obtain ⟨_, hcu50, hFu50⟩ := (Rd.list.1 (hS8.rdS 0 rfl)).cellF k (by omega)
          obtain ⟨u50n0, rfl, hu500, hu501, hu502⟩ := hcu50
          refine wpL_gq (U := NoB) rfl rfl rfl hb49 (q_loadF rfl rfl (hFu50 1 _ Try.prog 3 _ rfl Try.isAgg3 (fun _ h => False.elim h))) ?_
          refine wpL_gq (U := NoB) rfl rfl rfl hb49 (q_eql rfl rfl rfl) ?_
          refine wpL_gq (U := NoB) rfl rfl rfl hb49 (q_move (v := B (decide (((nth l k).Kind) = 3))) rfl rfl) ?_
          by_cases hg51 : ((nth l k).Kind) = 3
          · have hb52 := Eq.trans rfl (congrArg B (decide_eq_true hg51))
            refine wpL_gq (U := NoB) rfl rfl rfl hb52 (q_move (v := I (wrapI (dotTo (nth l k).Of s i))) rfl a11_6) ?_
            refine wpL_gq (U := NoB) rfl rfl rfl hb52 (q_move (v := vl) rfl a11_0) ?_
            refine wpL_gq (U := NoB) rfl rfl rfl hb52 (q_move (v := I ((k : Int))) rfl a11_5) ?_
            refine wpL_gq (U := NoB) rfl rfl rfl hb52 (q_indexRd (k := k) rfl Try.underlying22 el_LRow_34_LoopR1 rfl rfl (hS8.rdl 0 rfl) (by omega) (by omega)) ?_
            refine wpL_gq (U := NoB) rfl rfl rfl hb52 (q_fieldE (k := k) rfl Try.underlying34 rfl Try.sizeOf3 rfl rfl (hS8.rdl 0 rfl) (by omega)) ?_
            obtain ⟨_, hcu54, hFu54⟩ := (Rd.list.1 (hS8.rdS 0 rfl)).cellF k (by omega)
            obtain ⟨u54n0, rfl, hu540, hu541, hu542⟩ := hcu54
            refine wpL_gq (U := NoB) rfl rfl rfl hb52 (q_loadF rfl rfl (hFu54 2 _ Try.prog 3 _ rfl Try.isAgg3 (fun _ h => False.elim h))) ?_
            refine wpL_gq (U := NoB) rfl rfl rfl hb52 (q_neq rfl rfl rfl) ?_
            refine wpL_gq (U := NoB) rfl rfl rfl hb49 (q_pickT (v := B (decide ((wrapI (dotTo (nth l k).Of s i)) ≠ ((nth l k).To)))) rfl hb52 rfl) ?_
            refine wpL_q (U := NoB) rfl (q_pickF (v := B (decide ((wrapI (dotTo (nth l k).Of s i)) ≠ ((nth l k).To)))) rfl hb49 rfl) ?_
            exact ⟨hu161, a11_0, a11_1, a11_5, (Eq.trans rfl (congrArg B (decide_congr_of ((Iff.rfl).trans (((or_iff_right (not_or.2 ⟨(fun h => hg17 h.1), (fun h => hg47 h.2)⟩)).trans ((and_iff_right hg51).trans Iff.rfl))).symm)))), rfl⟩
          · have hb53 := Eq.trans rfl (congrArg B (decide_eq_false hg51))
            refine wpL_gs rfl rfl rfl hb53 rfl ?_
            refine wpL_gs rfl rfl rfl hb53 rfl ?_
            refine wpL_gs rfl rfl rfl hb53 rfl ?_
            refine wpL_gs rfl rfl rfl hb53 rfl ?_
            refine wpL_gs rfl rfl rfl hb53 rfl ?_
            refine wpL_gs rfl rfl rfl hb53 rfl ?_
            refine wpL_gs rfl rfl rfl hb53 rfl ?_
            refine wpL_gq (U := NoB) rfl rfl rfl hb49 (q_pickF (v := B (false)) rfl hb53 rfl) ?_
            refine wpL_q (U := NoB) rfl (q_pickF (v := B (false)) rfl hb49 rfl) ?_
            exact ⟨hu161, a11_0, a11_1, a11_5, (Eq.trans rfl (congrArg B ((decide_eq_false (not_or.2 ⟨(not_or.2 ⟨(fun h => hg17 h.1), (fun h => hg47 h.2)⟩), (fun h => hg51 h.1)⟩)).symm))), rfl⟩
      · have hb45 := Eq.trans rfl (congrArg B (decide_eq_false hg43))
        refine wpL_gs rfl rfl rfl hb45 rfl ?_
        refine wpL_gs rfl rfl rfl hb45 rfl ?_
        refine wpL_gs rfl rfl rfl hb45 rfl ?_
        refine wpL_gs rfl rfl rfl hb45 rfl ?_
        refine wpL_gs rfl rfl rfl hb45 rfl ?_
        refine wpL_gs rfl rfl rfl hb45 rfl ?_
        refine wpL_gs rfl rfl rfl hb45 rfl ?_
        refine wpL_gq (U := NoB) rfl rfl rfl rfl (q_pickF (v := B (false)) rfl hb45 rfl) ?_
        refine wpL_q (U := NoB) rfl (q_pickF (v := B (false)) rfl rfl rfl) ?_
        refine wpL_q (U := NoB) rfl (q_move (v := B (false)) rfl rfl) ?_
        refine wpL_gq (U := NoB) rfl rfl rfl rfl (q_move (v := vl) rfl a11_0) ?_
        refine wpL_gq (U := NoB) rfl rfl rfl rfl (q_move (v := I ((k : Int))) rfl a11_5) ?_
        refine wpL_gq (U := NoB) rfl rfl rfl rfl (q_indexRd (k := k) rfl Try.underlying22 el_LRow_34_LoopR1 rfl rfl (hS8.rdl 0 rfl) (by omega) (by omega)) ?_
        refine wpL_gq (U := NoB) rfl rfl rfl rfl (q_fieldE (k := k) rfl Try.underlying34 rfl Try.sizeOf3 rfl rfl (hS8.rdl 0 rfl) (by omega)) ?_
        obtain ⟨_, hcu55, hFu55⟩ := (Rd.list.1 (hS8.rdS 0 rfl)).cellF k (by omega)
        obtain ⟨u55n0, rfl, hu550, hu551, hu552⟩ := hcu55
        refine wpL_gq (U := NoB) rfl rfl rfl rfl (q_loadF rfl rfl (hFu55 1 _ Try.prog 3 _ rfl Try.isAgg3 (fun _ h => False.elim h))) ?_
        refine wpL_gq (U := NoB) rfl rfl rfl rfl (q_eql rfl rfl rfl) ?_
        refine wpL_gq (U := NoB) rfl rfl rfl rfl (q_move (v := B (decide (((nth l k).Kind) = 3))) rfl rfl) ?_
        by_cases hg56 : ((nth l k).Kind) = 3
        · have hb57 := Eq.trans rfl (congrArg B (decide_eq_true hg56))
          refine wpL_gq (U := NoB) rfl rfl rfl hb57 (q_move (v := I (wrapI (dotTo (nth l k).Of s i))) rfl a11_6) ?_
          refine wpL_gq (U := NoB) rfl rfl rfl hb57 (q_move (v := vl) rfl a11_0) ?_
          refine wpL_gq (U := NoB) rfl rfl rfl hb57 (q_move (v := I ((k : Int))) rfl a11_5) ?_
          refine wpL_gq (U := NoB) rfl rfl rfl hb57 (q_indexRd (k := k) rfl Try.underlying22 el_LRow_34_LoopR1 rfl rfl (hS8.rdl 0 rfl) (by omega) (by omega)) ?_
          refine wpL_gq (U := NoB) rfl rfl rfl hb57 (q_fieldE (k := k) rfl Try.underlying34 rfl Try.sizeOf3 rfl rfl (hS8.rdl 0 rfl) (by omega)) ?_
          obtain ⟨_, hcu59, hFu59⟩ := (Rd.list.1 (hS8.rdS 0 rfl)).cellF k (by omega)
          obtain ⟨u59n0, rfl, hu590, hu591, hu592⟩ := hcu59
          refine wpL_gq (U := NoB) rfl rfl rfl hb57 (q_loadF rfl rfl (hFu59 2 _ Try.prog 3 _ rfl Try.isAgg3 (fun _ h => False.elim h))) ?_
          refine wpL_gq (U := NoB) rfl rfl rfl hb57 (q_neq rfl rfl rfl) ?_
          refine wpL_gq (U := NoB) rfl rfl rfl rfl (q_pickT (v := B (decide ((wrapI (dotTo (nth l k).Of s i)) ≠ ((nth l k).To)))) rfl hb57 rfl) ?_
          refine wpL_q (U := NoB) rfl (q_pickF (v := B (decide ((wrapI (dotTo (nth l k).Of s i)) ≠ ((nth l k).To)))) rfl rfl rfl) ?_
          exact ⟨hu161, a11_0, a11_1, a11_5, (Eq.trans rfl (congrArg B (decide_congr_of ((Iff.rfl).trans (((or_iff_right (not_or.2 ⟨(fun h => hg17 h.1), (fun h => hg43 h.1)⟩)).trans ((and_iff_right hg56).trans Iff.rfl))).symm)))), rfl⟩
        · have hb58 := Eq.trans rfl (congrArg B (decide_eq_false hg56))
          refine wpL_gs rfl rfl rfl hb58 rfl ?_
          refine wpL_gs rfl rfl rfl hb58 rfl ?_
          refine wpL_gs rfl rfl rfl hb58 rfl ?_
          refine wpL_gs rfl rfl rfl hb58 rfl ?_
          refine wpL_gs rfl rfl rfl hb58 rfl ?_
          refine wpL_gs rfl rfl rfl hb58 rfl ?_
          refine wpL_gs rfl rfl rfl hb58 rfl ?_
          refine wpL_gq (U := NoB) rfl rfl rfl rfl (q_pickF (v := B (false)) rfl hb58 rfl) ?_
          refine wpL_q (U := NoB) rfl (q_pickF (v := B (false)) rfl rfl rfl) ?_
          exact ⟨hu161, a11_0, a11_1, a11_5, (Eq.trans rfl (congrArg B ((decide_eq_false (not_or.2 ⟨(not_or.2 ⟨(fun h => hg17 h.1), (fun h => hg43 h.1)⟩), (fun h => hg56 h.1)⟩)).symm))), rfl⟩
  rintro f60 _ ⟨hu161, a60_0, a60_1, a60_5, a60_87, rfl⟩
  clear a11_0 a11_1 a11_21 a11_5 a11_6 a11_7
  refine wpF_condP a60_87 (fun h87 => ?t64) (fun h87 => ?e64)
  case t64 =>
    refine wpF_seq ?_
    refine wpF_cut (fun f H => f 4 = B (false) ∧ H8 = H) ?_ ?_
    · refine wpF_region ?_
      refine wpL_q (U := NoB) rfl (q_assign (v := B (false)) rfl rfl) ?_
      exact ⟨rfl, rfl⟩
    rintro f62 _ ⟨a62_4, rfl⟩
    clear a60_0 a60_1 a60_5 a60_87
    refine wpF_ret ?_
    refine ⟨_, resT a62_4 resN, hS8.frame, ?_⟩
    show (B (false)) = B (holdB l s)
    exact congrArg B (decide_eq_false (fun h => h k (by omega) (by rw [hw] at h87; exact or_assoc.1 h87))).symm
  refine wpF_skip ?_
  refine wpF_cut (fun f H => f 0 = vl ∧ f 1 = vs ∧ f 5 = I ((k : Int) + 1) ∧ H8 = H) ?_ ?_
  · refine wpF_region ?_
    refine wpL_q (U := NoB) rfl (q_move (v := I ((k : Int))) rfl a60_5) ?_
    refine wpL_q (U := NoB) rfl (q_add rfl rfl rfl (by constructor <;> omega)) ?_
    refine wpL_q (U := NoB) rfl (q_assign (v := I ((k : Int) + 1)) rfl rfl) ?_
    exact ⟨a60_0, a60_1, rfl, rfl⟩
  rintro f63 _ ⟨a63_0, a63_1, a63_5, rfl⟩
  clear a60_0 a60_1 a60_5 a60_87
  refine ⟨_, ?_, k + 1, rfl, (by omega), (all_succ hp (by rw [hw] at h87; exact fun h => h87 (or_assoc.2 h))), a63_0, a63_1, (Eq.trans a63_5 (congrArg I (by omega))), hS8⟩
  omega

end Go.Um
