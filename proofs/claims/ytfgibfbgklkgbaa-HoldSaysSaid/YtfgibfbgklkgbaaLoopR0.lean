import Derived.Test.YtfgibfbgklkgbaaProg
import Derived.Test.YtfgibfbgklkgbaaLoopS1
import Derived.Test.YtfgibfbgklkgbaaUmSub
namespace Go.Um
open Go.Proofs
open GoT (sz ag rdc)
open KeyT (kv)

theorem el_Int_3_LoopR0 : ElT Try.prog Int 3 := ⟨Try.isAgg3, Try.sizeOf3⟩
theorem el_Jump_25_LoopR0 : ElT Try.prog Jump 25 := ⟨Try.isAgg25, Try.sizeOf25⟩
theorem el_LInt_32_LoopR0 : ElT Try.prog (List Int) 32 := ⟨Try.isAgg32, Try.sizeOf32⟩
theorem el_LRow_34_LoopR0 : ElT Try.prog LRow 34 := ⟨Try.isAgg34, Try.sizeOf34⟩

set_option maxRecDepth 100000 in
theorem Rows_R {H0 : Heap} (vl : Value) (l : List LRow) (n : Int) (rl : Rd NoB H0 vl l) : CallsH Try.prog 15 #[vl, I (n)] H0 (fun rv_ H' => Ext NoB H0 H' ∧ rv_ = I (rowsFault l n)) := by
  have hsl := (Rd.list.1 rl).small
  have hS0 : St H0 NoB NoB [rdE vl l] H0 := St.arg (St.start (fun _ h => h.elim)) (Bl0.nil) rl (fun _ h => h)
  refine callsH_of_wpF (args := [vl, I (n)]) (rs := [.tmp 4]) Try.func15 rfl Try.ntmps15 Try.results15 (by kernel_rfl) (Nat.le_of_ble_eq_true rfl) ?_
  have a0_0 : argF [vl, I (n)] 0 = vl := rfl
  have a0_1 : argF [vl, I (n)] 1 = I (n) := rfl
  generalize argF [vl, I (n)] = f0 at *
  refine wpF_seq ?_
  refine wpF_cut (fun f H => f 0 = vl ∧ f 1 = I (n) ∧ H0 = H) ?_ ?_
  · refine wpF_region ?_
    refine wpL_q (U := NoB) rfl (q_assign (v := I (0)) rfl rfl) ?_
    exact ⟨a0_0, a0_1, rfl⟩
  rintro f1 _ ⟨a1_0, a1_1, rfl⟩
  clear a0_0 a0_1
  refine wpF_seq ?_
  refine wpF_seq ?_
  refine wpF_cut (fun f H => f 0 = vl ∧ f 1 = I (n) ∧ f 10 = B (decide (40 < (l.length : Int))) ∧ H0 = H) ?_ ?_
  · refine wpF_region ?_
    refine wpL_q (U := NoB) rfl (q_move (v := vl) rfl a1_0) ?_
    refine wpL_q (U := NoB) rfl (q_lenRd rfl Try.underlying22 rfl (hS0.rdl 0 rfl)) ?_
    refine wpL_q (U := NoB) rfl (q_gtr rfl rfl rfl) ?_
    exact ⟨a1_0, a1_1, rfl, rfl⟩
  rintro f2 _ ⟨a2_0, a2_1, a2_10, rfl⟩
  clear a1_0 a1_1
  refine wpF_condP a2_10 (fun h1 => ?t52) (fun h1 => ?e52)
  case t52 =>
    refine wpF_seq ?_
    refine wpF_cut (fun f H => f 4 = I (2) ∧ H0 = H) ?_ ?_
    · refine wpF_region ?_
      refine wpL_q (U := NoB) rfl (q_assign (v := I (2)) rfl rfl) ?_
      exact ⟨rfl, rfl⟩
    rintro f4 _ ⟨a4_4, rfl⟩
    clear a2_0 a2_1 a2_10
    refine wpF_ret ?_
    refine ⟨_, resT a4_4 resN, hS0.frame, ?_⟩
    show (I (2)) = I (rowsFault l n)
    exact congrArg I (rowsFault_many h1).symm
  refine wpF_skip ?_
  refine wpF_seq ?_
  refine wpF_seq ?_
  refine wpF_cut (fun f H => f 0 = vl ∧ f 1 = I (n) ∧ f 5 = I (0) ∧ H0 = H) ?_ ?_
  · refine wpF_region ?_
    refine wpL_q (U := NoB) rfl (q_assign (v := I (0)) rfl rfl) ?_
    exact ⟨a2_0, a2_1, rfl, rfl⟩
  rintro f5 _ ⟨a5_0, a5_1, a5_5, rfl⟩
  clear a2_0 a2_1 a2_10
  refine wpF_block ?_
  refine wpF_loop (fun mz f H => ∃ (k : Nat), mz = l.length - k ∧ (k ≤ l.length) ∧ (∀ j, j < k → rowFault n (nth l j) = 0) ∧ f 0 = vl ∧ f 1 = I (n) ∧ f 5 = I ((k : Int)) ∧ St H0 NoB NoB [rdE vl l] H) (l.length - 0) ?_ ?_
  · exact ⟨0, rfl, Nat.zero_le _, (fun j hj => absurd hj (Nat.not_lt_zero j)), a5_0, a5_1, (Eq.trans a5_5 (congrArg I (by omega))), hS0⟩
  intro m6 f6 H6 hI6
  obtain ⟨k, hm6, hk, hp, a6_0, a6_1, a6_5, hS6⟩ := hI6
  clear a5_0 a5_1 a5_5
  refine wpF_seq ?_
  refine wpF_seq ?_
  refine wpF_cut (fun f H => f 0 = vl ∧ f 1 = I (n) ∧ f 5 = I ((k : Int)) ∧ f 14 = B (decide ((k : Int) < (l.length : Int))) ∧ H6 = H) ?_ ?_
  · refine wpF_region ?_
    refine wpL_q (U := NoB) rfl (q_move (v := I ((k : Int))) rfl a6_5) ?_
    refine wpL_q (U := NoB) rfl (q_move (v := vl) rfl a6_0) ?_
    refine wpL_q (U := NoB) rfl (q_lenRd rfl Try.underlying22 rfl (hS6.rdl 0 rfl)) ?_
    refine wpL_q (U := NoB) rfl (q_lss rfl rfl rfl) ?_
    exact ⟨a6_0, a6_1, a6_5, rfl, rfl⟩
  rintro f7 _ ⟨a7_0, a7_1, a7_5, a7_14, rfl⟩
  clear a6_0 a6_1 a6_5
  refine wpF_condP a7_14 (fun hlt => ?t51) (fun hlt => ?e51)
  case e51 =>
    refine wpF_exit ?_
    refine atX_here ?_
    refine wpF_seq ?_
    refine wpF_cut (fun f H => f 4 = I (0) ∧ H6 = H) ?_ ?_
    · refine wpF_region ?_
      refine wpL_q (U := NoB) rfl (q_assign (v := I (0)) rfl rfl) ?_
      exact ⟨rfl, rfl⟩
    rintro f50 _ ⟨a50_4, rfl⟩
    clear a7_0 a7_1 a7_14 a7_5
    refine wpF_ret ?_
    refine ⟨_, resT a50_4 resN, hS6.frame, ?_⟩
    show (I (0)) = I (rowsFault l n)
    exact congrArg I (rowsFault_no h1 fun j hj => hp j (by omega)).symm
  have hso := LRow.small rl (k := k) (by omega)
  refine wpF_skip ?_
  refine wpF_seq ?_
  refine wpF_block ?_
  refine wpF_seq ?_
  refine wpF_seq ?_
  refine wpF_cut (fun f H => (In64 (nth l k).Kind) ∧ f 0 = vl ∧ f 1 = I (n) ∧ f 5 = I ((k : Int)) ∧ f 23 = B (decide (¬ (1 ≤ ((nth l k).Kind) ∧ ((nth l k).Kind) ≤ 3))) ∧ St H0 NoB NoB [rdE vl l] H) ?_ ?_
  · refine wpF_region ?_
    refine wpL_q (U := NoB) rfl (q_move (v := vl) rfl a7_0) ?_
    refine wpL_q (U := NoB) rfl (q_move (v := I ((k : Int))) rfl a7_5) ?_
    refine wpL_q (U := NoB) rfl (q_indexRd (k := k) rfl Try.underlying22 el_LRow_34_LoopR0 rfl rfl (hS6.rdl 0 rfl) (by omega) (by omega)) ?_
    refine wpL_q (U := NoB) rfl (q_fieldE (k := k) rfl Try.underlying34 rfl Try.sizeOf3 rfl rfl (hS6.rdl 0 rfl) (by omega)) ?_
    obtain ⟨_, hcu9, hFu9⟩ := (Rd.list.1 (hS6.rdS 0 rfl)).cellF k (by omega)
    obtain ⟨u9n0, rfl, hu90, hu91, hu92⟩ := hcu9
    refine wpL_q (U := NoB) rfl (q_loadF rfl rfl (hFu9 1 _ Try.prog 3 _ rfl Try.isAgg3 (fun _ h => False.elim h))) ?_
    refine wpL_o rfl ?_
    refine e_call rfl Try.call44 (arr3 (v0 := I ((nth l k).Kind)) (v1 := I (1)) (v2 := I (3)) rfl rfl rfl) (in_R ((nth l k).Kind) 1 3) ?_
    rintro _ H10 ⟨hxx, rfl⟩
    have hS11 : St H0 NoB NoB [rdE vl l] H10 := hS6.ext hxx
    refine wpL_q (U := NoB) rfl (q_notP rfl rfl) ?_
    exact ⟨hu91, a7_0, a7_1, a7_5, rfl, hS11⟩
  rintro f13 H13 ⟨hu91, a13_0, a13_1, a13_5, a13_23, hS13⟩
  clear a7_0 a7_1 a7_14 a7_5
  refine wpF_condP a13_23 (fun h2 => ?t49) (fun h2 => ?e49)
  case t49 =>
    refine wpF_seq ?_
    refine wpF_cut (fun f H => f 4 = I (4) ∧ H13 = H) ?_ ?_
    · refine wpF_region ?_
      refine wpL_q (U := NoB) rfl (q_assign (v := I (4)) rfl rfl) ?_
      exact ⟨rfl, rfl⟩
    rintro f15 _ ⟨a15_4, rfl⟩
    clear a13_0 a13_1 a13_23 a13_5
    refine wpF_ret ?_
    refine ⟨_, resT a15_4 resN, hS13.frame, ?_⟩
    show (I (4)) = I (rowsFault l n)
    exact congrArg I (rowsFault_at h1 (by omega) hp (rowFault_kind (by omega)) (by decide)).symm
  refine wpF_skip ?_
  refine wpF_seq ?_
  refine wpF_seq ?_
  refine wpF_cut (fun f H => f 0 = vl ∧ f 1 = I (n) ∧ f 5 = I ((k : Int)) ∧ f 31 = B (decide (n < (((nth l k).Of).length : Int))) ∧ H13 = H) ?_ ?_
  · refine wpF_region ?_
    refine wpL_q (U := NoB) rfl (q_move (v := vl) rfl a13_0) ?_
    refine wpL_q (U := NoB) rfl (q_move (v := I ((k : Int))) rfl a13_5) ?_
    refine wpL_q (U := NoB) rfl (q_indexRd (k := k) rfl Try.underlying22 el_LRow_34_LoopR0 rfl rfl (hS13.rdl 0 rfl) (by omega) (by omega)) ?_
    refine wpL_q (U := NoB) rfl (q_fieldE (k := k) rfl Try.underlying34 rfl Try.sizeOf32 rfl rfl (hS13.rdl 0 rfl) (by omega)) ?_
    obtain ⟨_, hcu16, hFu16⟩ := (Rd.list.1 (hS13.rdS 0 rfl)).cellF k (by omega)
    obtain ⟨u16n0, rfl, hu160, hu161, hu162⟩ := hcu16
    have hS17 : St H0 NoB NoB [rdE u16n0 ((nth l k).Of), rdE vl l] H13 := hS13.rd (Rd.list.2 hu160)
    refine wpL_q (U := NoB) rfl (q_loadF rfl rfl (hFu16 0 _ Try.prog 32 _ rfl Try.isAgg32 (fun _ h => False.elim h))) ?_
    refine wpL_q (U := NoB) rfl (q_lenRd rfl Try.underlying32 rfl (hS17.rdl 0 rfl)) ?_
    refine wpL_q (U := NoB) rfl (q_move (v := I (n)) rfl a13_1) ?_
    refine wpL_q (U := NoB) rfl (q_gtr rfl rfl rfl) ?_
    exact ⟨a13_0, a13_1, a13_5, rfl, rfl⟩
  rintro f18 _ ⟨a18_0, a18_1, a18_5, a18_31, rfl⟩
  clear a13_0 a13_1 a13_23 a13_5
  refine wpF_condP a18_31 (fun h3 => ?t48) (fun h3 => ?e48)
  case t48 =>
    refine wpF_seq ?_
    refine wpF_cut (fun f H => f 4 = I (9) ∧ H13 = H) ?_ ?_
    · refine wpF_region ?_
      refine wpL_q (U := NoB) rfl (q_assign (v := I (9)) rfl rfl) ?_
      exact ⟨rfl, rfl⟩
    rintro f20 _ ⟨a20_4, rfl⟩
    clear a18_0 a18_1 a18_31 a18_5
    refine wpF_ret ?_
    refine ⟨_, resT a20_4 resN, hS13.frame, ?_⟩
    show (I (9)) = I (rowsFault l n)
    exact congrArg I (rowsFault_at h1 (by omega) hp (rowFault_len (by omega) h3) (by decide)).symm
  refine wpF_skip ?_
  refine wpF_seq ?_
  refine wpF_cut (fun f H => (In64 (nth l k).To) ∧ f 0 = vl ∧ f 1 = I (n) ∧ f 5 = I ((k : Int)) ∧ f 6 = B (decide ((-1000000) ≤ ((nth l k).To) ∧ ((nth l k).To) ≤ 1000000)) ∧ St H0 NoB NoB [rdE vl l] H) ?_ ?_
  · refine wpF_region ?_
    refine wpL_q (U := NoB) rfl (q_move (v := vl) rfl a18_0) ?_
    refine wpL_q (U := NoB) rfl (q_move (v := I ((k : Int))) rfl a18_5) ?_
    refine wpL_q (U := NoB) rfl (q_indexRd (k := k) rfl Try.underlying22 el_LRow_34_LoopR0 rfl rfl (hS13.rdl 0 rfl) (by omega) (by omega)) ?_
    refine wpL_q (U := NoB) rfl (q_fieldE (k := k) rfl Try.underlying34 rfl Try.sizeOf3 rfl rfl (hS13.rdl 0 rfl) (by omega)) ?_
    obtain ⟨_, hcu21, hFu21⟩ := (Rd.list.1 (hS13.rdS 0 rfl)).cellF k (by omega)
    obtain ⟨u21n0, rfl, hu210, hu211, hu212⟩ := hcu21
    refine wpL_q (U := NoB) rfl (q_loadF rfl rfl (hFu21 2 _ Try.prog 3 _ rfl Try.isAgg3 (fun _ h => False.elim h))) ?_
    refine wpL_o rfl ?_
    refine e_call rfl Try.call44 (arr3 (v0 := I ((nth l k).To)) (v1 := I (-1000000)) (v2 := I (1000000)) rfl rfl rfl) (in_R ((nth l k).To) (-1000000) 1000000) ?_
    rintro _ H22 ⟨hxx, rfl⟩
    have hS23 : St H0 NoB NoB [rdE vl l] H22 := hS13.ext hxx
    refine wpL_q (U := NoB) rfl (q_assign (v := B (decide ((-1000000) ≤ ((nth l k).To) ∧ ((nth l k).To) ≤ 1000000))) rfl rfl) ?_
    exact ⟨hu212, a18_0, a18_1, a18_5, rfl, hS23⟩
  rintro f25 H25 ⟨hu212, a25_0, a25_1, a25_5, a25_6, hS25⟩
  clear a18_0 a18_1 a18_31 a18_5
  refine wpF_seq ?_
  refine wpF_seq ?_
  refine wpF_cut (fun f H => f 0 = vl ∧ f 1 = I (n) ∧ f 5 = I ((k : Int)) ∧ f 6 = B (decide ((-1000000) ≤ ((nth l k).To) ∧ ((nth l k).To) ≤ 1000000)) ∧ f 7 = I (0) ∧ H25 = H) ?_ ?_
  · refine wpF_region ?_
    refine wpL_q (U := NoB) rfl (q_assign (v := I (0)) rfl rfl) ?_
    exact ⟨a25_0, a25_1, a25_5, a25_6, rfl, rfl⟩
  rintro f26 _ ⟨a26_0, a26_1, a26_5, a26_6, a26_7, rfl⟩
  clear a25_0 a25_1 a25_5 a25_6
  refine wpF_block ?_
  refine wpF_loop (fun mz f H => ∃ (i : Nat), ∃ (ok : Bool), mz = (nth l k).Of.length - i ∧ (i ≤ (nth l k).Of.length) ∧ (ok = true ↔ ((-1000000 ≤ (nth l k).To ∧ (nth l k).To ≤ 1000000) ∧ ∀ j, j < i → -1000000 ≤ nth (nth l k).Of j ∧ nth (nth l k).Of j ≤ 1000000)) ∧ f 0 = vl ∧ f 1 = I (n) ∧ f 5 = I ((k : Int)) ∧ f 6 = B (ok) ∧ f 7 = I ((i : Int)) ∧ St H0 NoB NoB [rdE vl l] H) ((nth l k).Of.length - 0) ?_ ?_
  · exact ⟨0, decide ((-1000000) ≤ ((nth l k).To) ∧ ((nth l k).To) ≤ 1000000), rfl, Nat.zero_le _, (by simp), a26_0, a26_1, a26_5, (Eq.trans a26_6 (congrArg B (by simp))), (Eq.trans a26_7 (congrArg I (by omega))), hS25⟩
  intro m27 f27 H27 hI27
  obtain ⟨i, ok, hm27, hi, hq, a27_0, a27_1, a27_5, a27_6, a27_7, hS27⟩ := hI27
  clear a26_0 a26_1 a26_5 a26_6 a26_7
  refine wpF_seq ?_
  refine wpF_seq ?_
  refine wpF_cut (fun f H => f 0 = vl ∧ f 1 = I (n) ∧ f 5 = I ((k : Int)) ∧ f 6 = B (ok) ∧ f 7 = I ((i : Int)) ∧ f 45 = B (decide ((i : Int) < (((nth l k).Of).length : Int))) ∧ H27 = H) ?_ ?_
  · refine wpF_region ?_
    refine wpL_q (U := NoB) rfl (q_move (v := I ((i : Int))) rfl a27_7) ?_
    refine wpL_q (U := NoB) rfl (q_move (v := vl) rfl a27_0) ?_
    refine wpL_q (U := NoB) rfl (q_move (v := I ((k : Int))) rfl a27_5) ?_
    refine wpL_q (U := NoB) rfl (q_indexRd (k := k) rfl Try.underlying22 el_LRow_34_LoopR0 rfl rfl (hS27.rdl 0 rfl) (by omega) (by omega)) ?_
    refine wpL_q (U := NoB) rfl (q_fieldE (k := k) rfl Try.underlying34 rfl Try.sizeOf32 rfl rfl (hS27.rdl 0 rfl) (by omega)) ?_
    obtain ⟨_, hcu28, hFu28⟩ := (Rd.list.1 (hS27.rdS 0 rfl)).cellF k (by omega)
    obtain ⟨u28n0, rfl, hu280, hu281, hu282⟩ := hcu28
    have hS29 : St H0 NoB NoB [rdE u28n0 ((nth l k).Of), rdE vl l] H27 := hS27.rd (Rd.list.2 hu280)
    refine wpL_q (U := NoB) rfl (q_loadF rfl rfl (hFu28 0 _ Try.prog 32 _ rfl Try.isAgg32 (fun _ h => False.elim h))) ?_
    refine wpL_q (U := NoB) rfl (q_lenRd rfl Try.underlying32 rfl (hS29.rdl 0 rfl)) ?_
    refine wpL_q (U := NoB) rfl (q_lss rfl rfl rfl) ?_
    exact ⟨a27_0, a27_1, a27_5, a27_6, a27_7, rfl, rfl⟩
  rintro f30 _ ⟨a30_0, a30_1, a30_5, a30_6, a30_7, a30_45, rfl⟩
  clear a27_0 a27_1 a27_5 a27_6 a27_7
  refine wpF_condP a30_45 (fun hlt2 => ?t47) (fun hlt2 => ?e47)
  case e47 =>
    refine wpF_exit ?_
    refine atX_here ?_
    refine wpF_seq ?_
    refine wpF_cut (fun f H => f 0 = vl ∧ f 1 = I (n) ∧ f 5 = I ((k : Int)) ∧ f 61 = B (!ok) ∧ H27 = H) ?_ ?_
    · refine wpF_region ?_
      refine wpL_q (U := NoB) rfl (q_move (v := B (ok)) rfl a30_6) ?_
      refine wpL_q (U := NoB) rfl (q_not rfl rfl) ?_
      exact ⟨a30_0, a30_1, a30_5, rfl, rfl⟩
    rintro f42 _ ⟨a42_0, a42_1, a42_5, a42_61, rfl⟩
    clear a30_0 a30_1 a30_45 a30_5 a30_6 a30_7
    refine wpF_cond a42_61 (fun h4 => ?t46) (fun h4 => ?e46)
    case t46 =>
      refine wpF_seq ?_
      refine wpF_cut (fun f H => f 4 = I (3) ∧ H27 = H) ?_ ?_
      · refine wpF_region ?_
        refine wpL_q (U := NoB) rfl (q_assign (v := I (3)) rfl rfl) ?_
        exact ⟨rfl, rfl⟩
      rintro f44 _ ⟨a44_4, rfl⟩
      clear a42_0 a42_1 a42_5 a42_61
      refine wpF_ret ?_
      refine ⟨_, resT a44_4 resN, hS27.frame, ?_⟩
      show (I (3)) = I (rowsFault l n)
      exact congrArg I (rowsFault_at h1 (by omega) hp (rowFault_out (by omega) h3 (ok_out hq (by omega) (by simpa using h4))) (by decide)).symm
    refine wpF_skip ?_
    refine wpF_cut (fun f H => f 0 = vl ∧ f 1 = I (n) ∧ f 5 = I ((k : Int) + 1) ∧ H27 = H) ?_ ?_
    · refine wpF_region ?_
      refine wpL_q (U := NoB) rfl (q_move (v := I ((k : Int))) rfl a42_5) ?_
      refine wpL_q (U := NoB) rfl (q_add rfl rfl rfl (by constructor <;> omega)) ?_
      refine wpL_q (U := NoB) rfl (q_assign (v := I ((k : Int) + 1)) rfl rfl) ?_
      exact ⟨a42_0, a42_1, rfl, rfl⟩
    rintro f45 _ ⟨a45_0, a45_1, a45_5, rfl⟩
    clear a42_0 a42_1 a42_5 a42_61
    refine ⟨_, ?_, k + 1, rfl, (by omega), (all_succ hp (rowFault_no (by omega) h3 (ok_in hq (by omega) (by simpa using h4)))), a45_0, a45_1, (Eq.trans a45_5 (congrArg I (by omega))), hS27⟩
    omega
  refine wpF_skip ?_
  refine wpF_seq ?_
  refine wpF_block ?_
  refine wpF_cut (fun f H => f 0 = vl ∧ f 1 = I (n) ∧ f 5 = I ((k : Int)) ∧ f 6 = B (decide ((ok = true) ∧ ((-1000000) ≤ (nth ((nth l k).Of) i) ∧ (nth ((nth l k).Of) i) ≤ 1000000))) ∧ f 7 = I ((i : Int)) ∧ St H0 NoB NoB [rdE vl l] H) ?_ ?_
  · refine wpF_region ?_
    refine wpL_q (U := NoB) rfl (q_move (v := B (ok)) rfl a30_6) ?_
    refine wpL_q (U := NoB) rfl (q_move (v := B (ok)) rfl rfl) ?_
    by_cases hg32 : ok = true
    · have hb33 := Eq.trans rfl (congrArg B hg32)
      refine wpL_gq (U := NoB) rfl rfl rfl hb33 (q_move (v := vl) rfl a30_0) ?_
      refine wpL_gq (U := NoB) rfl rfl rfl hb33 (q_move (v := I ((k : Int))) rfl a30_5) ?_
      refine wpL_gq (U := NoB) rfl rfl rfl hb33 (q_indexRd (k := k) rfl Try.underlying22 el_LRow_34_LoopR0 rfl rfl (hS27.rdl 0 rfl) (by omega) (by omega)) ?_
      refine wpL_gq (U := NoB) rfl rfl rfl hb33 (q_fieldE (k := k) rfl Try.underlying34 rfl Try.sizeOf32 rfl rfl (hS27.rdl 0 rfl) (by omega)) ?_
      obtain ⟨_, hcu35, hFu35⟩ := (Rd.list.1 (hS27.rdS 0 rfl)).cellF k (by omega)
      obtain ⟨u35n0, rfl, hu350, hu351, hu352⟩ := hcu35
      have hS36 : St H0 NoB NoB [rdE u35n0 ((nth l k).Of), rdE vl l] H27 := hS27.rd (Rd.list.2 hu350)
      refine wpL_gq (U := NoB) rfl rfl rfl hb33 (q_loadF rfl rfl (hFu35 0 _ Try.prog 32 _ rfl Try.isAgg32 (fun _ h => False.elim h))) ?_
      refine wpL_gq (U := NoB) rfl rfl rfl hb33 (q_move (v := I ((i : Int))) rfl a30_7) ?_
      refine wpL_gq (U := NoB) rfl rfl rfl hb33 (q_indexRd (k := i) rfl Try.underlying32 el_Int_3_LoopR0 rfl rfl (hS36.rdl 0 rfl) (by omega) (by omega)) ?_
      refine wpL_gq (U := NoB) rfl rfl rfl hb33 (q_loadInt (k := i) rfl rfl el_Int_3_LoopR0 (hS36.rdl 0 rfl) (by omega) (fun _ h => h)) ?_
      refine wpL_go rfl rfl rfl hb33 ?_
      refine e_call rfl Try.call44 (arr3 (v0 := I (nth ((nth l k).Of) i)) (v1 := I (-1000000)) (v2 := I (1000000)) rfl rfl rfl) (in_R (nth ((nth l k).Of) i) (-1000000) 1000000) ?_
      rintro _ H37 ⟨hxx, rfl⟩
      have hS38 : St H0 NoB NoB [rdE u35n0 ((nth l k).Of), rdE vl l] H37 := hS36.ext hxx
      refine wpL_q (U := NoB) rfl (q_pickT (v := B (decide ((-1000000) ≤ (nth ((nth l k).Of) i) ∧ (nth ((nth l k).Of) i) ≤ 1000000))) rfl hb33 rfl) ?_
      refine wpL_q (U := NoB) rfl (q_assign (v := B (decide ((-1000000) ≤ (nth ((nth l k).Of) i) ∧ (nth ((nth l k).Of) i) ≤ 1000000))) rfl rfl) ?_
      exact ⟨a30_0, a30_1, a30_5, (Eq.trans rfl (congrArg B (decide_congr_of ((Iff.rfl).trans (((and_iff_right hg32).trans Iff.rfl)).symm)))), a30_7, (hS38.drop (sn (sk (List.Sublist.slnil))))⟩
    · have hb34 := Eq.trans rfl (congrArg B (Bool.eq_false_iff.2 hg32))
      refine wpL_gs rfl rfl rfl hb34 rfl ?_
      refine wpL_gs rfl rfl rfl hb34 rfl ?_
      refine wpL_gs rfl rfl rfl hb34 rfl ?_
      refine wpL_gs rfl rfl rfl hb34 rfl ?_
      refine wpL_gs rfl rfl rfl hb34 rfl ?_
      refine wpL_gs rfl rfl rfl hb34 rfl ?_
      refine wpL_gs rfl rfl rfl hb34 rfl ?_
      refine wpL_gs rfl rfl rfl hb34 rfl ?_
      refine wpL_gs rfl rfl rfl hb34 rfl ?_
      refine wpL_q (U := NoB) rfl (q_pickF (v := B (false)) rfl hb34 rfl) ?_
      refine wpL_q (U := NoB) rfl (q_assign (v := B (false)) rfl rfl) ?_
      exact ⟨a30_0, a30_1, a30_5, (Eq.trans rfl (congrArg B ((decide_eq_false (fun h => hg32 h.1)).symm))), a30_7, hS27⟩
  rintro f40 H40 ⟨a40_0, a40_1, a40_5, a40_6, a40_7, hS40⟩
  clear a30_0 a30_1 a30_45 a30_5 a30_6 a30_7
  refine wpF_cut (fun f H => f 0 = vl ∧ f 1 = I (n) ∧ f 5 = I ((k : Int)) ∧ f 6 = B (decide ((ok = true) ∧ ((-1000000) ≤ (nth ((nth l k).Of) i) ∧ (nth ((nth l k).Of) i) ≤ 1000000))) ∧ f 7 = I ((i : Int) + 1) ∧ H40 = H) ?_ ?_
  · refine wpF_region ?_
    refine wpL_q (U := NoB) rfl (q_move (v := I ((i : Int))) rfl a40_7) ?_
    refine wpL_q (U := NoB) rfl (q_add rfl rfl rfl (by constructor <;> omega)) ?_
    refine wpL_q (U := NoB) rfl (q_assign (v := I ((i : Int) + 1)) rfl rfl) ?_
    exact ⟨a40_0, a40_1, a40_5, a40_6, rfl, rfl⟩
  rintro f41 _ ⟨a41_0, a41_1, a41_5, a41_6, a41_7, rfl⟩
  clear a40_0 a40_1 a40_5 a40_6 a40_7
  refine ⟨_, ?_, i + 1, decide ((ok = true) ∧ ((-1000000) ≤ (nth ((nth l k).Of) i) ∧ (nth ((nth l k).Of) i) ≤ 1000000)), rfl, (by omega), (ok_step hq), a41_0, a41_1, a41_5, (Eq.trans a41_6 (congrArg B (by simp))), (Eq.trans a41_7 (congrArg I (by omega))), hS40⟩
  omega

set_option maxRecDepth 100000 in
theorem Jump_R {H0 : Heap} (vw vt : Value) (j : Jump) (n : Int) (rvw : Rd NoB H0 vw j.When) (rvt : Rd NoB H0 vt j.To) : CallsH Try.prog 14 #[Value.agg #[vw, vt], I (n)] H0 (fun rv_ H' => Ext NoB H0 H' ∧ rv_ = I (jumpFault j n)) := by
  have hst : j.To.length * 24 ≤ 140737488355328 := (Rd.list.1 rvt).bound
  have hS0 : St H0 NoB NoB [rdE vw j.When, rdE vt j.To] H0 := St.arg (St.arg (St.start (fun _ h => h.elim)) (Bl0.nil) rvt (fun _ h => h)) (Bl0.cons (Bl0.nil)) rvw (fun _ h => h)
  refine callsH_of_wpF (args := [Value.agg #[vw, vt], I (n)]) (rs := [.tmp 4]) Try.func14 rfl Try.ntmps14 Try.results14 (by kernel_rfl) (Nat.le_of_ble_eq_true rfl) ?_
  have a0_0 : argF [Value.agg #[vw, vt], I (n)] 0 = Value.agg #[vw, vt] := rfl
  have a0_1 : argF [Value.agg #[vw, vt], I (n)] 1 = I (n) := rfl
  generalize argF [Value.agg #[vw, vt], I (n)] = f0 at *
  refine wpF_seq ?_
  refine wpF_cut (fun f H => ∃ (g1 : Nat), f 1 = I (n) ∧ f 2 = PT g1 0 ∧ St H0 NoB NoB [blkE g1 (.cells #[vw, vt] 25), rdE vw j.When, rdE vt j.To] H) ?_ ?_
  · refine wpF_region ?_
    refine wpL_o rfl ?_
    refine e_box (v := Value.agg #[vw, vt]) rfl a0_0 hS0 (fun g1 H2 hS3 hxx => ?_)
    replace hS3 : St H0 NoB NoB [blkE g1 (.cells #[vw, vt] 25), rdE vw j.When, rdE vt j.To] H2 := hS3
    refine wpL_q (U := NoB) rfl (q_assign (v := I (0)) rfl rfl) ?_
    exact ⟨g1, a0_1, rfl, hS3⟩
  rintro f4 H4 ⟨g1, a4_1, a4_2, hS4⟩
  clear a0_0 a0_1
  refine wpF_seq ?_
  refine wpF_cut (fun f H => f 1 = I (n) ∧ f 2 = PT g1 0 ∧ f 5 = I (rowsFault j.When n) ∧ St H0 NoB NoB [blkE g1 (.cells #[vw, vt] 25), rdE vw j.When, rdE vt j.To] H) ?_ ?_
  · refine wpF_region ?_
    refine wpL_q (U := NoB) rfl (q_fieldAddr rfl Try.underlying25 rfl Try.sizeOf22 a4_2) ?_
    refine wpL_q (U := NoB) rfl (q_loadBlk rfl rfl Try.isAgg22 (hS4.blk 0 rfl) rfl (fun h => h)) ?_
    refine wpL_q (U := NoB) rfl (q_move (v := I (n)) rfl a4_1) ?_
    refine wpL_o rfl ?_
    refine e_call rfl Try.call15 (arr2 (v0 := vw) (v1 := I (n)) rfl rfl) (Rows_R vw j.When n (hS4.rdN 1 rfl)) ?_
    rintro _ H5 ⟨hxx, rfl⟩
    have hS6 : St H0 NoB NoB [blkE g1 (.cells #[vw, vt] 25), rdE vw j.When, rdE vt j.To] H5 := hS4.ext hxx
    refine wpL_q (U := NoB) rfl (q_assign (v := I (rowsFault j.When n)) rfl rfl) ?_
    exact ⟨a4_1, a4_2, rfl, hS6⟩
  rintro f8 H8 ⟨a8_1, a8_2, a8_5, hS8⟩
  clear a4_1 a4_2
  refine wpF_seq ?_
  refine wpF_seq ?_
  refine wpF_cut (fun f H => f 1 = I (n) ∧ f 2 = PT g1 0 ∧ f 5 = I (rowsFault j.When n) ∧ f 13 = B (decide ((rowsFault j.When n) ≠ 0)) ∧ H8 = H) ?_ ?_
  · refine wpF_region ?_
    refine wpL_q (U := NoB) rfl (q_move (v := I (rowsFault j.When n)) rfl a8_5) ?_
    refine wpL_q (U := NoB) rfl (q_neq rfl rfl rfl) ?_
    exact ⟨a8_1, a8_2, a8_5, rfl, rfl⟩
  rintro f9 _ ⟨a9_1, a9_2, a9_5, a9_13, rfl⟩
  clear a8_1 a8_2 a8_5
  refine wpF_condP a9_13 (fun h1 => ?t44) (fun h1 => ?e44)
  case t44 =>
    refine wpF_seq ?_
    refine wpF_cut (fun f H => f 4 = I (rowsFault j.When n) ∧ H8 = H) ?_ ?_
    · refine wpF_region ?_
      refine wpL_q (U := NoB) rfl (q_move (v := I (rowsFault j.When n)) rfl a9_5) ?_
      refine wpL_q (U := NoB) rfl (q_assign (v := I (rowsFault j.When n)) rfl rfl) ?_
      exact ⟨rfl, rfl⟩
    rintro f11 _ ⟨a11_4, rfl⟩
    clear a9_1 a9_13 a9_2 a9_5
    refine wpF_ret ?_
    refine ⟨_, resT a11_4 resN, hS8.frame, ?_⟩
    show (I (rowsFault j.When n)) = I (jumpFault j n)
    exact congrArg I (jumpFault_when h1).symm
  refine wpF_skip ?_
  refine wpF_seq ?_
  refine wpF_seq ?_
  refine wpF_cut (fun f H => f 1 = I (n) ∧ f 2 = PT g1 0 ∧ f 19 = B (decide ((j.To.length : Int) ≠ n)) ∧ H8 = H) ?_ ?_
  · refine wpF_region ?_
    refine wpL_q (U := NoB) rfl (q_fieldAddr rfl Try.underlying25 rfl Try.sizeOf23 a9_2) ?_
    refine wpL_q (U := NoB) rfl (q_loadBlk rfl rfl Try.isAgg23 (hS8.blk 0 rfl) rfl (fun h => h)) ?_
    refine wpL_q (U := NoB) rfl (q_lenRd rfl Try.underlying23 rfl (hS8.rdl 2 rfl)) ?_
    refine wpL_q (U := NoB) rfl (q_move (v := I (n)) rfl a9_1) ?_
    refine wpL_q (U := NoB) rfl (q_neq rfl rfl rfl) ?_
    exact ⟨a9_1, a9_2, rfl, rfl⟩
  rintro f12 _ ⟨a12_1, a12_2, a12_19, rfl⟩
  clear a9_1 a9_13 a9_2 a9_5
  refine wpF_condP a12_19 (fun h2 => ?t43) (fun h2 => ?e43)
  case t43 =>
    refine wpF_seq ?_
    refine wpF_cut (fun f H => f 4 = I (9) ∧ H8 = H) ?_ ?_
    · refine wpF_region ?_
      refine wpL_q (U := NoB) rfl (q_assign (v := I (9)) rfl rfl) ?_
      exact ⟨rfl, rfl⟩
    rintro f14 _ ⟨a14_4, rfl⟩
    clear a12_1 a12_19 a12_2
    refine wpF_ret ?_
    refine ⟨_, resT a14_4 resN, hS8.frame, ?_⟩
    show (I (9)) = I (jumpFault j n)
    exact congrArg I (jumpFault_len h1 h2).symm
  refine wpF_skip ?_
  refine wpF_seq ?_
  refine wpF_seq ?_
  refine wpF_cut (fun f H => f 1 = I (n) ∧ f 2 = PT g1 0 ∧ f 6 = I (0) ∧ H8 = H) ?_ ?_
  · refine wpF_region ?_
    refine wpL_q (U := NoB) rfl (q_assign (v := I (0)) rfl rfl) ?_
    exact ⟨a12_1, a12_2, rfl, rfl⟩
  rintro f15 _ ⟨a15_1, a15_2, a15_6, rfl⟩
  clear a12_1 a12_19 a12_2
  refine wpF_block ?_
  refine wpF_loop (fun mz f H => ∃ (k : Nat), mz = j.To.length - k ∧ (k ≤ j.To.length) ∧ (∀ i, i < k → toFault n (nth j.To i) = 0) ∧ f 1 = I (n) ∧ f 2 = PT g1 0 ∧ f 6 = I ((k : Int)) ∧ St H0 NoB NoB [blkE g1 (.cells #[vw, vt] 25), rdE vw j.When, rdE vt j.To] H) (j.To.length - 0) ?_ ?_
  · exact ⟨0, rfl, Nat.zero_le _, (fun j hj => absurd hj (Nat.not_lt_zero j)), a15_1, a15_2, (Eq.trans a15_6 (congrArg I (by omega))), hS8⟩
  intro m16 f16 H16 hI16
  obtain ⟨k, hm16, hk, hp, a16_1, a16_2, a16_6, hS16⟩ := hI16
  clear a15_1 a15_2 a15_6
  refine wpF_seq ?_
  refine wpF_seq ?_
  refine wpF_cut (fun f H => f 1 = I (n) ∧ f 2 = PT g1 0 ∧ f 6 = I ((k : Int)) ∧ f 22 = B (decide ((k : Int) < n)) ∧ H16 = H) ?_ ?_
  · refine wpF_region ?_
    refine wpL_q (U := NoB) rfl (q_move (v := I ((k : Int))) rfl a16_6) ?_
    refine wpL_q (U := NoB) rfl (q_move (v := I (n)) rfl a16_1) ?_
    refine wpL_q (U := NoB) rfl (q_lss rfl rfl rfl) ?_
    exact ⟨a16_1, a16_2, a16_6, rfl, rfl⟩
  rintro f17 _ ⟨a17_1, a17_2, a17_6, a17_22, rfl⟩
  clear a16_1 a16_2 a16_6
  refine wpF_condP a17_22 (fun hlt => ?t42) (fun hlt => ?e42)
  case e42 =>
    refine wpF_exit ?_
    refine atX_here ?_
    refine wpF_seq ?_
    refine wpF_cut (fun f H => f 4 = I (0) ∧ H16 = H) ?_ ?_
    · refine wpF_region ?_
      refine wpL_q (U := NoB) rfl (q_assign (v := I (0)) rfl rfl) ?_
      exact ⟨rfl, rfl⟩
    rintro f41 _ ⟨a41_4, rfl⟩
    clear a17_1 a17_2 a17_22 a17_6
    refine wpF_ret ?_
    refine ⟨_, resT a41_4 resN, hS16.frame, ?_⟩
    show (I (0)) = I (jumpFault j n)
    exact congrArg I (jumpFault_no h1 h2 fun j hj => hp j (by omega)).symm
  have hso := nested_small rvt (k := k) (by omega)
  refine wpF_skip ?_
  refine wpF_seq ?_
  refine wpF_block ?_
  refine wpF_seq ?_
  refine wpF_seq ?_
  obtain ⟨u19, huu19, hlu19⟩ := (Rd.list.1 (hS16.rdS 2 rfl)).elem k (by omega)
  have hS20 : St H0 NoB NoB [rdE u19 (nth j.To k), blkE g1 (.cells #[vw, vt] 25), rdE vw j.When, rdE vt j.To] H16 := hS16.rd huu19
  refine wpF_cut (fun f H => f 1 = I (n) ∧ f 2 = PT g1 0 ∧ f 6 = I ((k : Int)) ∧ f 33 = B (decide (((nth j.To k).length : Int) ≠ (n + 1))) ∧ H16 = H) ?_ ?_
  · refine wpF_region ?_
    refine wpL_q (U := NoB) rfl (q_fieldAddr rfl Try.underlying25 rfl Try.sizeOf23 a17_2) ?_
    refine wpL_q (U := NoB) rfl (q_loadBlk rfl rfl Try.isAgg23 (hS16.blk 0 rfl) rfl (fun h => h)) ?_
    refine wpL_q (U := NoB) rfl (q_move (v := I ((k : Int))) rfl a17_6) ?_
    refine wpL_q (U := NoB) rfl (q_indexRd (k := k) rfl Try.underlying23 el_LInt_32_LoopR0 rfl rfl (hS16.rdl 2 rfl) (by omega) (by omega)) ?_
    refine wpL_q (U := NoB) rfl (q_loadE rfl rfl (hlu19 Try.prog 32 _ el_LInt_32_LoopR0 (fun _ h => False.elim h))) ?_
    refine wpL_q (U := NoB) rfl (q_lenRd rfl Try.underlying32 rfl (hS20.rdl 0 rfl)) ?_
    refine wpL_q (U := NoB) rfl (q_move (v := I (n)) rfl a17_1) ?_
    refine wpL_q (U := NoB) rfl (q_add rfl rfl rfl (by constructor <;> omega)) ?_
    refine wpL_q (U := NoB) rfl (q_neq rfl rfl rfl) ?_
    exact ⟨a17_1, a17_2, a17_6, rfl, rfl⟩
  rintro f21 _ ⟨a21_1, a21_2, a21_6, a21_33, rfl⟩
  clear a17_1 a17_2 a17_22 a17_6
  refine wpF_condP a21_33 (fun h3 => ?t40) (fun h3 => ?e40)
  case t40 =>
    refine wpF_seq ?_
    refine wpF_cut (fun f H => f 4 = I (9) ∧ H16 = H) ?_ ?_
    · refine wpF_region ?_
      refine wpL_q (U := NoB) rfl (q_assign (v := I (9)) rfl rfl) ?_
      exact ⟨rfl, rfl⟩
    rintro f23 _ ⟨a23_4, rfl⟩
    clear a21_1 a21_2 a21_33 a21_6
    refine wpF_ret ?_
    refine ⟨_, resT a23_4 resN, hS16.frame, ?_⟩
    show (I (9)) = I (jumpFault j n)
    exact congrArg I (jumpFault_at h1 h2 (by omega) hp (toFault_len h3) (by decide)).symm
  refine wpF_skip ?_
  refine wpF_seq ?_
  refine wpF_cut (fun f H => f 1 = I (n) ∧ f 2 = PT g1 0 ∧ f 6 = I ((k : Int)) ∧ f 7 = I (0) ∧ H16 = H) ?_ ?_
  · refine wpF_region ?_
    refine wpL_q (U := NoB) rfl (q_assign (v := I (0)) rfl rfl) ?_
    exact ⟨a21_1, a21_2, a21_6, rfl, rfl⟩
  rintro f24 _ ⟨a24_1, a24_2, a24_6, a24_7, rfl⟩
  clear a21_1 a21_2 a21_33 a21_6
  refine wpF_block ?_
  refine wpF_loop (fun mz f H => ∃ (i : Nat), mz = (nth j.To k).length - i ∧ (i ≤ (nth j.To k).length) ∧ (∀ u, u < i → -1000000 ≤ nth (nth j.To k) u ∧ nth (nth j.To k) u ≤ 1000000) ∧ f 1 = I (n) ∧ f 2 = PT g1 0 ∧ f 6 = I ((k : Int)) ∧ f 7 = I ((i : Int)) ∧ St H0 NoB NoB [blkE g1 (.cells #[vw, vt] 25), rdE vw j.When, rdE vt j.To] H) ((nth j.To k).length - 0) ?_ ?_
  · exact ⟨0, rfl, Nat.zero_le _, (fun j hj => absurd hj (Nat.not_lt_zero j)), a24_1, a24_2, a24_6, (Eq.trans a24_7 (congrArg I (by omega))), hS16⟩
  intro m25 f25 H25 hI25
  obtain ⟨i, hm25, hi, hq, a25_1, a25_2, a25_6, a25_7, hS25⟩ := hI25
  clear a24_1 a24_2 a24_6 a24_7
  refine wpF_seq ?_
  refine wpF_seq ?_
  refine wpF_cut (fun f H => f 1 = I (n) ∧ f 2 = PT g1 0 ∧ f 6 = I ((k : Int)) ∧ f 7 = I ((i : Int)) ∧ f 36 = B (decide ((i : Int) ≤ n)) ∧ H25 = H) ?_ ?_
  · refine wpF_region ?_
    refine wpL_q (U := NoB) rfl (q_move (v := I ((i : Int))) rfl a25_7) ?_
    refine wpL_q (U := NoB) rfl (q_move (v := I (n)) rfl a25_1) ?_
    refine wpL_q (U := NoB) rfl (q_leq rfl rfl rfl) ?_
    exact ⟨a25_1, a25_2, a25_6, a25_7, rfl, rfl⟩
  rintro f26 _ ⟨a26_1, a26_2, a26_6, a26_7, a26_36, rfl⟩
  clear a25_1 a25_2 a25_6 a25_7
  refine wpF_condP a26_36 (fun hle => ?t39) (fun hle => ?e39)
  case e39 =>
    refine wpF_exit ?_
    refine atX_here ?_
    refine wpF_cut (fun f H => f 1 = I (n) ∧ f 2 = PT g1 0 ∧ f 6 = I ((k : Int) + 1) ∧ H25 = H) ?_ ?_
    · refine wpF_region ?_
      refine wpL_q (U := NoB) rfl (q_move (v := I ((k : Int))) rfl a26_6) ?_
      refine wpL_q (U := NoB) rfl (q_add rfl rfl rfl (by constructor <;> omega)) ?_
      refine wpL_q (U := NoB) rfl (q_assign (v := I ((k : Int) + 1)) rfl rfl) ?_
      exact ⟨a26_1, a26_2, rfl, rfl⟩
    rintro f38 _ ⟨a38_1, a38_2, a38_6, rfl⟩
    clear a26_1 a26_2 a26_36 a26_6 a26_7
    refine ⟨_, ?_, k + 1, rfl, (by omega), (all_succ hp (toFault_no h3 (outs_no fun i hi => hq i (by omega)))), a38_1, a38_2, (Eq.trans a38_6 (congrArg I (by omega))), hS25⟩
    omega
  refine wpF_skip ?_
  refine wpF_seq ?_
  refine wpF_block ?_
  refine wpF_seq ?_
  obtain ⟨u28, huu28, hlu28⟩ := (Rd.list.1 (hS25.rdS 2 rfl)).elem k (by omega)
  have hS29 : St H0 NoB NoB [rdE u28 (nth j.To k), blkE g1 (.cells #[vw, vt] 25), rdE vw j.When, rdE vt j.To] H25 := hS25.rd huu28
  refine wpF_cut (fun f H => f 1 = I (n) ∧ f 2 = PT g1 0 ∧ f 6 = I ((k : Int)) ∧ f 7 = I ((i : Int)) ∧ f 48 = B (decide (¬ ((-1000000) ≤ (nth (nth j.To k) i) ∧ (nth (nth j.To k) i) ≤ 1000000))) ∧ St H0 NoB NoB [blkE g1 (.cells #[vw, vt] 25), rdE vw j.When, rdE vt j.To] H) ?_ ?_
  · refine wpF_region ?_
    refine wpL_q (U := NoB) rfl (q_fieldAddr rfl Try.underlying25 rfl Try.sizeOf23 a26_2) ?_
    refine wpL_q (U := NoB) rfl (q_loadBlk rfl rfl Try.isAgg23 (hS25.blk 0 rfl) rfl (fun h => h)) ?_
    refine wpL_q (U := NoB) rfl (q_move (v := I ((k : Int))) rfl a26_6) ?_
    refine wpL_q (U := NoB) rfl (q_indexRd (k := k) rfl Try.underlying23 el_LInt_32_LoopR0 rfl rfl (hS25.rdl 2 rfl) (by omega) (by omega)) ?_
    refine wpL_q (U := NoB) rfl (q_loadE rfl rfl (hlu28 Try.prog 32 _ el_LInt_32_LoopR0 (fun _ h => False.elim h))) ?_
    refine wpL_q (U := NoB) rfl (q_move (v := I ((i : Int))) rfl a26_7) ?_
    refine wpL_q (U := NoB) rfl (q_indexRd (k := i) rfl Try.underlying32 el_Int_3_LoopR0 rfl rfl (hS29.rdl 0 rfl) (by omega) (by omega)) ?_
    refine wpL_q (U := NoB) rfl (q_loadInt (k := i) rfl rfl el_Int_3_LoopR0 (hS29.rdl 0 rfl) (by omega) (fun _ h => h)) ?_
    refine wpL_o rfl ?_
    refine e_call rfl Try.call44 (arr3 (v0 := I (nth (nth j.To k) i)) (v1 := I (-1000000)) (v2 := I (1000000)) rfl rfl rfl) (in_R (nth (nth j.To k) i) (-1000000) 1000000) ?_
    rintro _ H30 ⟨hxx, rfl⟩
    have hS31 : St H0 NoB NoB [rdE u28 (nth j.To k), blkE g1 (.cells #[vw, vt] 25), rdE vw j.When, rdE vt j.To] H30 := hS29.ext hxx
    refine wpL_q (U := NoB) rfl (q_notP rfl rfl) ?_
    exact ⟨a26_1, a26_2, a26_6, a26_7, rfl, (hS31.drop (sn (sk (sk (sk (List.Sublist.slnil))))))⟩
  rintro f33 H33 ⟨a33_1, a33_2, a33_6, a33_7, a33_48, hS33⟩
  clear a26_1 a26_2 a26_36 a26_6 a26_7
  refine wpF_condP a33_48 (fun h4 => ?t37) (fun h4 => ?e37)
  case t37 =>
    refine wpF_seq ?_
    refine wpF_cut (fun f H => f 4 = I (3) ∧ H33 = H) ?_ ?_
    · refine wpF_region ?_
      refine wpL_q (U := NoB) rfl (q_assign (v := I (3)) rfl rfl) ?_
      exact ⟨rfl, rfl⟩
    rintro f35 _ ⟨a35_4, rfl⟩
    clear a33_1 a33_2 a33_48 a33_6 a33_7
    refine wpF_ret ?_
    refine ⟨_, resT a35_4 resN, hS33.frame, ?_⟩
    show (I (3)) = I (jumpFault j n)
    exact congrArg I (jumpFault_at h1 h2 (by omega) hp (toFault_out h3 (outs_at (k := i) (by omega) h4)) (by decide)).symm
  refine wpF_skip ?_
  refine wpF_cut (fun f H => f 1 = I (n) ∧ f 2 = PT g1 0 ∧ f 6 = I ((k : Int)) ∧ f 7 = I ((i : Int) + 1) ∧ H33 = H) ?_ ?_
  · refine wpF_region ?_
    refine wpL_q (U := NoB) rfl (q_move (v := I ((i : Int))) rfl a33_7) ?_
    refine wpL_q (U := NoB) rfl (q_add rfl rfl rfl (by constructor <;> omega)) ?_
    refine wpL_q (U := NoB) rfl (q_assign (v := I ((i : Int) + 1)) rfl rfl) ?_
    exact ⟨a33_1, a33_2, a33_6, rfl, rfl⟩
  rintro f36 _ ⟨a36_1, a36_2, a36_6, a36_7, rfl⟩
  clear a33_1 a33_2 a33_48 a33_6 a33_7
  refine ⟨_, ?_, i + 1, rfl, (by omega), (all_succ hq (by omega)), a36_1, a36_2, a36_6, (Eq.trans a36_7 (congrArg I (by omega))), hS33⟩
  omega

set_option maxRecDepth 100000 in
theorem SameRow {H0 : Heap} (vo wo : Value) (a b : LRow) (rvo : Rd NoB H0 vo a.Of) (h6aKind : In64 a.Kind) (h6aTo : In64 a.To) (rwo : Rd NoB H0 wo b.Of) (h6bKind : In64 b.Kind) (h6bTo : In64 b.To) : CallsH Try.prog 18 #[Value.agg #[vo, I (a.Kind), I (a.To)], Value.agg #[wo, I (b.Kind), I (b.To)]] H0 (fun rv_ H' => Ext NoB H0 H' ∧ rv_ = B (decide (a = b))) := by
  have hS0 : St H0 NoB NoB [rdE vo a.Of, rdE wo b.Of] H0 := St.arg (St.arg (St.start (fun _ h => h.elim)) (Bl0.nil) rwo (fun _ h => h)) (Bl0.cons (Bl0.nil)) rvo (fun _ h => h)
  refine callsH_of_wpF (args := [Value.agg #[vo, I (a.Kind), I (a.To)], Value.agg #[wo, I (b.Kind), I (b.To)]]) (rs := [.tmp 4]) Try.func18 rfl Try.ntmps18 Try.results18 (by kernel_rfl) (Nat.le_of_ble_eq_true rfl) ?_
  have a0_0 : argF [Value.agg #[vo, I (a.Kind), I (a.To)], Value.agg #[wo, I (b.Kind), I (b.To)]] 0 = Value.agg #[vo, I (a.Kind), I (a.To)] := rfl
  have a0_1 : argF [Value.agg #[vo, I (a.Kind), I (a.To)], Value.agg #[wo, I (b.Kind), I (b.To)]] 1 = Value.agg #[wo, I (b.Kind), I (b.To)] := rfl
  generalize argF [Value.agg #[vo, I (a.Kind), I (a.To)], Value.agg #[wo, I (b.Kind), I (b.To)]] = f0 at *
  refine wpF_seq ?_
  refine wpF_cut (fun f H => ∃ (g1 : Nat), ∃ (g4 : Nat), f 2 = PT g1 0 ∧ f 3 = PT g4 0 ∧ St H0 NoB NoB [blkE g4 (.cells #[wo, I (b.Kind), I (b.To)] 34), blkE g1 (.cells #[vo, I (a.Kind), I (a.To)] 34), rdE vo a.Of, rdE wo b.Of] H) ?_ ?_
  · refine wpF_region ?_
    refine wpL_o rfl ?_
    refine e_box (v := Value.agg #[vo, I (a.Kind), I (a.To)]) rfl a0_0 hS0 (fun g1 H2 hS3 hxx => ?_)
    replace hS3 : St H0 NoB NoB [blkE g1 (.cells #[vo, I (a.Kind), I (a.To)] 34), rdE vo a.Of, rdE wo b.Of] H2 := hS3
    refine wpL_o rfl ?_
    refine e_box (v := Value.agg #[wo, I (b.Kind), I (b.To)]) rfl a0_1 hS3 (fun g4 H5 hS6 hxx => ?_)
    replace hS6 : St H0 NoB NoB [blkE g4 (.cells #[wo, I (b.Kind), I (b.To)] 34), blkE g1 (.cells #[vo, I (a.Kind), I (a.To)] 34), rdE vo a.Of, rdE wo b.Of] H5 := hS6
    refine wpL_q (U := NoB) rfl (q_assign (v := B (false)) rfl rfl) ?_
    exact ⟨g1, g4, rfl, rfl, hS6⟩
  rintro f7 H7 ⟨g1, g4, a7_2, a7_3, hS7⟩
  clear a0_0 a0_1
  refine wpF_seq ?_
  refine wpF_cut (fun f H => f 4 = B (decide (((a.Kind = b.Kind) ∧ (a.To = b.To)) ∧ (a.Of = b.Of))) ∧ St H0 NoB NoB [blkE g4 (.cells #[wo, I (b.Kind), I (b.To)] 34), blkE g1 (.cells #[vo, I (a.Kind), I (a.To)] 34), rdE vo a.Of, rdE wo b.Of] H) ?_ ?_
  · refine wpF_region ?_
    refine wpL_q (U := NoB) rfl (q_fieldAddr rfl Try.underlying34 rfl Try.sizeOf3 a7_2) ?_
    refine wpL_q (U := NoB) rfl (q_loadBlk rfl rfl Try.isAgg3 (hS7.blk 1 rfl) rfl (fun h => h)) ?_
    refine wpL_q (U := NoB) rfl (q_fieldAddr rfl Try.underlying34 rfl Try.sizeOf3 a7_3) ?_
    refine wpL_q (U := NoB) rfl (q_loadBlk rfl rfl Try.isAgg3 (hS7.blk 0 rfl) rfl (fun h => h)) ?_
    refine wpL_q (U := NoB) rfl (q_eql rfl rfl rfl) ?_
    refine wpL_q (U := NoB) rfl (q_move (v := B (decide (a.Kind = b.Kind))) rfl rfl) ?_
    by_cases hg8 : a.Kind = b.Kind
    · have hb9 := Eq.trans rfl (congrArg B (decide_eq_true hg8))
      refine wpL_gq (U := NoB) rfl rfl rfl hb9 (q_fieldAddr rfl Try.underlying34 rfl Try.sizeOf3 a7_2) ?_
      refine wpL_gq (U := NoB) rfl rfl rfl hb9 (q_loadBlk rfl rfl Try.isAgg3 (hS7.blk 1 rfl) rfl (fun h => h)) ?_
      refine wpL_gq (U := NoB) rfl rfl rfl hb9 (q_fieldAddr rfl Try.underlying34 rfl Try.sizeOf3 a7_3) ?_
      refine wpL_gq (U := NoB) rfl rfl rfl hb9 (q_loadBlk rfl rfl Try.isAgg3 (hS7.blk 0 rfl) rfl (fun h => h)) ?_
      refine wpL_gq (U := NoB) rfl rfl rfl hb9 (q_eql rfl rfl rfl) ?_
      refine wpL_q (U := NoB) rfl (q_pickT (v := B (decide (a.To = b.To))) rfl hb9 rfl) ?_
      refine wpL_q (U := NoB) rfl (q_move (v := B (decide (a.To = b.To))) rfl rfl) ?_
      by_cases hg11 : a.To = b.To
      · have hb12 := Eq.trans rfl (congrArg B (decide_eq_true hg11))
        refine wpL_gq (U := NoB) rfl rfl rfl hb12 (q_fieldAddr rfl Try.underlying34 rfl Try.sizeOf32 a7_2) ?_
        refine wpL_gq (U := NoB) rfl rfl rfl hb12 (q_loadBlk rfl rfl Try.isAgg32 (hS7.blk 1 rfl) rfl (fun h => h)) ?_
        refine wpL_gq (U := NoB) rfl rfl rfl hb12 (q_fieldAddr rfl Try.underlying34 rfl Try.sizeOf32 a7_3) ?_
        refine wpL_gq (U := NoB) rfl rfl rfl hb12 (q_loadBlk rfl rfl Try.isAgg32 (hS7.blk 0 rfl) rfl (fun h => h)) ?_
        refine wpL_go rfl rfl rfl hb12 ?_
        refine e_call rfl Try.call39 (arr2 (v0 := vo) (v1 := wo) rfl rfl) (Ints vo wo _ _ (hS7.rdN 2 rfl) (hS7.rdN 3 rfl)) ?_
        rintro _ H14 ⟨hxx, rfl⟩
        have hS15 : St H0 NoB NoB [blkE g4 (.cells #[wo, I (b.Kind), I (b.To)] 34), blkE g1 (.cells #[vo, I (a.Kind), I (a.To)] 34), rdE vo a.Of, rdE wo b.Of] H14 := hS7.ext hxx
        refine wpL_q (U := NoB) rfl (q_pickT (v := B (decide (a.Of = b.Of))) rfl hb12 rfl) ?_
        refine wpL_q (U := NoB) rfl (q_assign (v := B (decide (a.Of = b.Of))) rfl rfl) ?_
        exact ⟨(Eq.trans rfl (congrArg B (decide_congr_of ((Iff.rfl).trans (((and_iff_right ⟨hg8, hg11⟩).trans Iff.rfl)).symm)))), hS15⟩
      · have hb13 := Eq.trans rfl (congrArg B (decide_eq_false hg11))
        refine wpL_gs rfl rfl rfl hb13 rfl ?_
        refine wpL_gs rfl rfl rfl hb13 rfl ?_
        refine wpL_gs rfl rfl rfl hb13 rfl ?_
        refine wpL_gs rfl rfl rfl hb13 rfl ?_
        refine wpL_gs rfl rfl rfl hb13 rfl ?_
        refine wpL_q (U := NoB) rfl (q_pickF (v := B (false)) rfl hb13 rfl) ?_
        refine wpL_q (U := NoB) rfl (q_assign (v := B (false)) rfl rfl) ?_
        exact ⟨(Eq.trans rfl (congrArg B ((decide_eq_false (fun h => (fun h => hg11 h.2) h.1)).symm))), hS7⟩
    · have hb10 := Eq.trans rfl (congrArg B (decide_eq_false hg8))
      refine wpL_gs rfl rfl rfl hb10 rfl ?_
      refine wpL_gs rfl rfl rfl hb10 rfl ?_
      refine wpL_gs rfl rfl rfl hb10 rfl ?_
      refine wpL_gs rfl rfl rfl hb10 rfl ?_
      refine wpL_gs rfl rfl rfl hb10 rfl ?_
      refine wpL_q (U := NoB) rfl (q_pickF (v := B (false)) rfl hb10 rfl) ?_
      refine wpL_q (U := NoB) rfl (q_move (v := B (false)) rfl rfl) ?_
      refine wpL_gs rfl rfl rfl rfl rfl ?_
      refine wpL_gs rfl rfl rfl rfl rfl ?_
      refine wpL_gs rfl rfl rfl rfl rfl ?_
      refine wpL_gs rfl rfl rfl rfl rfl ?_
      refine wpL_gs rfl rfl rfl rfl rfl ?_
      refine wpL_q (U := NoB) rfl (q_pickF (v := B (false)) rfl rfl rfl) ?_
      refine wpL_q (U := NoB) rfl (q_assign (v := B (false)) rfl rfl) ?_
      exact ⟨(Eq.trans rfl (congrArg B ((decide_eq_false (fun h => (fun h => hg8 h.1) h.1)).symm))), hS7⟩
  rintro f17 H17 ⟨a17_4, hS17⟩
  clear a7_2 a7_3
  refine wpF_ret ?_
  refine ⟨_, resT a17_4 resN, hS17.frame, ?_⟩
  show (B (decide (((a.Kind = b.Kind) ∧ (a.To = b.To)) ∧ (a.Of = b.Of)))) = B (decide (a = b))
  exact congrArg B (decide_congr_of LRow.same_iff)

set_option maxHeartbeats 1000000 in
set_option maxRecDepth 100000 in
theorem Loop_R {H0 : Heap} (wa wb wc wd we : Value) (l : Loop) (rwa : Rd NoB H0 wa l.Low) (rwb : Rd NoB H0 wb l.High) (rwc : Rd NoB H0 wc l.Start) (rwd : Rd NoB H0 wd l.Jumps) (rwe : Rd NoB H0 we l.Bad) : CallsH Try.prog 26 #[Value.agg #[wa, wb, wc, wd, we]] H0 (fun rv_ H' => Ext NoB H0 H' ∧ rv_ = Value.agg #[I (loopFault l).1, I (loopFault l).2]) := by
  have hs1 := (Rd.list.1 rwa).small
  have hs2 := (Rd.list.1 rwb).small
  have hs4 := (Rd.list.1 rwd).small
  have hS0 : St H0 NoB NoB [rdE wa l.Low, rdE wb l.High, rdE wc l.Start, rdE wd l.Jumps, rdE we l.Bad] H0 := St.arg (St.arg (St.arg (St.arg (St.arg (St.start (fun _ h => h.elim)) (Bl0.nil) rwe (fun _ h => h)) (Bl0.cons (Bl0.nil)) rwd (fun _ h => h)) (Bl0.cons (Bl0.cons (Bl0.nil))) rwc (fun _ h => h)) (Bl0.cons (Bl0.cons (Bl0.cons (Bl0.nil)))) rwb (fun _ h => h)) (Bl0.cons (Bl0.cons (Bl0.cons (Bl0.cons (Bl0.nil))))) rwa (fun _ h => h)
  refine callsH_of_wpF (args := [Value.agg #[wa, wb, wc, wd, we]]) (rs := [.cell 2 27]) Try.func26 rfl Try.ntmps26 Try.results26 (by kernel_rfl) (Nat.le_of_ble_eq_true rfl) ?_
  have a0_0 : argF [Value.agg #[wa, wb, wc, wd, we]] 0 = Value.agg #[wa, wb, wc, wd, we] := rfl
  generalize argF [Value.agg #[wa, wb, wc, wd, we]] = f0 at *
  refine wpF_seq ?_
  refine wpF_cut (fun f H => ∃ (g1 : Nat), ∃ (g4 : Nat), f 1 = PT g1 0 ∧ f 2 = PT g4 0 ∧ St H0 NoB NoB [blkE g4 (.cells #[I (0), I (0)] 27), blkE g1 (.cells #[wa, wb, wc, wd, we] 42), rdE wa l.Low, rdE wb l.High, rdE wc l.Start, rdE wd l.Jumps, rdE we l.Bad] H) ?_ ?_
  · refine wpF_region ?_
    refine wpL_o rfl ?_
    refine e_box (v := Value.agg #[wa, wb, wc, wd, we]) rfl a0_0 hS0 (fun g1 H2 hS3 hxx => ?_)
    replace hS3 : St H0 NoB NoB [blkE g1 (.cells #[wa, wb, wc, wd, we] 42), rdE wa l.Low, rdE wb l.High, rdE wc l.Start, rdE wd l.Jumps, rdE we l.Bad] H2 := hS3
    refine wpL_o rfl ?_
    refine e_alloc rfl Try.zeroValue27 hS3 (fun g4 H5 hS6 hxx => ?_)
    replace hS6 : St H0 NoB NoB [blkE g4 (.cells #[I (0), I (0)] 27), blkE g1 (.cells #[wa, wb, wc, wd, we] 42), rdE wa l.Low, rdE wb l.High, rdE wc l.Start, rdE wd l.Jumps, rdE we l.Bad] H5 := hS6
    exact ⟨g1, g4, rfl, rfl, hS6⟩
  rintro f7 H7 ⟨g1, g4, a7_1, a7_2, hS7⟩
  clear a0_0
  refine wpF_seq ?_
  refine wpF_cut (fun f H => f 1 = PT g1 0 ∧ f 2 = PT g4 0 ∧ f 3 = I ((l.Low.length : Int)) ∧ H7 = H) ?_ ?_
  · refine wpF_region ?_
    refine wpL_q (U := NoB) rfl (q_fieldAddr rfl Try.underlying42 rfl Try.sizeOf32 a7_1) ?_
    refine wpL_q (U := NoB) rfl (q_loadBlk rfl rfl Try.isAgg32 (hS7.blk 1 rfl) rfl (fun h => h)) ?_
    refine wpL_q (U := NoB) rfl (q_lenRd rfl Try.underlying32 rfl (hS7.rdl 2 rfl)) ?_
    refine wpL_q (U := NoB) rfl (q_assign (v := I ((l.Low.length : Int))) rfl rfl) ?_
    exact ⟨a7_1, a7_2, rfl, rfl⟩
  rintro f8 _ ⟨a8_1, a8_2, a8_3, rfl⟩
  clear a7_1 a7_2
  refine wpF_seq ?_
  refine wpF_seq ?_
  refine wpF_cut (fun f H => f 1 = PT g1 0 ∧ f 2 = PT g4 0 ∧ f 3 = I ((l.Low.length : Int)) ∧ f 13 = B (decide (¬ (1 ≤ (l.Low.length : Int) ∧ (l.Low.length : Int) ≤ 8))) ∧ St H0 NoB NoB [blkE g4 (.cells #[I (0), I (0)] 27), blkE g1 (.cells #[wa, wb, wc, wd, we] 42), rdE wa l.Low, rdE wb l.High, rdE wc l.Start, rdE wd l.Jumps, rdE we l.Bad] H) ?_ ?_
  · refine wpF_region ?_
    refine wpL_q (U := NoB) rfl (q_move (v := I ((l.Low.length : Int))) rfl a8_3) ?_
    refine wpL_o rfl ?_
    refine e_call rfl Try.call44 (arr3 (v0 := I ((l.Low.length : Int))) (v1 := I (1)) (v2 := I (8)) rfl rfl rfl) (in_R (l.Low.length : Int) 1 8) ?_
    rintro _ H9 ⟨hxx, rfl⟩
    have hS10 : St H0 NoB NoB [blkE g4 (.cells #[I (0), I (0)] 27), blkE g1 (.cells #[wa, wb, wc, wd, we] 42), rdE wa l.Low, rdE wb l.High, rdE wc l.Start, rdE wd l.Jumps, rdE we l.Bad] H9 := hS7.ext hxx
    refine wpL_q (U := NoB) rfl (q_notP rfl rfl) ?_
    exact ⟨a8_1, a8_2, a8_3, rfl, hS10⟩
  rintro f12 H12 ⟨a12_1, a12_2, a12_3, a12_13, hS12⟩
  clear a8_1 a8_2 a8_3
  refine wpF_condP a12_13 (fun h1 => ?t123) (fun h1 => ?e123)
  case t123 =>
    refine wpF_seq ?_
    refine wpF_cut (fun f H => f 2 = PT g4 0 ∧ St H0 NoB NoB [blkE g4 (.cells #[I (2), I (-1)] 27), blkE g1 (.cells #[wa, wb, wc, wd, we] 42), rdE wa l.Low, rdE wb l.High, rdE wc l.Start, rdE wd l.Jumps, rdE we l.Bad] H) ?_ ?_
    · refine wpF_region ?_
      refine wpL_o rfl ?_
      refine e_call rfl Try.call65 (arr2 (v0 := I (2)) (v1 := I (-1)) rfl rfl) (fault_R 2 (-1)) ?_
      rintro _ H14 ⟨hxx, rfl⟩
      have hS15 : St H0 NoB NoB [blkE g4 (.cells #[I (0), I (0)] 27), blkE g1 (.cells #[wa, wb, wc, wd, we] 42), rdE wa l.Low, rdE wb l.High, rdE wc l.Start, rdE wd l.Jumps, rdE we l.Bad] H14 := hS12.ext hxx
      refine wpL_o rfl ?_
      refine e_storeBlkA (cs' := #[I (2), I (-1)]) rfl a12_2 rfl Try.sizeOf27 rfl rfl (List.forall_mem_cons.2 ⟨rfl, List.forall_mem_cons.2 ⟨rfl, List.forall_mem_nil _⟩⟩) hS15 (fun H17 hS18 hxx => ?_)
      replace hS18 : St H0 NoB NoB [blkE g4 (.cells #[I (2), I (-1)] 27), blkE g1 (.cells #[wa, wb, wc, wd, we] 42), rdE wa l.Low, rdE wb l.High, rdE wc l.Start, rdE wd l.Jumps, rdE we l.Bad] H17 := hS18
      exact ⟨a12_2, hS18⟩
    rintro f19 H19 ⟨a19_2, hS19⟩
    clear a12_1 a12_13 a12_2 a12_3
    refine wpF_ret ?_
    refine ⟨_, resC a19_2 (loadV_blkA Try.isAgg27 Try.sizeOf27 rfl (hS19.blk 0 rfl)) (resN), hS19.frame, ?_⟩
    show (Value.agg #[I (2), I (-1)]) = Value.agg #[I (loopFault l).1, I (loopFault l).2]
    have hq := loopFault_1 (l := l) (by omega)
    rw [hq]
  refine wpF_skip ?_
  refine wpF_seq ?_
  refine wpF_seq ?_
  refine wpF_cut (fun f H => f 1 = PT g1 0 ∧ f 2 = PT g4 0 ∧ f 3 = I ((l.Low.length : Int)) ∧ f 19 = B (decide ((l.High.length : Int) ≠ (l.Low.length : Int))) ∧ H12 = H) ?_ ?_
  · refine wpF_region ?_
    refine wpL_q (U := NoB) rfl (q_fieldAddr rfl Try.underlying42 rfl Try.sizeOf32 a12_1) ?_
    refine wpL_q (U := NoB) rfl (q_loadBlk rfl rfl Try.isAgg32 (hS12.blk 1 rfl) rfl (fun h => h)) ?_
    refine wpL_q (U := NoB) rfl (q_lenRd rfl Try.underlying32 rfl (hS12.rdl 3 rfl)) ?_
    refine wpL_q (U := NoB) rfl (q_move (v := I ((l.Low.length : Int))) rfl a12_3) ?_
    refine wpL_q (U := NoB) rfl (q_neq rfl rfl rfl) ?_
    exact ⟨a12_1, a12_2, a12_3, rfl, rfl⟩
  rintro f20 _ ⟨a20_1, a20_2, a20_3, a20_19, rfl⟩
  clear a12_1 a12_13 a12_2 a12_3
  refine wpF_condP a20_19 (fun h2 => ?t122) (fun h2 => ?e122)
  case t122 =>
    refine wpF_seq ?_
    refine wpF_cut (fun f H => f 2 = PT g4 0 ∧ St H0 NoB NoB [blkE g4 (.cells #[I (9), I (-1)] 27), blkE g1 (.cells #[wa, wb, wc, wd, we] 42), rdE wa l.Low, rdE wb l.High, rdE wc l.Start, rdE wd l.Jumps, rdE we l.Bad] H) ?_ ?_
    · refine wpF_region ?_
      refine wpL_o rfl ?_
      refine e_call rfl Try.call65 (arr2 (v0 := I (9)) (v1 := I (-1)) rfl rfl) (fault_R 9 (-1)) ?_
      rintro _ H22 ⟨hxx, rfl⟩
      have hS23 : St H0 NoB NoB [blkE g4 (.cells #[I (0), I (0)] 27), blkE g1 (.cells #[wa, wb, wc, wd, we] 42), rdE wa l.Low, rdE wb l.High, rdE wc l.Start, rdE wd l.Jumps, rdE we l.Bad] H22 := hS12.ext hxx
      refine wpL_o rfl ?_
      refine e_storeBlkA (cs' := #[I (9), I (-1)]) rfl a20_2 rfl Try.sizeOf27 rfl rfl (List.forall_mem_cons.2 ⟨rfl, List.forall_mem_cons.2 ⟨rfl, List.forall_mem_nil _⟩⟩) hS23 (fun H25 hS26 hxx => ?_)
      replace hS26 : St H0 NoB NoB [blkE g4 (.cells #[I (9), I (-1)] 27), blkE g1 (.cells #[wa, wb, wc, wd, we] 42), rdE wa l.Low, rdE wb l.High, rdE wc l.Start, rdE wd l.Jumps, rdE we l.Bad] H25 := hS26
      exact ⟨a20_2, hS26⟩
    rintro f27 H27 ⟨a27_2, hS27⟩
    clear a20_1 a20_19 a20_2 a20_3
    refine wpF_ret ?_
    refine ⟨_, resC a27_2 (loadV_blkA Try.isAgg27 Try.sizeOf27 rfl (hS27.blk 0 rfl)) (resN), hS27.frame, ?_⟩
    show (Value.agg #[I (9), I (-1)]) = Value.agg #[I (loopFault l).1, I (loopFault l).2]
    have hq := loopFault_2 (l := l) (by unfold LH1; omega) h2
    rw [hq]
  refine wpF_skip ?_
  refine wpF_seq ?_
  refine wpF_cut (fun f H => f 1 = PT g1 0 ∧ f 2 = PT g4 0 ∧ f 3 = I ((l.Low.length : Int)) ∧ f 4 = I (1) ∧ H12 = H) ?_ ?_
  · refine wpF_region ?_
    refine wpL_q (U := NoB) rfl (q_assign (v := I (1)) rfl rfl) ?_
    exact ⟨a20_1, a20_2, a20_3, rfl, rfl⟩
  rintro f28 _ ⟨a28_1, a28_2, a28_3, a28_4, rfl⟩
  clear a20_1 a20_19 a20_2 a20_3
  refine wpF_seq ?_
  refine wpF_seq ?_
  refine wpF_cut (fun f H => f 1 = PT g1 0 ∧ f 2 = PT g4 0 ∧ f 3 = I ((l.Low.length : Int)) ∧ f 4 = I (1) ∧ f 5 = I (0) ∧ H12 = H) ?_ ?_
  · refine wpF_region ?_
    refine wpL_q (U := NoB) rfl (q_assign (v := I (0)) rfl rfl) ?_
    exact ⟨a28_1, a28_2, a28_3, a28_4, rfl, rfl⟩
  rintro f29 _ ⟨a29_1, a29_2, a29_3, a29_4, a29_5, rfl⟩
  clear a28_1 a28_2 a28_3 a28_4
  refine wpF_block ?_
  refine wpF_loop (fun mz f H => ∃ (k : Nat), mz = l.Low.length - k ∧ (k ≤ l.Low.length) ∧ (∀ j, j < k → boxBad l j = 0) ∧ (∀ j, j ≤ k → 1 ≤ boxTo l j ∧ boxTo l j ≤ 1200) ∧ f 1 = PT g1 0 ∧ f 2 = PT g4 0 ∧ f 3 = I ((l.Low.length : Int)) ∧ f 4 = I (boxTo l k) ∧ f 5 = I ((k : Int)) ∧ St H0 NoB NoB [blkE g4 (.cells #[I (0), I (0)] 27), blkE g1 (.cells #[wa, wb, wc, wd, we] 42), rdE wa l.Low, rdE wb l.High, rdE wc l.Start, rdE wd l.Jumps, rdE we l.Bad] H) (l.Low.length - 0) ?_ ?_
  · exact ⟨0, rfl, Nat.zero_le _, (fun j hj => absurd hj (Nat.not_lt_zero j)), box_start, a29_1, a29_2, a29_3, a29_4, (Eq.trans a29_5 (congrArg I (by omega))), hS12⟩
  intro m30 f30 H30 hI30
  obtain ⟨k, hm30, hk, hp, hbx, a30_1, a30_2, a30_3, a30_4, a30_5, hS30⟩ := hI30
  clear a29_1 a29_2 a29_3 a29_4 a29_5
  refine wpF_seq ?_
  refine wpF_seq ?_
  refine wpF_cut (fun f H => f 1 = PT g1 0 ∧ f 2 = PT g4 0 ∧ f 3 = I ((l.Low.length : Int)) ∧ f 4 = I (boxTo l k) ∧ f 5 = I ((k : Int)) ∧ f 23 = B (decide ((k : Int) < (l.Low.length : Int))) ∧ H30 = H) ?_ ?_
  · refine wpF_region ?_
    refine wpL_q (U := NoB) rfl (q_move (v := I ((k : Int))) rfl a30_5) ?_
    refine wpL_q (U := NoB) rfl (q_move (v := I ((l.Low.length : Int))) rfl a30_3) ?_
    refine wpL_q (U := NoB) rfl (q_lss rfl rfl rfl) ?_
    exact ⟨a30_1, a30_2, a30_3, a30_4, a30_5, rfl, rfl⟩
  rintro f31 _ ⟨a31_1, a31_2, a31_3, a31_4, a31_5, a31_23, rfl⟩
  clear a30_1 a30_2 a30_3 a30_4 a30_5
  refine wpF_condP a31_23 (fun hlt => ?t121) (fun hlt => ?e121)
  case t121 =>
    refine wpF_skip ?_
    refine wpF_seq ?_
    refine wpF_block ?_
    refine wpF_seq ?_
    refine wpF_seq ?_
    refine wpF_cut (fun f H => f 1 = PT g1 0 ∧ f 2 = PT g4 0 ∧ f 3 = I ((l.Low.length : Int)) ∧ f 4 = I (boxTo l k) ∧ f 5 = I ((k : Int)) ∧ f 54 = B (decide (((¬ ((-1000000) ≤ (nth l.Low k) ∧ (nth l.Low k) ≤ 1000000)) ∨ (¬ ((-1000000) ≤ (nth l.High k) ∧ (nth l.High k) ≤ 1000000))) ∨ ((nth l.High k) < (nth l.Low k)))) ∧ St H0 NoB NoB [blkE g4 (.cells #[I (0), I (0)] 27), blkE g1 (.cells #[wa, wb, wc, wd, we] 42), rdE wa l.Low, rdE wb l.High, rdE wc l.Start, rdE wd l.Jumps, rdE we l.Bad] H) ?_ ?_
    · refine wpF_drawn [] [] (fun _ _ => False) (by kernel_rfl) (by kernel_rfl) ?_
      refine wpR_q 0 (by kernel_rfl) rfl (quietAt rfl rfl (q_fieldAddr rfl Try.underlying42 rfl Try.sizeOf32 a31_1)) ?_
      refine wpR_q 1 (by kernel_rfl) rfl (quietAt rfl rfl (q_loadBlk rfl rfl Try.isAgg32 (hS30.blk 1 rfl) rfl (labU_not [] rfl (List.forall_mem_nil _)))) ?_
      refine wpR_q 2 (by kernel_rfl) rfl (quietAt rfl rfl (q_move (v := I ((k : Int))) rfl a31_5)) ?_
      refine wpR_q 3 (by kernel_rfl) rfl (quietAt rfl rfl (q_indexRd (k := k) rfl Try.underlying32 el_Int_3_LoopR0 rfl rfl (hS30.rdl 2 rfl) (by omega) (by omega))) ?_
      refine wpR_q 4 (by kernel_rfl) rfl (quietAt rfl rfl (q_loadInt (k := k) rfl rfl el_Int_3_LoopR0 (hS30.rdl 2 rfl) (by omega) (labU_sub [] rfl (List.forall_mem_nil _)))) ?_
      refine wpR_n [5] (by kernel_rfl) ?_
      refine List.forall_mem_cons.2 ⟨?_, List.forall_mem_nil _⟩
      refine exE rfl rfl ?_
      refine e_call rfl Try.call44 (arr3 (v0 := I (nth l.Low k)) (v1 := I (-1000000)) (v2 := I (1000000)) rfl rfl rfl) (in_R (nth l.Low k) (-1000000) 1000000) ?_
      rintro _ H33o5 ⟨hxx, rfl⟩
      have hS33o5 : St H0 NoB NoB [blkE g4 (.cells #[I (0), I (0)] 27), blkE g1 (.cells #[wa, wb, wc, wd, we] 42), rdE wa l.Low, rdE wb l.High, rdE wc l.Start, rdE wd l.Jumps, rdE we l.Bad] H33o5 := hS30.ext hxx
      refine ⟨Ext.mono hxx (fun _ h => h.elim), ?_⟩
      refine wpR_q 6 (by kernel_rfl) rfl (quietAt rfl rfl (q_notP rfl rfl)) ?_
      refine wpR_q 7 (by kernel_rfl) rfl (quietAt rfl rfl (q_move (v := B (decide (¬ ((-1000000) ≤ (nth l.Low k) ∧ (nth l.Low k) ≤ 1000000)))) rfl rfl)) ?_
      by_cases hg34 : ¬ ((-1000000) ≤ (nth l.Low k) ∧ (nth l.Low k) ≤ 1000000)
      · have hb35 := Eq.trans rfl (congrArg B (decide_eq_true hg34))
        refine wpR_q 8 (by kernel_rfl) rfl (quietAt_s rfl rfl rfl rfl hb35 rfl) ?_
        refine wpR_q 9 (by kernel_rfl) rfl (quietAt_s rfl rfl rfl rfl hb35 rfl) ?_
        refine wpR_q 10 (by kernel_rfl) rfl (quietAt_s rfl rfl rfl rfl hb35 rfl) ?_
        refine wpR_q 11 (by kernel_rfl) rfl (quietAt_s rfl rfl rfl rfl hb35 rfl) ?_
        refine wpR_q 12 (by kernel_rfl) rfl (quietAt_s rfl rfl rfl rfl hb35 rfl) ?_
        refine wpR_q 13 (by kernel_rfl) rfl (quietAt_s rfl rfl rfl rfl hb35 rfl) ?_
        refine wpR_q 14 (by kernel_rfl) rfl (quietAt_s rfl rfl rfl rfl hb35 rfl) ?_
        refine wpR_q 15 (by kernel_rfl) rfl (quietAt rfl rfl (q_pickT (v := B (true)) rfl hb35 rfl)) ?_
        refine wpR_q 16 (by kernel_rfl) rfl (quietAt rfl rfl (q_move (v := B (true)) rfl rfl)) ?_
        refine wpR_q 17 (by kernel_rfl) rfl (quietAt_s rfl rfl rfl rfl rfl rfl) ?_
        refine wpR_q 18 (by kernel_rfl) rfl (quietAt_s rfl rfl rfl rfl rfl rfl) ?_
        refine wpR_q 19 (by kernel_rfl) rfl (quietAt_s rfl rfl rfl rfl rfl rfl) ?_
        refine wpR_q 20 (by kernel_rfl) rfl (quietAt_s rfl rfl rfl rfl rfl rfl) ?_
        refine wpR_q 21 (by kernel_rfl) rfl (quietAt_s rfl rfl rfl rfl rfl rfl) ?_
        refine wpR_q 22 (by kernel_rfl) rfl (quietAt_s rfl rfl rfl rfl rfl rfl) ?_
        refine wpR_q 23 (by kernel_rfl) rfl (quietAt_s rfl rfl rfl rfl rfl rfl) ?_
        refine wpR_q 24 (by kernel_rfl) rfl (quietAt_s rfl rfl rfl rfl rfl rfl) ?_
        refine wpR_q 25 (by kernel_rfl) rfl (quietAt_s rfl rfl rfl rfl rfl rfl) ?_
        refine wpR_q 26 (by kernel_rfl) rfl (quietAt_s rfl rfl rfl rfl rfl rfl) ?_
        refine wpR_q 27 (by kernel_rfl) rfl (quietAt_s rfl rfl rfl rfl rfl rfl) ?_
        refine wpR_q 28 (by kernel_rfl) rfl (quietAt rfl rfl (q_pickT (v := B (true)) rfl rfl rfl)) ?_
        refine wpR_end (by kernel_rfl) ?_
        exact ⟨a31_1, a31_2, a31_3, a31_4, a31_5, (Eq.trans rfl (congrArg B ((decide_eq_true (Or.inl (Or.inl hg34))).symm))), hS33o5⟩
      · have hb36 := Eq.trans rfl (congrArg B (decide_eq_false hg34))
        refine wpR_q 8 (by kernel_rfl) rfl (quietAt_g rfl rfl rfl rfl hb36 (q_fieldAddr rfl Try.underlying42 rfl Try.sizeOf32 a31_1)) ?_
        refine wpR_q 9 (by kernel_rfl) rfl (quietAt_g rfl rfl rfl rfl hb36 (q_loadBlk rfl rfl Try.isAgg32 (hS33o5.blk 1 rfl) rfl (labU_not [] rfl (List.forall_mem_nil _)))) ?_
        refine wpR_q 10 (by kernel_rfl) rfl (quietAt_g rfl rfl rfl rfl hb36 (q_move (v := I ((k : Int))) rfl a31_5)) ?_
        refine wpR_q 11 (by kernel_rfl) rfl (quietAt_g rfl rfl rfl rfl hb36 (q_indexRd (k := k) rfl Try.underlying32 el_Int_3_LoopR0 rfl rfl (hS33o5.rdl 3 rfl) (by omega) (by omega))) ?_
        refine wpR_q 12 (by kernel_rfl) rfl (quietAt_g rfl rfl rfl rfl hb36 (q_loadInt (k := k) rfl rfl el_Int_3_LoopR0 (hS33o5.rdl 3 rfl) (by omega) (labU_sub [] rfl (List.forall_mem_nil _)))) ?_
        refine wpR_n [13] (by kernel_rfl) ?_
        refine List.forall_mem_cons.2 ⟨?_, List.forall_mem_nil _⟩
        refine exE_g rfl rfl rfl rfl hb36 ?_
        refine e_call rfl Try.call44 (arr3 (v0 := I (nth l.High k)) (v1 := I (-1000000)) (v2 := I (1000000)) rfl rfl rfl) (in_R (nth l.High k) (-1000000) 1000000) ?_
        rintro _ H33o13 ⟨hxx, rfl⟩
        have hS33o13 : St H0 NoB NoB [blkE g4 (.cells #[I (0), I (0)] 27), blkE g1 (.cells #[wa, wb, wc, wd, we] 42), rdE wa l.Low, rdE wb l.High, rdE wc l.Start, rdE wd l.Jumps, rdE we l.Bad] H33o13 := hS33o5.ext hxx
        refine ⟨Ext.mono hxx (fun _ h => h.elim), ?_⟩
        refine wpR_q 14 (by kernel_rfl) rfl (quietAt_g rfl rfl rfl rfl hb36 (q_notP rfl rfl)) ?_
        refine wpR_q 15 (by kernel_rfl) rfl (quietAt rfl rfl (q_pickF (v := B (decide (¬ ((-1000000) ≤ (nth l.High k) ∧ (nth l.High k) ≤ 1000000)))) rfl hb36 rfl)) ?_
        refine wpR_q 16 (by kernel_rfl) rfl (quietAt rfl rfl (q_move (v := B (decide (¬ ((-1000000) ≤ (nth l.High k) ∧ (nth l.High k) ≤ 1000000)))) rfl rfl)) ?_
        by_cases hg37 : ¬ ((-1000000) ≤ (nth l.High k) ∧ (nth l.High k) ≤ 1000000)
        · have hb38 := Eq.trans rfl (congrArg B (decide_eq_true hg37))
          refine wpR_q 17 (by kernel_rfl) rfl (quietAt_s rfl rfl rfl rfl hb38 rfl) ?_
          refine wpR_q 18 (by kernel_rfl) rfl (quietAt_s rfl rfl rfl rfl hb38 rfl) ?_
          refine wpR_q 19 (by kernel_rfl) rfl (quietAt_s rfl rfl rfl rfl hb38 rfl) ?_
          refine wpR_q 20 (by kernel_rfl) rfl (quietAt_s rfl rfl rfl rfl hb38 rfl) ?_
          refine wpR_q 21 (by kernel_rfl) rfl (quietAt_s rfl rfl rfl rfl hb38 rfl) ?_
          refine wpR_q 22 (by kernel_rfl) rfl (quietAt_s rfl rfl rfl rfl hb38 rfl) ?_
          refine wpR_q 23 (by kernel_rfl) rfl (quietAt_s rfl rfl rfl rfl hb38 rfl) ?_
          refine wpR_q 24 (by kernel_rfl) rfl (quietAt_s rfl rfl rfl rfl hb38 rfl) ?_
          refine wpR_q 25 (by kernel_rfl) rfl (quietAt_s rfl rfl rfl rfl hb38 rfl) ?_
          refine wpR_q 26 (by kernel_rfl) rfl (quietAt_s rfl rfl rfl rfl hb38 rfl) ?_
          refine wpR_q 27 (by kernel_rfl) rfl (quietAt_s rfl rfl rfl rfl hb38 rfl) ?_
          refine wpR_q 28 (by kernel_rfl) rfl (quietAt rfl rfl (q_pickT (v := B (true)) rfl hb38 rfl)) ?_
          refine wpR_end (by kernel_rfl) ?_
          exact ⟨a31_1, a31_2, a31_3, a31_4, a31_5, (Eq.trans rfl (congrArg B ((decide_eq_true (Or.inl (Or.inr hg37))).symm))), hS33o13⟩
        · have hb39 := Eq.trans rfl (congrArg B (decide_eq_false hg37))
          refine wpR_q 17 (by kernel_rfl) rfl (quietAt_g rfl rfl rfl rfl hb39 (q_fieldAddr rfl Try.underlying42 rfl Try.sizeOf32 a31_1)) ?_
          refine wpR_q 18 (by kernel_rfl) rfl (quietAt_g rfl rfl rfl rfl hb39 (q_loadBlk rfl rfl Try.isAgg32 (hS33o13.blk 1 rfl) rfl (labU_not [] rfl (List.forall_mem_nil _)))) ?_
          refine wpR_q 19 (by kernel_rfl) rfl (quietAt_g rfl rfl rfl rfl hb39 (q_move (v := I ((k : Int))) rfl a31_5)) ?_
          refine wpR_q 20 (by kernel_rfl) rfl (quietAt_g rfl rfl rfl rfl hb39 (q_indexRd (k := k) rfl Try.underlying32 el_Int_3_LoopR0 rfl rfl (hS33o13.rdl 2 rfl) (by omega) (by omega))) ?_
          refine wpR_q 21 (by kernel_rfl) rfl (quietAt_g rfl rfl rfl rfl hb39 (q_loadInt (k := k) rfl rfl el_Int_3_LoopR0 (hS33o13.rdl 2 rfl) (by omega) (labU_sub [] rfl (List.forall_mem_nil _)))) ?_
          refine wpR_q 22 (by kernel_rfl) rfl (quietAt_g rfl rfl rfl rfl hb39 (q_fieldAddr rfl Try.underlying42 rfl Try.sizeOf32 a31_1)) ?_
          refine wpR_q 23 (by kernel_rfl) rfl (quietAt_g rfl rfl rfl rfl hb39 (q_loadBlk rfl rfl Try.isAgg32 (hS33o13.blk 1 rfl) rfl (labU_not [] rfl (List.forall_mem_nil _)))) ?_
          refine wpR_q 24 (by kernel_rfl) rfl (quietAt_g rfl rfl rfl rfl hb39 (q_move (v := I ((k : Int))) rfl a31_5)) ?_
          refine wpR_q 25 (by kernel_rfl) rfl (quietAt_g rfl rfl rfl rfl hb39 (q_indexRd (k := k) rfl Try.underlying32 el_Int_3_LoopR0 rfl rfl (hS33o13.rdl 3 rfl) (by omega) (by omega))) ?_
          refine wpR_q 26 (by kernel_rfl) rfl (quietAt_g rfl rfl rfl rfl hb39 (q_loadInt (k := k) rfl rfl el_Int_3_LoopR0 (hS33o13.rdl 3 rfl) (by omega) (labU_sub [] rfl (List.forall_mem_nil _)))) ?_
          refine wpR_q 27 (by kernel_rfl) rfl (quietAt_g rfl rfl rfl rfl hb39 (q_gtr rfl rfl rfl)) ?_
          refine wpR_q 28 (by kernel_rfl) rfl (quietAt rfl rfl (q_pickF (v := B (decide ((nth l.High k) < (nth l.Low k)))) rfl hb39 rfl)) ?_
          refine wpR_end (by kernel_rfl) ?_
          exact ⟨a31_1, a31_2, a31_3, a31_4, a31_5, (Eq.trans rfl (congrArg B (decide_congr_of ((Iff.rfl).trans (((or_iff_right (not_or.2 ⟨hg34, hg37⟩)).trans Iff.rfl)).symm)))), hS33o13⟩
    rintro f40 H40 ⟨a40_1, a40_2, a40_3, a40_4, a40_5, a40_54, hS40⟩
    clear a31_1 a31_2 a31_23 a31_3 a31_4 a31_5
    refine wpF_condP a40_54 (fun h3 => ?t60) (fun h3 => ?e60)
    case t60 =>
      refine wpF_seq ?_
      refine wpF_cut (fun f H => f 2 = PT g4 0 ∧ St H0 NoB NoB [blkE g4 (.cells #[I (3), I (-1)] 27), blkE g1 (.cells #[wa, wb, wc, wd, we] 42), rdE wa l.Low, rdE wb l.High, rdE wc l.Start, rdE wd l.Jumps, rdE we l.Bad] H) ?_ ?_
      · refine wpF_region ?_
        refine wpL_o rfl ?_
        refine e_call rfl Try.call65 (arr2 (v0 := I (3)) (v1 := I (-1)) rfl rfl) (fault_R 3 (-1)) ?_
        rintro _ H42 ⟨hxx, rfl⟩
        have hS43 : St H0 NoB NoB [blkE g4 (.cells #[I (0), I (0)] 27), blkE g1 (.cells #[wa, wb, wc, wd, we] 42), rdE wa l.Low, rdE wb l.High, rdE wc l.Start, rdE wd l.Jumps, rdE we l.Bad] H42 := hS40.ext hxx
        refine wpL_o rfl ?_
        refine e_storeBlkA (cs' := #[I (3), I (-1)]) rfl a40_2 rfl Try.sizeOf27 rfl rfl (List.forall_mem_cons.2 ⟨rfl, List.forall_mem_cons.2 ⟨rfl, List.forall_mem_nil _⟩⟩) hS43 (fun H45 hS46 hxx => ?_)
        replace hS46 : St H0 NoB NoB [blkE g4 (.cells #[I (3), I (-1)] 27), blkE g1 (.cells #[wa, wb, wc, wd, we] 42), rdE wa l.Low, rdE wb l.High, rdE wc l.Start, rdE wd l.Jumps, rdE we l.Bad] H45 := hS46
        exact ⟨a40_2, hS46⟩
      rintro f47 H47 ⟨a47_2, hS47⟩
      clear a40_1 a40_2 a40_3 a40_4 a40_5 a40_54
      refine wpF_ret ?_
      refine ⟨_, resC a47_2 (loadV_blkA Try.isAgg27 Try.sizeOf27 rfl (hS47.blk 0 rfl)) (resN), hS47.frame, ?_⟩
      show (Value.agg #[I (3), I (-1)]) = Value.agg #[I (loopFault l).1, I (loopFault l).2]
      have hq := loopFault_3 (k := k) (by unfold LH1; omega) h2 (by omega) hp (boxBad_rng ((rng_iff _ _).1 h3)) (by decide)
      rw [hq]
    have hnr : ¬ rngBad l k := (fun h => h3 ((rng_iff _ _).2 h))
    have hb1 := hbx k (Nat.le_refl _)
    have hnb := hnr
    unfold rngBad at hnb
    have hmb := mul_box (a := boxTo l k) (b := nth l.High k - nth l.Low k + 1) hb1 (by omega)
    refine wpF_skip ?_
    refine wpF_seq ?_
    refine wpF_cut (fun f H => f 1 = PT g1 0 ∧ f 2 = PT g4 0 ∧ f 3 = I ((l.Low.length : Int)) ∧ f 4 = I ((boxTo l k) * (((nth l.High k) - (nth l.Low k)) + 1)) ∧ f 5 = I ((k : Int)) ∧ H40 = H) ?_ ?_
    · refine wpF_drawn [] [] (fun _ _ => False) (by kernel_rfl) (by kernel_rfl) ?_
      refine wpR_q 0 (by kernel_rfl) rfl (quietAt rfl rfl (q_move (v := I (boxTo l k)) rfl a40_4)) ?_
      refine wpR_q 1 (by kernel_rfl) rfl (quietAt rfl rfl (q_fieldAddr rfl Try.underlying42 rfl Try.sizeOf32 a40_1)) ?_
      refine wpR_q 2 (by kernel_rfl) rfl (quietAt rfl rfl (q_loadBlk rfl rfl Try.isAgg32 (hS40.blk 1 rfl) rfl (labU_not [] rfl (List.forall_mem_nil _)))) ?_
      refine wpR_q 3 (by kernel_rfl) rfl (quietAt rfl rfl (q_move (v := I ((k : Int))) rfl a40_5)) ?_
      refine wpR_q 4 (by kernel_rfl) rfl (quietAt rfl rfl (q_indexRd (k := k) rfl Try.underlying32 el_Int_3_LoopR0 rfl rfl (hS40.rdl 3 rfl) (by omega) (by omega))) ?_
      refine wpR_q 5 (by kernel_rfl) rfl (quietAt rfl rfl (q_loadInt (k := k) rfl rfl el_Int_3_LoopR0 (hS40.rdl 3 rfl) (by omega) (labU_sub [] rfl (List.forall_mem_nil _)))) ?_
      refine wpR_q 6 (by kernel_rfl) rfl (quietAt rfl rfl (q_fieldAddr rfl Try.underlying42 rfl Try.sizeOf32 a40_1)) ?_
      refine wpR_q 7 (by kernel_rfl) rfl (quietAt rfl rfl (q_loadBlk rfl rfl Try.isAgg32 (hS40.blk 1 rfl) rfl (labU_not [] rfl (List.forall_mem_nil _)))) ?_
      refine wpR_q 8 (by kernel_rfl) rfl (quietAt rfl rfl (q_move (v := I ((k : Int))) rfl a40_5)) ?_
      refine wpR_q 9 (by kernel_rfl) rfl (quietAt rfl rfl (q_indexRd (k := k) rfl Try.underlying32 el_Int_3_LoopR0 rfl rfl (hS40.rdl 2 rfl) (by omega) (by omega))) ?_
      refine wpR_q 10 (by kernel_rfl) rfl (quietAt rfl rfl (q_loadInt (k := k) rfl rfl el_Int_3_LoopR0 (hS40.rdl 2 rfl) (by omega) (labU_sub [] rfl (List.forall_mem_nil _)))) ?_
      refine wpR_q 11 (by kernel_rfl) rfl (quietAt rfl rfl (q_sub rfl rfl rfl (by constructor <;> omega))) ?_
      refine wpR_q 12 (by kernel_rfl) rfl (quietAt rfl rfl (q_add rfl rfl rfl (by constructor <;> omega))) ?_
      refine wpR_q 13 (by kernel_rfl) rfl (quietAt rfl rfl (q_mul rfl rfl rfl (by constructor <;> omega))) ?_
      refine wpR_q 14 (by kernel_rfl) rfl (quietAt rfl rfl (q_assign (v := I ((boxTo l k) * (((nth l.High k) - (nth l.Low k)) + 1))) rfl rfl)) ?_
      refine wpR_end (by kernel_rfl) ?_
      exact ⟨a40_1, a40_2, a40_3, rfl, a40_5, rfl⟩
    rintro f49 _ ⟨a49_1, a49_2, a49_3, a49_4, a49_5, rfl⟩
    clear a40_1 a40_2 a40_3 a40_4 a40_5 a40_54
    refine wpF_seq ?_
    refine wpF_cut (fun f H => f 1 = PT g1 0 ∧ f 2 = PT g4 0 ∧ f 3 = I ((l.Low.length : Int)) ∧ f 4 = I ((boxTo l k) * (((nth l.High k) - (nth l.Low k)) + 1)) ∧ f 5 = I ((k : Int)) ∧ f 71 = B (decide (1200 < ((boxTo l k) * (((nth l.High k) - (nth l.Low k)) + 1)))) ∧ H40 = H) ?_ ?_
    · refine wpF_region ?_
      refine wpL_q (U := NoB) rfl (q_move (v := I ((boxTo l k) * (((nth l.High k) - (nth l.Low k)) + 1))) rfl a49_4) ?_
      refine wpL_q (U := NoB) rfl (q_gtr rfl rfl rfl) ?_
      exact ⟨a49_1, a49_2, a49_3, a49_4, a49_5, rfl, rfl⟩
    rintro f50 _ ⟨a50_1, a50_2, a50_3, a50_4, a50_5, a50_71, rfl⟩
    clear a49_1 a49_2 a49_3 a49_4 a49_5
    refine wpF_condP a50_71 (fun h4 => ?t59) (fun h4 => ?e59)
    case e59 =>
      refine wpF_skip ?_
      refine wpF_cut (fun f H => f 1 = PT g1 0 ∧ f 2 = PT g4 0 ∧ f 3 = I ((l.Low.length : Int)) ∧ f 4 = I ((boxTo l k) * (((nth l.High k) - (nth l.Low k)) + 1)) ∧ f 5 = I ((k : Int) + 1) ∧ H40 = H) ?_ ?_
      · refine wpF_region ?_
        refine wpL_q (U := NoB) rfl (q_move (v := I ((k : Int))) rfl a50_5) ?_
        refine wpL_q (U := NoB) rfl (q_add rfl rfl rfl (by constructor <;> omega)) ?_
        refine wpL_q (U := NoB) rfl (q_assign (v := I ((k : Int) + 1)) rfl rfl) ?_
        exact ⟨a50_1, a50_2, a50_3, a50_4, rfl, rfl⟩
      rintro f58 _ ⟨a58_1, a58_2, a58_3, a58_4, a58_5, rfl⟩
      clear a50_1 a50_2 a50_3 a50_4 a50_5 a50_71
      refine ⟨_, ?_, k + 1, rfl, (by omega), (all_succ hp (boxBad_no hnr h4)), (box_next hbx hmb.1 h4), a58_1, a58_2, a58_3, a58_4, (Eq.trans a58_5 (congrArg I (by omega))), hS40⟩
      omega
    refine wpF_seq ?_
    refine wpF_cut (fun f H => f 2 = PT g4 0 ∧ St H0 NoB NoB [blkE g4 (.cells #[I (10), I (-1)] 27), blkE g1 (.cells #[wa, wb, wc, wd, we] 42), rdE wa l.Low, rdE wb l.High, rdE wc l.Start, rdE wd l.Jumps, rdE we l.Bad] H) ?_ ?_
    · refine wpF_region ?_
      refine wpL_o rfl ?_
      refine e_call rfl Try.call65 (arr2 (v0 := I (10)) (v1 := I (-1)) rfl rfl) (fault_R 10 (-1)) ?_
      rintro _ H52 ⟨hxx, rfl⟩
      have hS53 : St H0 NoB NoB [blkE g4 (.cells #[I (0), I (0)] 27), blkE g1 (.cells #[wa, wb, wc, wd, we] 42), rdE wa l.Low, rdE wb l.High, rdE wc l.Start, rdE wd l.Jumps, rdE we l.Bad] H52 := hS40.ext hxx
      refine wpL_o rfl ?_
      refine e_storeBlkA (cs' := #[I (10), I (-1)]) rfl a50_2 rfl Try.sizeOf27 rfl rfl (List.forall_mem_cons.2 ⟨rfl, List.forall_mem_cons.2 ⟨rfl, List.forall_mem_nil _⟩⟩) hS53 (fun H55 hS56 hxx => ?_)
      replace hS56 : St H0 NoB NoB [blkE g4 (.cells #[I (10), I (-1)] 27), blkE g1 (.cells #[wa, wb, wc, wd, we] 42), rdE wa l.Low, rdE wb l.High, rdE wc l.Start, rdE wd l.Jumps, rdE we l.Bad] H55 := hS56
      exact ⟨a50_2, hS56⟩
    rintro f57 H57 ⟨a57_2, hS57⟩
    clear a50_1 a50_2 a50_3 a50_4 a50_5 a50_71
    refine wpF_ret ?_
    refine ⟨_, resC a57_2 (loadV_blkA Try.isAgg27 Try.sizeOf27 rfl (hS57.blk 0 rfl)) (resN), hS57.frame, ?_⟩
    show (Value.agg #[I (10), I (-1)]) = Value.agg #[I (loopFault l).1, I (loopFault l).2]
    have hq := loopFault_3 (k := k) (by unfold LH1; omega) h2 (by omega) hp (boxBad_much hnr h4) (by decide)
    rw [hq]
  refine wpF_exit ?_
  refine atX_here ?_
  refine wpF_seq ?_
  refine wpF_seq ?_
  refine wpF_cut (fun f H => f 1 = PT g1 0 ∧ f 2 = PT g4 0 ∧ f 3 = I ((l.Low.length : Int)) ∧ f 76 = B (decide (6 < (l.Jumps.length : Int))) ∧ H30 = H) ?_ ?_
  · refine wpF_region ?_
    refine wpL_q (U := NoB) rfl (q_fieldAddr rfl Try.underlying42 rfl Try.sizeOf40 a31_1) ?_
    refine wpL_q (U := NoB) rfl (q_loadBlk rfl rfl Try.isAgg40 (hS30.blk 1 rfl) rfl (fun h => h)) ?_
    refine wpL_q (U := NoB) rfl (q_lenRd rfl Try.underlying40 rfl (hS30.rdl 5 rfl)) ?_
    refine wpL_q (U := NoB) rfl (q_gtr rfl rfl rfl) ?_
    exact ⟨a31_1, a31_2, a31_3, rfl, rfl⟩
  rintro f61 _ ⟨a61_1, a61_2, a61_3, a61_76, rfl⟩
  clear a31_1 a31_2 a31_23 a31_3 a31_4 a31_5
  refine wpF_condP a61_76 (fun h5 => ?t120) (fun h5 => ?e120)
  case t120 =>
    refine wpF_seq ?_
    refine wpF_cut (fun f H => f 2 = PT g4 0 ∧ St H0 NoB NoB [blkE g4 (.cells #[I (2), I (-1)] 27), blkE g1 (.cells #[wa, wb, wc, wd, we] 42), rdE wa l.Low, rdE wb l.High, rdE wc l.Start, rdE wd l.Jumps, rdE we l.Bad] H) ?_ ?_
    · refine wpF_region ?_
      refine wpL_o rfl ?_
      refine e_call rfl Try.call65 (arr2 (v0 := I (2)) (v1 := I (-1)) rfl rfl) (fault_R 2 (-1)) ?_
      rintro _ H63 ⟨hxx, rfl⟩
      have hS64 : St H0 NoB NoB [blkE g4 (.cells #[I (0), I (0)] 27), blkE g1 (.cells #[wa, wb, wc, wd, we] 42), rdE wa l.Low, rdE wb l.High, rdE wc l.Start, rdE wd l.Jumps, rdE we l.Bad] H63 := hS30.ext hxx
      refine wpL_o rfl ?_
      refine e_storeBlkA (cs' := #[I (2), I (-1)]) rfl a61_2 rfl Try.sizeOf27 rfl rfl (List.forall_mem_cons.2 ⟨rfl, List.forall_mem_cons.2 ⟨rfl, List.forall_mem_nil _⟩⟩) hS64 (fun H66 hS67 hxx => ?_)
      replace hS67 : St H0 NoB NoB [blkE g4 (.cells #[I (2), I (-1)] 27), blkE g1 (.cells #[wa, wb, wc, wd, we] 42), rdE wa l.Low, rdE wb l.High, rdE wc l.Start, rdE wd l.Jumps, rdE we l.Bad] H66 := hS67
      exact ⟨a61_2, hS67⟩
    rintro f68 H68 ⟨a68_2, hS68⟩
    clear a61_1 a61_2 a61_3 a61_76
    refine wpF_ret ?_
    refine ⟨_, resC a68_2 (loadV_blkA Try.isAgg27 Try.sizeOf27 rfl (hS68.blk 0 rfl)) (resN), hS68.frame, ?_⟩
    show (Value.agg #[I (2), I (-1)]) = Value.agg #[I (loopFault l).1, I (loopFault l).2]
    have hq := loopFault_4 (l := l) (by unfold LH1; omega) h2 (fun j hj => hp j (by omega)) h5
    rw [hq]
  refine wpF_skip ?_
  refine wpF_seq ?_
  refine wpF_cut (fun f H => f 1 = PT g1 0 ∧ f 2 = PT g4 0 ∧ f 3 = I ((l.Low.length : Int)) ∧ f 6 = I (rowsFault l.Start (l.Low.length : Int)) ∧ St H0 NoB NoB [blkE g4 (.cells #[I (0), I (0)] 27), blkE g1 (.cells #[wa, wb, wc, wd, we] 42), rdE wa l.Low, rdE wb l.High, rdE wc l.Start, rdE wd l.Jumps, rdE we l.Bad] H) ?_ ?_
  · refine wpF_region ?_
    refine wpL_q (U := NoB) rfl (q_fieldAddr rfl Try.underlying42 rfl Try.sizeOf22 a61_1) ?_
    refine wpL_q (U := NoB) rfl (q_loadBlk rfl rfl Try.isAgg22 (hS30.blk 1 rfl) rfl (fun h => h)) ?_
    refine wpL_q (U := NoB) rfl (q_move (v := I ((l.Low.length : Int))) rfl a61_3) ?_
    refine wpL_o rfl ?_
    refine e_call rfl Try.call15 (arr2 (v0 := wc) (v1 := I ((l.Low.length : Int))) rfl rfl) (Rows_R wc l.Start (l.Low.length : Int) (hS30.rdN 4 rfl)) ?_
    rintro _ H69 ⟨hxx, rfl⟩
    have hS70 : St H0 NoB NoB [blkE g4 (.cells #[I (0), I (0)] 27), blkE g1 (.cells #[wa, wb, wc, wd, we] 42), rdE wa l.Low, rdE wb l.High, rdE wc l.Start, rdE wd l.Jumps, rdE we l.Bad] H69 := hS30.ext hxx
    refine wpL_q (U := NoB) rfl (q_assign (v := I (rowsFault l.Start (l.Low.length : Int))) rfl rfl) ?_
    exact ⟨a61_1, a61_2, a61_3, rfl, hS70⟩
  rintro f72 H72 ⟨a72_1, a72_2, a72_3, a72_6, hS72⟩
  clear a61_1 a61_2 a61_3 a61_76
  refine wpF_seq ?_
  refine wpF_seq ?_
  refine wpF_cut (fun f H => f 1 = PT g1 0 ∧ f 2 = PT g4 0 ∧ f 3 = I ((l.Low.length : Int)) ∧ f 6 = I (rowsFault l.Start (l.Low.length : Int)) ∧ f 83 = B (decide ((rowsFault l.Start (l.Low.length : Int)) ≠ 0)) ∧ H72 = H) ?_ ?_
  · refine wpF_region ?_
    refine wpL_q (U := NoB) rfl (q_move (v := I (rowsFault l.Start (l.Low.length : Int))) rfl a72_6) ?_
    refine wpL_q (U := NoB) rfl (q_neq rfl rfl rfl) ?_
    exact ⟨a72_1, a72_2, a72_3, a72_6, rfl, rfl⟩
  rintro f73 _ ⟨a73_1, a73_2, a73_3, a73_6, a73_83, rfl⟩
  clear a72_1 a72_2 a72_3 a72_6
  refine wpF_condP a73_83 (fun h6 => ?t119) (fun h6 => ?e119)
  case t119 =>
    refine wpF_seq ?_
    refine wpF_cut (fun f H => f 2 = PT g4 0 ∧ St H0 NoB NoB [blkE g4 (.cells #[I (rowsFault l.Start (l.Low.length : Int)), I (-2)] 27), blkE g1 (.cells #[wa, wb, wc, wd, we] 42), rdE wa l.Low, rdE wb l.High, rdE wc l.Start, rdE wd l.Jumps, rdE we l.Bad] H) ?_ ?_
    · refine wpF_region ?_
      refine wpL_q (U := NoB) rfl (q_move (v := I (rowsFault l.Start (l.Low.length : Int))) rfl a73_6) ?_
      refine wpL_o rfl ?_
      refine e_call rfl Try.call65 (arr2 (v0 := I (rowsFault l.Start (l.Low.length : Int))) (v1 := I (-2)) rfl rfl) (fault_R (rowsFault l.Start (l.Low.length : Int)) (-2)) ?_
      rintro _ H75 ⟨hxx, rfl⟩
      have hS76 : St H0 NoB NoB [blkE g4 (.cells #[I (0), I (0)] 27), blkE g1 (.cells #[wa, wb, wc, wd, we] 42), rdE wa l.Low, rdE wb l.High, rdE wc l.Start, rdE wd l.Jumps, rdE we l.Bad] H75 := hS72.ext hxx
      refine wpL_o rfl ?_
      refine e_storeBlkA (cs' := #[I (rowsFault l.Start (l.Low.length : Int)), I (-2)]) rfl a73_2 rfl Try.sizeOf27 rfl rfl (List.forall_mem_cons.2 ⟨rfl, List.forall_mem_cons.2 ⟨rfl, List.forall_mem_nil _⟩⟩) hS76 (fun H78 hS79 hxx => ?_)
      replace hS79 : St H0 NoB NoB [blkE g4 (.cells #[I (rowsFault l.Start (l.Low.length : Int)), I (-2)] 27), blkE g1 (.cells #[wa, wb, wc, wd, we] 42), rdE wa l.Low, rdE wb l.High, rdE wc l.Start, rdE wd l.Jumps, rdE we l.Bad] H78 := hS79
      exact ⟨a73_2, hS79⟩
    rintro f80 H80 ⟨a80_2, hS80⟩
    clear a73_1 a73_2 a73_3 a73_6 a73_83
    refine wpF_ret ?_
    refine ⟨_, resC a80_2 (loadV_blkA Try.isAgg27 Try.sizeOf27 rfl (hS80.blk 0 rfl)) (resN), hS80.frame, ?_⟩
    show (Value.agg #[I (rowsFault l.Start (l.Low.length : Int)), I (-2)]) = Value.agg #[I (loopFault l).1, I (loopFault l).2]
    have hq := loopFault_5 (l := l) (by unfold LH1; omega) h2 (fun j hj => hp j (by omega)) h5 h6
    rw [hq]
  refine wpF_skip ?_
  refine wpF_seq ?_
  refine wpF_seq ?_
  refine wpF_cut (fun f H => f 1 = PT g1 0 ∧ f 2 = PT g4 0 ∧ f 3 = I ((l.Low.length : Int)) ∧ f 7 = I (0) ∧ H72 = H) ?_ ?_
  · refine wpF_region ?_
    refine wpL_q (U := NoB) rfl (q_assign (v := I (0)) rfl rfl) ?_
    exact ⟨a73_1, a73_2, a73_3, rfl, rfl⟩
  rintro f81 _ ⟨a81_1, a81_2, a81_3, a81_7, rfl⟩
  clear a73_1 a73_2 a73_3 a73_6 a73_83
  refine wpF_block ?_
  refine wpF_loop (fun mz f H => ∃ (i : Nat), mz = l.Jumps.length - i ∧ (i ≤ l.Jumps.length) ∧ (∀ j, j < i → jumpFault (nth l.Jumps j) l.Low.length = 0) ∧ f 1 = PT g1 0 ∧ f 2 = PT g4 0 ∧ f 3 = I ((l.Low.length : Int)) ∧ f 7 = I ((i : Int)) ∧ St H0 NoB NoB [blkE g4 (.cells #[I (0), I (0)] 27), blkE g1 (.cells #[wa, wb, wc, wd, we] 42), rdE wa l.Low, rdE wb l.High, rdE wc l.Start, rdE wd l.Jumps, rdE we l.Bad] H) (l.Jumps.length - 0) ?_ ?_
  · exact ⟨0, rfl, Nat.zero_le _, (fun j hj => absurd hj (Nat.not_lt_zero j)), a81_1, a81_2, a81_3, (Eq.trans a81_7 (congrArg I (by omega))), hS72⟩
  intro m82 f82 H82 hI82
  obtain ⟨i, hm82, hi, hj, a82_1, a82_2, a82_3, a82_7, hS82⟩ := hI82
  clear a81_1 a81_2 a81_3 a81_7
  refine wpF_seq ?_
  refine wpF_seq ?_
  refine wpF_cut (fun f H => f 1 = PT g1 0 ∧ f 2 = PT g4 0 ∧ f 3 = I ((l.Low.length : Int)) ∧ f 7 = I ((i : Int)) ∧ f 90 = B (decide ((i : Int) < (l.Jumps.length : Int))) ∧ H82 = H) ?_ ?_
  · refine wpF_region ?_
    refine wpL_q (U := NoB) rfl (q_move (v := I ((i : Int))) rfl a82_7) ?_
    refine wpL_q (U := NoB) rfl (q_fieldAddr rfl Try.underlying42 rfl Try.sizeOf40 a82_1) ?_
    refine wpL_q (U := NoB) rfl (q_loadBlk rfl rfl Try.isAgg40 (hS82.blk 1 rfl) rfl (fun h => h)) ?_
    refine wpL_q (U := NoB) rfl (q_lenRd rfl Try.underlying40 rfl (hS82.rdl 5 rfl)) ?_
    refine wpL_q (U := NoB) rfl (q_lss rfl rfl rfl) ?_
    exact ⟨a82_1, a82_2, a82_3, a82_7, rfl, rfl⟩
  rintro f83 _ ⟨a83_1, a83_2, a83_3, a83_7, a83_90, rfl⟩
  clear a82_1 a82_2 a82_3 a82_7
  refine wpF_condP a83_90 (fun hlt2 => ?t118) (fun hlt2 => ?e118)
  case e118 =>
    refine wpF_exit ?_
    refine atX_here ?_
    refine wpF_seq ?_
    refine wpF_cut (fun f H => f 2 = PT g4 0 ∧ f 6 = I (rowsFault l.Bad (l.Low.length : Int)) ∧ St H0 NoB NoB [blkE g4 (.cells #[I (0), I (0)] 27), blkE g1 (.cells #[wa, wb, wc, wd, we] 42), rdE wa l.Low, rdE wb l.High, rdE wc l.Start, rdE wd l.Jumps, rdE we l.Bad] H) ?_ ?_
    · refine wpF_region ?_
      refine wpL_q (U := NoB) rfl (q_fieldAddr rfl Try.underlying42 rfl Try.sizeOf22 a83_1) ?_
      refine wpL_q (U := NoB) rfl (q_loadBlk rfl rfl Try.isAgg22 (hS82.blk 1 rfl) rfl (fun h => h)) ?_
      refine wpL_q (U := NoB) rfl (q_move (v := I ((l.Low.length : Int))) rfl a83_3) ?_
      refine wpL_o rfl ?_
      refine e_call rfl Try.call15 (arr2 (v0 := we) (v1 := I ((l.Low.length : Int))) rfl rfl) (Rows_R we l.Bad (l.Low.length : Int) (hS82.rdN 6 rfl)) ?_
      rintro _ H102 ⟨hxx, rfl⟩
      have hS103 : St H0 NoB NoB [blkE g4 (.cells #[I (0), I (0)] 27), blkE g1 (.cells #[wa, wb, wc, wd, we] 42), rdE wa l.Low, rdE wb l.High, rdE wc l.Start, rdE wd l.Jumps, rdE we l.Bad] H102 := hS82.ext hxx
      refine wpL_q (U := NoB) rfl (q_assign (v := I (rowsFault l.Bad (l.Low.length : Int))) rfl rfl) ?_
      exact ⟨a83_2, rfl, hS103⟩
    rintro f105 H105 ⟨a105_2, a105_6, hS105⟩
    clear a83_1 a83_2 a83_3 a83_7 a83_90
    refine wpF_seq ?_
    refine wpF_seq ?_
    refine wpF_cut (fun f H => f 2 = PT g4 0 ∧ f 6 = I (rowsFault l.Bad (l.Low.length : Int)) ∧ f 110 = B (decide ((rowsFault l.Bad (l.Low.length : Int)) ≠ 0)) ∧ H105 = H) ?_ ?_
    · refine wpF_region ?_
      refine wpL_q (U := NoB) rfl (q_move (v := I (rowsFault l.Bad (l.Low.length : Int))) rfl a105_6) ?_
      refine wpL_q (U := NoB) rfl (q_neq rfl rfl rfl) ?_
      exact ⟨a105_2, a105_6, rfl, rfl⟩
    rintro f106 _ ⟨a106_2, a106_6, a106_110, rfl⟩
    clear a105_2 a105_6
    refine wpF_condP a106_110 (fun h8 => ?t117) (fun h8 => ?e117)
    case e117 =>
      refine wpF_skip ?_
      refine wpF_seq ?_
      refine wpF_cut (fun f H => f 2 = PT g4 0 ∧ St H0 NoB NoB [blkE g4 (.cells #[I (0), I (0)] 27), blkE g1 (.cells #[wa, wb, wc, wd, we] 42), rdE wa l.Low, rdE wb l.High, rdE wc l.Start, rdE wd l.Jumps, rdE we l.Bad] H) ?_ ?_
      · refine wpF_region ?_
        refine wpL_q (U := NoB) rfl (q_build (v := Value.agg #[I (0), I (0)]) rfl par0 (fun w => by kernel_rfl)) ?_
        refine wpL_o rfl ?_
        refine e_storeBlkA (cs' := #[I (0), I (0)]) rfl a106_2 rfl Try.sizeOf27 rfl rfl (List.forall_mem_cons.2 ⟨rfl, List.forall_mem_cons.2 ⟨rfl, List.forall_mem_nil _⟩⟩) hS105 (fun H114 hS115 hxx => ?_)
        replace hS115 : St H0 NoB NoB [blkE g4 (.cells #[I (0), I (0)] 27), blkE g1 (.cells #[wa, wb, wc, wd, we] 42), rdE wa l.Low, rdE wb l.High, rdE wc l.Start, rdE wd l.Jumps, rdE we l.Bad] H114 := hS115
        exact ⟨a106_2, hS115⟩
      rintro f116 H116 ⟨a116_2, hS116⟩
      clear a106_110 a106_2 a106_6
      refine wpF_ret ?_
      refine ⟨_, resC a116_2 (loadV_blkA Try.isAgg27 Try.sizeOf27 rfl (hS116.blk 0 rfl)) (resN), hS116.frame, ?_⟩
      show (Value.agg #[I (0), I (0)]) = Value.agg #[I (loopFault l).1, I (loopFault l).2]
      have hq := (loopFault_78 (l := l) (by unfold LH1; omega) h2 (fun j hj => hp j (by omega)) h5 h6 (fun j hjj => hj j (by omega))).trans (if_neg h8)
      rw [hq]
    refine wpF_seq ?_
    refine wpF_cut (fun f H => f 2 = PT g4 0 ∧ St H0 NoB NoB [blkE g4 (.cells #[I (rowsFault l.Bad (l.Low.length : Int)), I (-3)] 27), blkE g1 (.cells #[wa, wb, wc, wd, we] 42), rdE wa l.Low, rdE wb l.High, rdE wc l.Start, rdE wd l.Jumps, rdE we l.Bad] H) ?_ ?_
    · refine wpF_region ?_
      refine wpL_q (U := NoB) rfl (q_move (v := I (rowsFault l.Bad (l.Low.length : Int))) rfl a106_6) ?_
      refine wpL_o rfl ?_
      refine e_call rfl Try.call65 (arr2 (v0 := I (rowsFault l.Bad (l.Low.length : Int))) (v1 := I (-3)) rfl rfl) (fault_R (rowsFault l.Bad (l.Low.length : Int)) (-3)) ?_
      rintro _ H108 ⟨hxx, rfl⟩
      have hS109 : St H0 NoB NoB [blkE g4 (.cells #[I (0), I (0)] 27), blkE g1 (.cells #[wa, wb, wc, wd, we] 42), rdE wa l.Low, rdE wb l.High, rdE wc l.Start, rdE wd l.Jumps, rdE we l.Bad] H108 := hS105.ext hxx
      refine wpL_o rfl ?_
      refine e_storeBlkA (cs' := #[I (rowsFault l.Bad (l.Low.length : Int)), I (-3)]) rfl a106_2 rfl Try.sizeOf27 rfl rfl (List.forall_mem_cons.2 ⟨rfl, List.forall_mem_cons.2 ⟨rfl, List.forall_mem_nil _⟩⟩) hS109 (fun H111 hS112 hxx => ?_)
      replace hS112 : St H0 NoB NoB [blkE g4 (.cells #[I (rowsFault l.Bad (l.Low.length : Int)), I (-3)] 27), blkE g1 (.cells #[wa, wb, wc, wd, we] 42), rdE wa l.Low, rdE wb l.High, rdE wc l.Start, rdE wd l.Jumps, rdE we l.Bad] H111 := hS112
      exact ⟨a106_2, hS112⟩
    rintro f113 H113 ⟨a113_2, hS113⟩
    clear a106_110 a106_2 a106_6
    refine wpF_ret ?_
    refine ⟨_, resC a113_2 (loadV_blkA Try.isAgg27 Try.sizeOf27 rfl (hS113.blk 0 rfl)) (resN), hS113.frame, ?_⟩
    show (Value.agg #[I (rowsFault l.Bad (l.Low.length : Int)), I (-3)]) = Value.agg #[I (loopFault l).1, I (loopFault l).2]
    have hq := (loopFault_78 (l := l) (by unfold LH1; omega) h2 (fun j hj => hp j (by omega)) h5 h6 (fun j hjj => hj j (by omega))).trans (if_pos h8)
    rw [hq]
  refine wpF_skip ?_
  refine wpF_seq ?_
  refine wpF_block ?_
  refine wpF_seq ?_
  refine wpF_cut (fun f H => f 1 = PT g1 0 ∧ f 2 = PT g4 0 ∧ f 3 = I ((l.Low.length : Int)) ∧ f 6 = I (jumpFault (nth l.Jumps i) (l.Low.length : Int)) ∧ f 7 = I ((i : Int)) ∧ St H0 NoB NoB [blkE g4 (.cells #[I (0), I (0)] 27), blkE g1 (.cells #[wa, wb, wc, wd, we] 42), rdE wa l.Low, rdE wb l.High, rdE wc l.Start, rdE wd l.Jumps, rdE we l.Bad] H) ?_ ?_
  · refine wpF_region ?_
    refine wpL_q (U := NoB) rfl (q_fieldAddr rfl Try.underlying42 rfl Try.sizeOf40 a83_1) ?_
    refine wpL_q (U := NoB) rfl (q_loadBlk rfl rfl Try.isAgg40 (hS82.blk 1 rfl) rfl (fun h => h)) ?_
    refine wpL_q (U := NoB) rfl (q_move (v := I ((i : Int))) rfl a83_7) ?_
    refine wpL_q (U := NoB) rfl (q_indexRd (k := i) rfl Try.underlying40 el_Jump_25_LoopR0 rfl rfl (hS82.rdl 5 rfl) (by omega) (by omega)) ?_
    obtain ⟨u85, huu85, hlu85⟩ := (Rd.list.1 (hS82.rdS 5 rfl)).elem i (by omega)
    obtain ⟨u85n0, u85n1, rfl, hu850, hu851⟩ := Rd.jump.1 huu85
    have hS86 : St H0 NoB NoB [rdE u85n0 ((nth l.Jumps i).When), blkE g4 (.cells #[I (0), I (0)] 27), blkE g1 (.cells #[wa, wb, wc, wd, we] 42), rdE wa l.Low, rdE wb l.High, rdE wc l.Start, rdE wd l.Jumps, rdE we l.Bad] H82 := hS82.rd hu850
    have hS87 : St H0 NoB NoB [rdE u85n1 ((nth l.Jumps i).To), rdE u85n0 ((nth l.Jumps i).When), blkE g4 (.cells #[I (0), I (0)] 27), blkE g1 (.cells #[wa, wb, wc, wd, we] 42), rdE wa l.Low, rdE wb l.High, rdE wc l.Start, rdE wd l.Jumps, rdE we l.Bad] H82 := hS86.rd (hu851.sub fun _ hb => SL_rd hb)
    refine wpL_q (U := NoB) rfl (q_loadE rfl rfl (hlu85 Try.prog 25 _ el_Jump_25_LoopR0 (fun _ h => False.elim h))) ?_
    refine wpL_q (U := NoB) rfl (q_move (v := I ((l.Low.length : Int))) rfl a83_3) ?_
    refine wpL_o rfl ?_
    refine e_call rfl Try.call14 (arr2 (v0 := Value.agg #[u85n0, u85n1]) (v1 := I ((l.Low.length : Int))) rfl rfl) (Jump_R u85n0 u85n1 (nth l.Jumps i) (l.Low.length : Int) (hS87.rdN 1 rfl) (hS87.rdN 0 rfl)) ?_
    rintro _ H88 ⟨hxx, rfl⟩
    have hS89 : St H0 NoB NoB [rdE u85n1 ((nth l.Jumps i).To), rdE u85n0 ((nth l.Jumps i).When), blkE g4 (.cells #[I (0), I (0)] 27), blkE g1 (.cells #[wa, wb, wc, wd, we] 42), rdE wa l.Low, rdE wb l.High, rdE wc l.Start, rdE wd l.Jumps, rdE we l.Bad] H88 := hS87.ext hxx
    refine wpL_q (U := NoB) rfl (q_assign (v := I (jumpFault (nth l.Jumps i) (l.Low.length : Int))) rfl rfl) ?_
    exact ⟨a83_1, a83_2, a83_3, rfl, a83_7, (hS89.drop (sn (sn (sk (sk (sk (sk (sk (sk (sk (List.Sublist.slnil)))))))))))⟩
  rintro f91 H91 ⟨a91_1, a91_2, a91_3, a91_6, a91_7, hS91⟩
  clear a83_1 a83_2 a83_3 a83_7 a83_90
  refine wpF_seq ?_
  refine wpF_cut (fun f H => f 1 = PT g1 0 ∧ f 2 = PT g4 0 ∧ f 3 = I ((l.Low.length : Int)) ∧ f 6 = I (jumpFault (nth l.Jumps i) (l.Low.length : Int)) ∧ f 7 = I ((i : Int)) ∧ f 101 = B (decide ((jumpFault (nth l.Jumps i) (l.Low.length : Int)) ≠ 0)) ∧ H91 = H) ?_ ?_
  · refine wpF_region ?_
    refine wpL_q (U := NoB) rfl (q_move (v := I (jumpFault (nth l.Jumps i) (l.Low.length : Int))) rfl a91_6) ?_
    refine wpL_q (U := NoB) rfl (q_neq rfl rfl rfl) ?_
    exact ⟨a91_1, a91_2, a91_3, a91_6, a91_7, rfl, rfl⟩
  rintro f92 _ ⟨a92_1, a92_2, a92_3, a92_6, a92_7, a92_101, rfl⟩
  clear a91_1 a91_2 a91_3 a91_6 a91_7
  refine wpF_condP a92_101 (fun h7 => ?t101) (fun h7 => ?e101)
  case e101 =>
    refine wpF_skip ?_
    refine wpF_cut (fun f H => f 1 = PT g1 0 ∧ f 2 = PT g4 0 ∧ f 3 = I ((l.Low.length : Int)) ∧ f 7 = I ((i : Int) + 1) ∧ H91 = H) ?_ ?_
    · refine wpF_region ?_
      refine wpL_q (U := NoB) rfl (q_move (v := I ((i : Int))) rfl a92_7) ?_
      refine wpL_q (U := NoB) rfl (q_add rfl rfl rfl (by constructor <;> omega)) ?_
      refine wpL_q (U := NoB) rfl (q_assign (v := I ((i : Int) + 1)) rfl rfl) ?_
      exact ⟨a92_1, a92_2, a92_3, rfl, rfl⟩
    rintro f100 _ ⟨a100_1, a100_2, a100_3, a100_7, rfl⟩
    clear a92_1 a92_101 a92_2 a92_3 a92_6 a92_7
    refine ⟨_, ?_, i + 1, rfl, (by omega), (all_succ hj (by simpa using h7)), a100_1, a100_2, a100_3, (Eq.trans a100_7 (congrArg I (by omega))), hS91⟩
    omega
  refine wpF_seq ?_
  refine wpF_cut (fun f H => f 2 = PT g4 0 ∧ St H0 NoB NoB [blkE g4 (.cells #[I (jumpFault (nth l.Jumps i) (l.Low.length : Int)), I ((i : Int))] 27), blkE g1 (.cells #[wa, wb, wc, wd, we] 42), rdE wa l.Low, rdE wb l.High, rdE wc l.Start, rdE wd l.Jumps, rdE we l.Bad] H) ?_ ?_
  · refine wpF_region ?_
    refine wpL_q (U := NoB) rfl (q_move (v := I (jumpFault (nth l.Jumps i) (l.Low.length : Int))) rfl a92_6) ?_
    refine wpL_q (U := NoB) rfl (q_move (v := I ((i : Int))) rfl a92_7) ?_
    refine wpL_o rfl ?_
    refine e_call rfl Try.call65 (arr2 (v0 := I (jumpFault (nth l.Jumps i) (l.Low.length : Int))) (v1 := I ((i : Int))) rfl rfl) (fault_R (jumpFault (nth l.Jumps i) (l.Low.length : Int)) (i : Int)) ?_
    rintro _ H94 ⟨hxx, rfl⟩
    have hS95 : St H0 NoB NoB [blkE g4 (.cells #[I (0), I (0)] 27), blkE g1 (.cells #[wa, wb, wc, wd, we] 42), rdE wa l.Low, rdE wb l.High, rdE wc l.Start, rdE wd l.Jumps, rdE we l.Bad] H94 := hS91.ext hxx
    refine wpL_o rfl ?_
    refine e_storeBlkA (cs' := #[I (jumpFault (nth l.Jumps i) (l.Low.length : Int)), I ((i : Int))]) rfl a92_2 rfl Try.sizeOf27 rfl rfl (List.forall_mem_cons.2 ⟨rfl, List.forall_mem_cons.2 ⟨rfl, List.forall_mem_nil _⟩⟩) hS95 (fun H97 hS98 hxx => ?_)
    replace hS98 : St H0 NoB NoB [blkE g4 (.cells #[I (jumpFault (nth l.Jumps i) (l.Low.length : Int)), I ((i : Int))] 27), blkE g1 (.cells #[wa, wb, wc, wd, we] 42), rdE wa l.Low, rdE wb l.High, rdE wc l.Start, rdE wd l.Jumps, rdE we l.Bad] H97 := hS98
    exact ⟨a92_2, hS98⟩
  rintro f99 H99 ⟨a99_2, hS99⟩
  clear a92_1 a92_101 a92_2 a92_3 a92_6 a92_7
  refine wpF_ret ?_
  refine ⟨_, resC a99_2 (loadV_blkA Try.isAgg27 Try.sizeOf27 rfl (hS99.blk 0 rfl)) (resN), hS99.frame, ?_⟩
  show (Value.agg #[I (jumpFault (nth l.Jumps i) (l.Low.length : Int)), I ((i : Int))]) = Value.agg #[I (loopFault l).1, I (loopFault l).2]
  have hq := loopFault_6 (k := i) (by unfold LH1; omega) h2 (fun j hj => hp j (by omega)) h5 h6 (by omega) hj h7
  rw [hq]

end Go.Um
