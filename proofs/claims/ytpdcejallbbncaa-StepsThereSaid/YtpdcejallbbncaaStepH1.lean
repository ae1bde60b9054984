import Derived.Test.YtpdcejallbbncaaProg
import Derived.Test.YtpdcejallbbncaaActC1
import Derived.Test.YtpdcejallbbncaaStepRun
namespace Go.Um
open Go.Proofs
open GoT (sz ag rdc)
open KeyT (kv)

theorem el_Bool_4_StepH1 : ElT Try.prog Bool 4 := ⟨Try.isAgg4, Try.sizeOf4⟩
theorem el_Int_3_StepH1 : ElT Try.prog Int 3 := ⟨Try.isAgg3, Try.sizeOf3⟩
theorem el_LInt_22_StepH1 : ElT Try.prog (List Int) 22 := ⟨Try.isAgg22, Try.sizeOf22⟩

set_option maxHeartbeats 1000000 in
set_option maxRecDepth 100000 in
theorem Held_R {H0 : Heap} (vl vh : Value) (l : List (List Int)) (holds : List Bool) (rl : Rd NoB H0 vl l) (rh : Rd NoB H0 vh holds) (hsm : ∀ c ∈ l, ∀ v ∈ c, -1000 ≤ v ∧ v ≤ 1000) : CallsH Try.prog 37 #[vl, vh] H0 (fun rv_ H' => Ext NoB H0 H' ∧ rv_ = B (heldB l holds)) := by
  have hsl := (Rd.list.1 rl).small
  have hS0 : St H0 NoB NoB [rdE vl l, rdE vh holds] H0 := St.arg (St.arg (St.start (fun _ h => h.elim)) (Bl0.nil) rh (fun _ h => h)) (Bl0.cons (Bl0.nil)) rl (fun _ h => h)
  refine callsH_of_wpF (args := [vl, vh]) (rs := [.tmp 4]) Try.func37 rfl Try.ntmps37 Try.results37 (by kernel_rfl) (Nat.le_of_ble_eq_true rfl) ?_
  have a0_0 : argF [vl, vh] 0 = vl := rfl
  have a0_1 : argF [vl, vh] 1 = vh := rfl
  generalize argF [vl, vh] = f0 at *
  refine wpF_seq ?_
  refine wpF_cut (fun f H => f 0 = vl ∧ f 1 = vh ∧ H0 = H) ?_ ?_
  · refine wpF_region ?_
    refine wpL_q (U := NoB) rfl (q_assign (v := B (false)) rfl rfl) ?_
    exact ⟨a0_0, a0_1, rfl⟩
  rintro f1 _ ⟨a1_0, a1_1, rfl⟩
  clear a0_0 a0_1
  refine wpF_seq ?_
  refine wpF_seq ?_
  refine wpF_cut (fun f H => f 0 = vl ∧ f 1 = vh ∧ f 5 = I (0) ∧ H0 = H) ?_ ?_
  · refine wpF_region ?_
    refine wpL_q (U := NoB) rfl (q_assign (v := I (0)) rfl rfl) ?_
    exact ⟨a1_0, a1_1, rfl, rfl⟩
  rintro f2 _ ⟨a2_0, a2_1, a2_5, rfl⟩
  clear a1_0 a1_1
  refine wpF_block ?_
  refine wpF_loop (fun mz f H => ∃ (i : Nat), mz = l.length - i ∧ (i ≤ l.length) ∧ (∀ j, j < i → clauseB holds (nth l j) = true) ∧ f 0 = vl ∧ f 1 = vh ∧ f 5 = I ((i : Int)) ∧ St H0 NoB NoB [rdE vl l, rdE vh holds] H) (l.length - 0) ?_ ?_
  · exact ⟨0, rfl, Nat.zero_le _, (fun j hj => absurd hj (Nat.not_lt_zero j)), a2_0, a2_1, (Eq.trans a2_5 (congrArg I (by omega))), hS0⟩
  intro m3 f3 H3 hI3
  obtain ⟨i, hm3, hi, hall, a3_0, a3_1, a3_5, hS3⟩ := hI3
  clear a2_0 a2_1 a2_5
  refine wpF_seq ?_
  refine wpF_seq ?_
  refine wpF_cut (fun f H => f 0 = vl ∧ f 1 = vh ∧ f 5 = I ((i : Int)) ∧ f 12 = B (decide ((i : Int) < (l.length : Int))) ∧ H3 = H) ?_ ?_
  · refine wpF_region ?_
    refine wpL_q (U := NoB) rfl (q_move (v := I ((i : Int))) rfl a3_5) ?_
    refine wpL_q (U := NoB) rfl (q_move (v := vl) rfl a3_0) ?_
    refine wpL_q (U := NoB) rfl (q_lenRd rfl Try.underlying56 rfl (hS3.rdl 0 rfl)) ?_
    refine wpL_q (U := NoB) rfl (q_lss rfl rfl rfl) ?_
    exact ⟨a3_0, a3_1, a3_5, rfl, rfl⟩
  rintro f4 _ ⟨a4_0, a4_1, a4_5, a4_12, rfl⟩
  clear a3_0 a3_1 a3_5
  refine wpF_condP a4_12 (fun h12 => ?t68) (fun h12 => ?e68)
  case e68 =>
    refine wpF_exit ?_
    refine atX_here ?_
    refine wpF_seq ?_
    refine wpF_cut (fun f H => f 4 = B (true) ∧ H3 = H) ?_ ?_
    · refine wpF_region ?_
      refine wpL_q (U := NoB) rfl (q_assign (v := B (true)) rfl rfl) ?_
      exact ⟨rfl, rfl⟩
    rintro f67 _ ⟨a67_4, rfl⟩
    clear a4_0 a4_1 a4_12 a4_5
    refine wpF_ret ?_
    refine ⟨_, resT a67_4 resN, hS3.frame, ?_⟩
    show (B (true)) = B (heldB l holds)
    exact congrArg B (heldB_all (fun j hj => hall j (by omega))).symm
  obtain ⟨_, hru, _⟩ := (Rd.list.1 rl).elem i (by omega)
  have hsu := (Rd.list.1 hru).small
  refine wpF_skip ?_
  refine wpF_seq ?_
  refine wpF_block ?_
  refine wpF_seq ?_
  refine wpF_cut (fun f H => f 0 = vl ∧ f 1 = vh ∧ f 5 = I ((i : Int)) ∧ f 6 = B (false) ∧ H3 = H) ?_ ?_
  · refine wpF_region ?_
    refine wpL_q (U := NoB) rfl (q_assign (v := B (false)) rfl rfl) ?_
    exact ⟨a4_0, a4_1, a4_5, rfl, rfl⟩
  rintro f6 _ ⟨a6_0, a6_1, a6_5, a6_6, rfl⟩
  clear a4_0 a4_1 a4_12 a4_5
  refine wpF_seq ?_
  refine wpF_seq ?_
  refine wpF_cut (fun f H => f 0 = vl ∧ f 1 = vh ∧ f 5 = I ((i : Int)) ∧ f 6 = B (false) ∧ f 7 = I (0) ∧ H3 = H) ?_ ?_
  · refine wpF_region ?_
    refine wpL_q (U := NoB) rfl (q_assign (v := I (0)) rfl rfl) ?_
    exact ⟨a6_0, a6_1, a6_5, a6_6, rfl, rfl⟩
  rintro f7 _ ⟨a7_0, a7_1, a7_5, a7_6, a7_7, rfl⟩
  clear a6_0 a6_1 a6_5 a6_6
  refine wpF_block ?_
  refine wpF_loop (fun mz f H => ∃ (j : Nat), mz = (nth l i).length - j ∧ (j ≤ (nth l i).length) ∧ f 0 = vl ∧ f 1 = vh ∧ f 5 = I ((i : Int)) ∧ f 6 = B ((clauseB holds ((nth l i).take j))) ∧ f 7 = I ((j : Int)) ∧ St H0 NoB NoB [rdE vl l, rdE vh holds] H) ((nth l i).length - 0) ?_ ?_
  · exact ⟨0, rfl, Nat.zero_le _, a7_0, a7_1, a7_5, a7_6, (Eq.trans a7_7 (congrArg I (by omega))), hS3⟩
  intro m8 f8 H8 hI8
  obtain ⟨j, hm8, hj, a8_0, a8_1, a8_5, a8_6, a8_7, hS8⟩ := hI8
  clear a7_0 a7_1 a7_5 a7_6 a7_7
  refine wpF_seq ?_
  refine wpF_seq ?_
  obtain ⟨u9, huu9, hlu9⟩ := (Rd.list.1 (hS8.rdS 0 rfl)).elem i (by omega)
  have hS10 : St H0 NoB NoB [rdE u9 (nth l i), rdE vl l, rdE vh holds] H8 := hS8.rd huu9
  refine wpF_cut (fun f H => f 0 = vl ∧ f 1 = vh ∧ f 5 = I ((i : Int)) ∧ f 6 = B ((clauseB holds ((nth l i).take j))) ∧ f 7 = I ((j : Int)) ∧ f 21 = B (decide ((j : Int) < ((nth l i).length : Int))) ∧ H8 = H) ?_ ?_
  · refine wpF_region ?_
    refine wpL_q (U := NoB) rfl (q_move (v := I ((j : Int))) rfl a8_7) ?_
    refine wpL_q (U := NoB) rfl (q_move (v := vl) rfl a8_0) ?_
    refine wpL_q (U := NoB) rfl (q_move (v := I ((i : Int))) rfl a8_5) ?_
    refine wpL_q (U := NoB) rfl (q_indexRd (k := i) rfl Try.underlying56 el_LInt_22_StepH1 rfl rfl (hS8.rdl 0 rfl) (by omega) (by omega)) ?_
    refine wpL_q (U := NoB) rfl (q_loadE rfl rfl (hlu9 Try.prog 22 _ el_LInt_22_StepH1 (fun _ h => False.elim h))) ?_
    refine wpL_q (U := NoB) rfl (q_lenRd rfl Try.underlying22 rfl (hS10.rdl 0 rfl)) ?_
    refine wpL_q (U := NoB) rfl (q_lss rfl rfl rfl) ?_
    exact ⟨a8_0, a8_1, a8_5, a8_6, a8_7, rfl, rfl⟩
  rintro f11 _ ⟨a11_0, a11_1, a11_5, a11_6, a11_7, a11_21, rfl⟩
  clear a8_0 a8_1 a8_5 a8_6 a8_7
  refine wpF_condP a11_21 (fun h21 => ?t66) (fun h21 => ?e66)
  case e66 =>
    refine wpF_exit ?_
    refine atX_here ?_
    refine wpF_seq ?_
    refine wpF_cut (fun f H => f 0 = vl ∧ f 1 = vh ∧ f 5 = I ((i : Int)) ∧ f 67 = B (!(clauseB holds ((nth l i).take j))) ∧ H8 = H) ?_ ?_
    · refine wpF_region ?_
      refine wpL_q (U := NoB) rfl (q_move (v := B ((clauseB holds ((nth l i).take j)))) rfl a11_6) ?_
      refine wpL_q (U := NoB) rfl (q_not rfl rfl) ?_
      exact ⟨a11_0, a11_1, a11_5, rfl, rfl⟩
    rintro f61 _ ⟨a61_0, a61_1, a61_5, a61_67, rfl⟩
    clear a11_0 a11_1 a11_21 a11_5 a11_6 a11_7
    refine wpF_cond a61_67 (fun h67 => ?t65) (fun h67 => ?e65)
    case e65 =>
      have hcy : clauseB holds (nth l i) = true := by have h6 := h67; rw [List.take_of_length_le (by omega)] at h6; simpa using h6
      refine wpF_skip ?_
      refine wpF_cut (fun f H => f 0 = vl ∧ f 1 = vh ∧ f 5 = I ((i : Int) + 1) ∧ H8 = H) ?_ ?_
      · refine wpF_region ?_
        refine wpL_q (U := NoB) rfl (q_move (v := I ((i : Int))) rfl a61_5) ?_
        refine wpL_q (U := NoB) rfl (q_add rfl rfl rfl (by constructor <;> omega)) ?_
        refine wpL_q (U := NoB) rfl (q_assign (v := I ((i : Int) + 1)) rfl rfl) ?_
        exact ⟨a61_0, a61_1, rfl, rfl⟩
      rintro f64 _ ⟨a64_0, a64_1, a64_5, rfl⟩
      clear a61_0 a61_1 a61_5 a61_67
      refine ⟨_, ?_, i + 1, rfl, (by omega), (all_succ hall hcy), a64_0, a64_1, (Eq.trans a64_5 (congrArg I (by omega))), hS8⟩
      omega
    refine wpF_seq ?_
    refine wpF_cut (fun f H => f 4 = B (false) ∧ H8 = H) ?_ ?_
    · refine wpF_region ?_
      refine wpL_q (U := NoB) rfl (q_assign (v := B (false)) rfl rfl) ?_
      exact ⟨rfl, rfl⟩
    rintro f63 _ ⟨a63_4, rfl⟩
    clear a61_0 a61_1 a61_5 a61_67
    refine wpF_ret ?_
    refine ⟨_, resT a63_4 resN, hS8.frame, ?_⟩
    show (B (false)) = B (heldB l holds)
    have h6 := h67
    rw [List.take_of_length_le (by omega)] at h6
    exact congrArg B (heldB_not (i := i) (by omega) (by simpa using h6)).symm
  refine wpF_skip ?_
  refine wpF_seq ?_
  refine wpF_block ?_
  refine wpF_seq ?_
  obtain ⟨u13, huu13, hlu13⟩ := (Rd.list.1 (hS8.rdS 0 rfl)).elem i (by omega)
  have hS14 : St H0 NoB NoB [rdE u13 (nth l i), rdE vl l, rdE vh holds] H8 := hS8.rd huu13
  refine wpF_cut (fun f H => f 0 = vl ∧ f 1 = vh ∧ f 5 = I ((i : Int)) ∧ f 6 = B ((clauseB holds ((nth l i).take j))) ∧ f 7 = I ((j : Int)) ∧ f 8 = I (nth (nth l i) j) ∧ H8 = H) ?_ ?_
  · refine wpF_region ?_
    refine wpL_q (U := NoB) rfl (q_move (v := vl) rfl a11_0) ?_
    refine wpL_q (U := NoB) rfl (q_move (v := I ((i : Int))) rfl a11_5) ?_
    refine wpL_q (U := NoB) rfl (q_indexRd (k := i) rfl Try.underlying56 el_LInt_22_StepH1 rfl rfl (hS8.rdl 0 rfl) (by omega) (by omega)) ?_
    refine wpL_q (U := NoB) rfl (q_loadE rfl rfl (hlu13 Try.prog 22 _ el_LInt_22_StepH1 (fun _ h => False.elim h))) ?_
    refine wpL_q (U := NoB) rfl (q_move (v := I ((j : Int))) rfl a11_7) ?_
    refine wpL_q (U := NoB) rfl (q_indexRd (k := j) rfl Try.underlying22 el_Int_3_StepH1 rfl rfl (hS14.rdl 0 rfl) (by omega) (by omega)) ?_
    refine wpL_q (U := NoB) rfl (q_loadInt (k := j) rfl rfl el_Int_3_StepH1 (hS14.rdl 0 rfl) (by omega) (fun _ h => h)) ?_
    refine wpL_q (U := NoB) rfl (q_assign (v := I (nth (nth l i) j)) rfl rfl) ?_
    exact ⟨a11_0, a11_1, a11_5, a11_6, a11_7, rfl, rfl⟩
  rintro f15 _ ⟨a15_0, a15_1, a15_5, a15_6, a15_7, a15_8, rfl⟩
  clear a11_0 a11_1 a11_21 a11_5 a11_6 a11_7
  refine wpF_seq ?_
  have hvb := hsm _ (nth_mem (l := l) (k := i) (by omega)) _ (nth_mem (l := nth l i) (k := j) (by omega))
  refine wpF_cut (fun f H => f 0 = vl ∧ f 1 = vh ∧ f 5 = I ((i : Int)) ∧ f 6 = B ((clauseB holds ((nth l i).take j))) ∧ f 7 = I ((j : Int)) ∧ f 65 = B (decide ((((0 < (nth (nth l i) j)) ∧ (1 ≤ (nth (nth l i) j) ∧ (nth (nth l i) j) ≤ (holds.length : Int))) ∧ ((nth holds (((nth (nth l i) j) - 1).toNat)) = true)) ∨ ((((nth (nth l i) j) < 0) ∧ (1 ≤ (-(nth (nth l i) j)) ∧ (-(nth (nth l i) j)) ≤ (holds.length : Int))) ∧ ((!(nth holds (((-(nth (nth l i) j)) - 1).toNat))) = true)))) ∧ St H0 NoB NoB [rdE vl l, rdE vh holds] H) ?_ ?_
  · refine wpF_region ?_
    refine wpL_q (U := NoB) rfl (q_move (v := I (nth (nth l i) j)) rfl a15_8) ?_
    refine wpL_q (U := NoB) rfl (q_gtr rfl rfl rfl) ?_
    refine wpL_q (U := NoB) rfl (q_move (v := B (decide (0 < (nth (nth l i) j)))) rfl rfl) ?_
    by_cases hg16 : 0 < (nth (nth l i) j)
    · have hb17 := Eq.trans rfl (congrArg B (decide_eq_true hg16))
      refine wpL_gq (U := NoB) rfl rfl rfl hb17 (q_move (v := I (nth (nth l i) j)) rfl a15_8) ?_
      refine wpL_gq (U := NoB) rfl rfl rfl hb17 (q_move (v := vh) rfl a15_1) ?_
      refine wpL_gq (U := NoB) rfl rfl rfl hb17 (q_lenRd rfl Try.underlying29 rfl (hS8.rdl 1 rfl)) ?_
      refine wpL_go rfl rfl rfl hb17 ?_
      refine e_call rfl Try.call38 (arr3 (v0 := I (nth (nth l i) j)) (v1 := I (1)) (v2 := I ((holds.length : Int))) rfl rfl rfl) (in_R (nth (nth l i) j) 1 (holds.length : Int)) ?_
      rintro _ H19 ⟨hxx, rfl⟩
      have hS20 : St H0 NoB NoB [rdE vl l, rdE vh holds] H19 := hS8.ext hxx
      refine wpL_q (U := NoB) rfl (q_pickT (v := B (decide (1 ≤ (nth (nth l i) j) ∧ (nth (nth l i) j) ≤ (holds.length : Int)))) rfl hb17 rfl) ?_
      refine wpL_q (U := NoB) rfl (q_move (v := B (decide (1 ≤ (nth (nth l i) j) ∧ (nth (nth l i) j) ≤ (holds.length : Int)))) rfl rfl) ?_
      by_cases hg22 : 1 ≤ (nth (nth l i) j) ∧ (nth (nth l i) j) ≤ (holds.length : Int)
      · have hb23 := Eq.trans rfl (congrArg B (decide_eq_true hg22))
        refine wpL_gq (U := NoB) rfl rfl rfl hb23 (q_move (v := vh) rfl a15_1) ?_
        refine wpL_gq (U := NoB) rfl rfl rfl hb23 (q_move (v := I (nth (nth l i) j)) rfl a15_8) ?_
        refine wpL_gq (U := NoB) rfl rfl rfl hb23 (q_sub rfl rfl rfl (by constructor <;> omega)) ?_
        refine wpL_gq (U := NoB) rfl rfl rfl hb23 (q_indexRd (k := ((nth (nth l i) j) - 1).toNat) rfl Try.underlying29 el_Bool_4_StepH1 rfl rfl (hS20.rdl 1 rfl) (by omega) (by omega)) ?_
        refine wpL_gq (U := NoB) rfl rfl rfl hb23 (q_loadBool (k := ((nth (nth l i) j) - 1).toNat) rfl rfl el_Bool_4_StepH1 (hS20.rdl 1 rfl) (by omega) (fun _ h => h)) ?_
        refine wpL_q (U := NoB) rfl (q_pickT (v := B (nth holds (((nth (nth l i) j) - 1).toNat))) rfl hb23 rfl) ?_
        refine wpL_q (U := NoB) rfl (q_move (v := B (nth holds (((nth (nth l i) j) - 1).toNat))) rfl rfl) ?_
        by_cases hg25 : (nth holds (((nth (nth l i) j) - 1).toNat)) = true
        · have hb26 := Eq.trans rfl (congrArg B hg25)
          refine wpL_gs rfl rfl rfl hb26 rfl ?_
          refine wpL_gs rfl rfl rfl hb26 rfl ?_
          refine wpL_gs rfl rfl rfl hb26 rfl ?_
          refine wpL_gs' rfl rfl rfl rfl ?_
          refine wpL_gs' rfl rfl rfl rfl ?_
          refine wpL_gs' rfl rfl rfl rfl ?_
          refine wpL_gs' rfl rfl rfl rfl ?_
          refine wpL_gs' rfl rfl rfl rfl ?_
          refine wpL_gs rfl rfl rfl hb26 rfl ?_
          refine wpL_gs rfl rfl rfl hb26 rfl ?_
          refine wpL_gs' rfl rfl rfl rfl ?_
          refine wpL_gs' rfl rfl rfl rfl ?_
          refine wpL_gs' rfl rfl rfl rfl ?_
          refine wpL_gs' rfl rfl rfl rfl ?_
          refine wpL_gs' rfl rfl rfl rfl ?_
          refine wpL_gs' rfl rfl rfl rfl ?_
          refine wpL_gs' rfl rfl rfl rfl ?_
          refine wpL_gs rfl rfl rfl hb26 rfl ?_
          refine wpL_q (U := NoB) rfl (q_pickT (v := B (true)) rfl hb26 rfl) ?_
          exact ⟨a15_0, a15_1, a15_5, a15_6, a15_7, (Eq.trans rfl (congrArg B ((decide_eq_true (Or.inl ⟨⟨hg16, hg22⟩, hg25⟩)).symm))), hS20⟩
        · have hb27 := Eq.trans rfl (congrArg B (Bool.eq_false_iff.2 hg25))
          refine wpL_gq (U := NoB) rfl rfl rfl hb27 (q_move (v := I (nth (nth l i) j)) rfl a15_8) ?_
          refine wpL_gq (U := NoB) rfl rfl rfl hb27 (q_lss rfl rfl rfl) ?_
          refine wpL_gq (U := NoB) rfl rfl rfl hb27 (q_move (v := B (decide ((nth (nth l i) j) < 0))) rfl rfl) ?_
          by_cases hg28 : (nth (nth l i) j) < 0
          · have hb29 := Eq.trans rfl (congrArg B (decide_eq_true hg28))
            refine wpL_gq (U := NoB) rfl rfl rfl hb29 (q_move (v := I (nth (nth l i) j)) rfl a15_8) ?_
            refine wpL_gq (U := NoB) rfl rfl rfl hb29 (q_neg rfl rfl (by constructor <;> omega)) ?_
            refine wpL_gq (U := NoB) rfl rfl rfl hb29 (q_move (v := vh) rfl a15_1) ?_
            refine wpL_gq (U := NoB) rfl rfl rfl hb29 (q_lenRd rfl Try.underlying29 rfl (hS20.rdl 1 rfl)) ?_
            refine wpL_go rfl rfl rfl hb29 ?_
            refine e_call rfl Try.call38 (arr3 (v0 := I (-(nth (nth l i) j))) (v1 := I (1)) (v2 := I ((holds.length : Int))) rfl rfl rfl) (in_R (-(nth (nth l i) j)) 1 (holds.length : Int)) ?_
            rintro _ H31 ⟨hxx, rfl⟩
            have hS32 : St H0 NoB NoB [rdE vl l, rdE vh holds] H31 := hS20.ext hxx
            refine wpL_gq (U := NoB) rfl rfl rfl hb27 (q_pickT (v := B (decide (1 ≤ (-(nth (nth l i) j)) ∧ (-(nth (nth l i) j)) ≤ (holds.length : Int)))) rfl hb29 rfl) ?_
            refine wpL_gq (U := NoB) rfl rfl rfl hb27 (q_move (v := B (decide (1 ≤ (-(nth (nth l i) j)) ∧ (-(nth (nth l i) j)) ≤ (holds.length : Int)))) rfl rfl) ?_
            by_cases hg34 : 1 ≤ (-(nth (nth l i) j)) ∧ (-(nth (nth l i) j)) ≤ (holds.length : Int)
            · have hb35 := Eq.trans rfl (congrArg B (decide_eq_true hg34))
              refine wpL_gq (U := NoB) rfl rfl rfl hb35 (q_move (v := vh) rfl a15_1) ?_
              refine wpL_gq (U := NoB) rfl rfl rfl hb35 (q_move (v := I (nth (nth l i) j)) rfl a15_8) ?_
              refine wpL_gq (U := NoB) rfl rfl rfl hb35 (q_neg rfl rfl (by constructor <;> omega)) ?_
              refine wpL_gq (U := NoB) rfl rfl rfl hb35 (q_sub rfl rfl rfl (by constructor <;> omega)) ?_
              refine wpL_gq (U := NoB) rfl rfl rfl hb35 (q_indexRd (k := ((-(nth (nth l i) j)) - 1).toNat) rfl Try.underlying29 el_Bool_4_StepH1 rfl rfl (hS32.rdl 1 rfl) (by omega) (by omega)) ?_
              refine wpL_gq (U := NoB) rfl rfl rfl hb35 (q_loadBool (k := ((-(nth (nth l i) j)) - 1).toNat) rfl rfl el_Bool_4_StepH1 (hS32.rdl 1 rfl) (by omega) (fun _ h => h)) ?_
              refine wpL_gq (U := NoB) rfl rfl rfl hb35 (q_not rfl rfl) ?_
              refine wpL_gq (U := NoB) rfl rfl rfl hb27 (q_pickT (v := B (!(nth holds (((-(nth (nth l i) j)) - 1).toNat)))) rfl hb35 rfl) ?_
              refine wpL_q (U := NoB) rfl (q_pickF (v := B (!(nth holds (((-(nth (nth l i) j)) - 1).toNat)))) rfl hb27 rfl) ?_
              exact ⟨a15_0, a15_1, a15_5, a15_6, a15_7, (Eq.trans rfl (congrArg B (bool_congr_of ((Iff.rfl).trans (((or_iff_right (fun h => hg25 h.2)).trans ((and_iff_right ⟨hg28, hg34⟩).trans Iff.rfl))).symm)))), hS32⟩
            · have hb36 := Eq.trans rfl (congrArg B (decide_eq_false hg34))
              refine wpL_gs rfl rfl rfl hb36 rfl ?_
              refine wpL_gs rfl rfl rfl hb36 rfl ?_
              refine wpL_gs rfl rfl rfl hb36 rfl ?_
              refine wpL_gs rfl rfl rfl hb36 rfl ?_
              refine wpL_gs rfl rfl rfl hb36 rfl ?_
              refine wpL_gs rfl rfl rfl hb36 rfl ?_
              refine wpL_gs rfl rfl rfl hb36 rfl ?_
              refine wpL_gq (U := NoB) rfl rfl rfl hb27 (q_pickF (v := B (false)) rfl hb36 rfl) ?_
              refine wpL_q (U := NoB) rfl (q_pickF (v := B (false)) rfl hb27 rfl) ?_
              exact ⟨a15_0, a15_1, a15_5, a15_6, a15_7, (Eq.trans rfl (congrArg B ((decide_eq_false (not_or.2 ⟨(fun h => hg25 h.2), (fun h => (fun h => hg34 h.2) h.1)⟩)).symm))), hS32⟩
          · have hb30 := Eq.trans rfl (congrArg B (decide_eq_false hg28))
            refine wpL_gs rfl rfl rfl hb30 rfl ?_
            refine wpL_gs rfl rfl rfl hb30 rfl ?_
            refine wpL_gs rfl rfl rfl hb30 rfl ?_
            refine wpL_gs rfl rfl rfl hb30 rfl ?_
            refine wpL_gs rfl rfl rfl hb30 rfl ?_
            refine wpL_gq (U := NoB) rfl rfl rfl hb27 (q_pickF (v := B (false)) rfl hb30 rfl) ?_
            refine wpL_gq (U := NoB) rfl rfl rfl hb27 (q_move (v := B (false)) rfl rfl) ?_
            refine wpL_gs rfl rfl rfl rfl rfl ?_
            refine wpL_gs rfl rfl rfl rfl rfl ?_
            refine wpL_gs rfl rfl rfl rfl rfl ?_
            refine wpL_gs rfl rfl rfl rfl rfl ?_
            refine wpL_gs rfl rfl rfl rfl rfl ?_
            refine wpL_gs rfl rfl rfl rfl rfl ?_
            refine wpL_gs rfl rfl rfl rfl rfl ?_
            refine wpL_gq (U := NoB) rfl rfl rfl hb27 (q_pickF (v := B (false)) rfl rfl rfl) ?_
            refine wpL_q (U := NoB) rfl (q_pickF (v := B (false)) rfl hb27 rfl) ?_
            exact ⟨a15_0, a15_1, a15_5, a15_6, a15_7, (Eq.trans rfl (congrArg B ((decide_eq_false (not_or.2 ⟨(fun h => hg25 h.2), (fun h => (fun h => hg28 h.1) h.1)⟩)).symm))), hS20⟩
      · have hb24 := Eq.trans rfl (congrArg B (decide_eq_false hg22))
        refine wpL_gs rfl rfl rfl hb24 rfl ?_
        refine wpL_gs rfl rfl rfl hb24 rfl ?_
        refine wpL_gs rfl rfl rfl hb24 rfl ?_
        refine wpL_gs rfl rfl rfl hb24 rfl ?_
        refine wpL_gs rfl rfl rfl hb24 rfl ?_
        refine wpL_q (U := NoB) rfl (q_pickF (v := B (false)) rfl hb24 rfl) ?_
        refine wpL_q (U := NoB) rfl (q_move (v := B (false)) rfl rfl) ?_
        refine wpL_gq (U := NoB) rfl rfl rfl rfl (q_move (v := I (nth (nth l i) j)) rfl a15_8) ?_
        refine wpL_gq (U := NoB) rfl rfl rfl rfl (q_lss rfl rfl rfl) ?_
        refine wpL_gq (U := NoB) rfl rfl rfl rfl (q_move (v := B (decide ((nth (nth l i) j) < 0))) rfl rfl) ?_
        by_cases hg37 : (nth (nth l i) j) < 0
        · have hb38 := Eq.trans rfl (congrArg B (decide_eq_true hg37))
          refine wpL_gq (U := NoB) rfl rfl rfl hb38 (q_move (v := I (nth (nth l i) j)) rfl a15_8) ?_
          refine wpL_gq (U := NoB) rfl rfl rfl hb38 (q_neg rfl rfl (by constructor <;> omega)) ?_
          refine wpL_gq (U := NoB) rfl rfl rfl hb38 (q_move (v := vh) rfl a15_1) ?_
          refine wpL_gq (U := NoB) rfl rfl rfl hb38 (q_lenRd rfl Try.underlying29 rfl (hS20.rdl 1 rfl)) ?_
          refine wpL_go rfl rfl rfl hb38 ?_
          refine e_call rfl Try.call38 (arr3 (v0 := I (-(nth (nth l i) j))) (v1 := I (1)) (v2 := I ((holds.length : Int))) rfl rfl rfl) (in_R (-(nth (nth l i) j)) 1 (holds.length : Int)) ?_
          rintro _ H40 ⟨hxx, rfl⟩
          have hS41 : St H0 NoB NoB [rdE vl l, rdE vh holds] H40 := hS20.ext hxx
          refine wpL_gq (U := NoB) rfl rfl rfl rfl (q_pickT (v := B (decide (1 ≤ (-(nth (nth l i) j)) ∧ (-(nth (nth l i) j)) ≤ (holds.length : Int)))) rfl hb38 rfl) ?_
          refine wpL_gq (U := NoB) rfl rfl rfl rfl (q_move (v := B (decide (1 ≤ (-(nth (nth l i) j)) ∧ (-(nth (nth l i) j)) ≤ (holds.length : Int)))) rfl rfl) ?_
          by_cases hg43 : 1 ≤ (-(nth (nth l i) j)) ∧ (-(nth (nth l i) j)) ≤ (holds.length : Int)
          · have hb44 := Eq.trans rfl (congrArg B (decide_eq_true hg43))
            refine wpL_gq (U := NoB) rfl rfl rfl hb44 (q_move (v := vh) rfl a15_1) ?_
            refine wpL_gq (U := NoB) rfl rfl rfl hb44 (q_move (v := I (nth (nth l i) j)) rfl a15_8) ?_
            refine wpL_gq (U := NoB) rfl rfl rfl hb44 (q_neg rfl rfl (by constructor <;> omega)) ?_
            refine wpL_gq (U := NoB) rfl rfl rfl hb44 (q_sub rfl rfl rfl (by constructor <;> omega)) ?_
            refine wpL_gq (U := NoB) rfl rfl rfl hb44 (q_indexRd (k := ((-(nth (nth l i) j)) - 1).toNat) rfl Try.underlying29 el_Bool_4_StepH1 rfl rfl (hS41.rdl 1 rfl) (by omega) (by omega)) ?_
            refine wpL_gq (U := NoB) rfl rfl rfl hb44 (q_loadBool (k := ((-(nth (nth l i) j)) - 1).toNat) rfl rfl el_Bool_4_StepH1 (hS41.rdl 1 rfl) (by omega) (fun _ h => h)) ?_
            refine wpL_gq (U := NoB) rfl rfl rfl hb44 (q_not rfl rfl) ?_
            refine wpL_gq (U := NoB) rfl rfl rfl rfl (q_pickT (v := B (!(nth holds (((-(nth (nth l i) j)) - 1).toNat)))) rfl hb44 rfl) ?_
            refine wpL_q (U := NoB) rfl (q_pickF (v := B (!(nth holds (((-(nth (nth l i) j)) - 1).toNat)))) rfl rfl rfl) ?_
            exact ⟨a15_0, a15_1, a15_5, a15_6, a15_7, (Eq.trans rfl (congrArg B (bool_congr_of ((Iff.rfl).trans (((or_iff_right (fun h => (fun h => hg22 h.2) h.1)).trans ((and_iff_right ⟨hg37, hg43⟩).trans Iff.rfl))).symm)))), hS41⟩
          · have hb45 := Eq.trans rfl (congrArg B (decide_eq_false hg43))
            refine wpL_gs rfl rfl rfl hb45 rfl ?_
            refine wpL_gs rfl rfl rfl hb45 rfl ?_
            refine wpL_gs rfl rfl rfl hb45 rfl ?_
            refine wpL_gs rfl rfl rfl hb45 rfl ?_
            refine wpL_gs rfl rfl rfl hb45 rfl ?_
            refine wpL_gs rfl rfl rfl hb45 rfl ?_
            refine wpL_gs rfl rfl rfl hb45 rfl ?_
            refine wpL_gq (U := NoB) rfl rfl rfl rfl (q_pickF (v := B (false)) rfl hb45 rfl) ?_
            refine wpL_q (U := NoB) rfl (q_pickF (v := B (false)) rfl rfl rfl) ?_
            exact ⟨a15_0, a15_1, a15_5, a15_6, a15_7, (Eq.trans rfl (congrArg B ((decide_eq_false (not_or.2 ⟨(fun h => (fun h => hg22 h.2) h.1), (fun h => (fun h => hg43 h.2) h.1)⟩)).symm))), hS41⟩
        · have hb39 := Eq.trans rfl (congrArg B (decide_eq_false hg37))
          refine wpL_gs rfl rfl rfl hb39 rfl ?_
          refine wpL_gs rfl rfl rfl hb39 rfl ?_
          refine wpL_gs rfl rfl rfl hb39 rfl ?_
          refine wpL_gs rfl rfl rfl hb39 rfl ?_
          refine wpL_gs rfl rfl rfl hb39 rfl ?_
          refine wpL_gq (U := NoB) rfl rfl rfl rfl (q_pickF (v := B (false)) rfl hb39 rfl) ?_
          refine wpL_gq (U := NoB) rfl rfl rfl rfl (q_move (v := B (false)) rfl rfl) ?_
          refine wpL_gs rfl rfl rfl rfl rfl ?_
          refine wpL_gs rfl rfl rfl rfl rfl ?_
          refine wpL_gs rfl rfl rfl rfl rfl ?_
          refine wpL_gs rfl rfl rfl rfl rfl ?_
          refine wpL_gs rfl rfl rfl rfl rfl ?_
          refine wpL_gs rfl rfl rfl rfl rfl ?_
          refine wpL_gs rfl rfl rfl rfl rfl ?_
          refine wpL_gq (U := NoB) rfl rfl rfl rfl (q_pickF (v := B (false)) rfl rfl rfl) ?_
          refine wpL_q (U := NoB) rfl (q_pickF (v := B (false)) rfl rfl rfl) ?_
          exact ⟨a15_0, a15_1, a15_5, a15_6, a15_7, (Eq.trans rfl (congrArg B ((decide_eq_false (not_or.2 ⟨(fun h => (fun h => hg22 h.2) h.1), (fun h => (fun h => hg37 h.1) h.1)⟩)).symm))), hS20⟩
    · have hb18 := Eq.trans rfl (congrArg B (decide_eq_false hg16))
      refine wpL_gs rfl rfl rfl hb18 rfl ?_
      refine wpL_gs rfl rfl rfl hb18 rfl ?_
      refine wpL_gs rfl rfl rfl hb18 rfl ?_
      refine wpL_gs rfl rfl rfl hb18 rfl ?_
      refine wpL_q (U := NoB) rfl (q_pickF (v := B (false)) rfl hb18 rfl) ?_
      refine wpL_q (U := NoB) rfl (q_move (v := B (false)) rfl rfl) ?_
      refine wpL_gs rfl rfl rfl rfl rfl ?_
      refine wpL_gs rfl rfl rfl rfl rfl ?_
      refine wpL_gs rfl rfl rfl rfl rfl ?_
      refine wpL_gs rfl rfl rfl rfl rfl ?_
      refine wpL_gs rfl rfl rfl rfl rfl ?_
      refine wpL_q (U := NoB) rfl (q_pickF (v := B (false)) rfl rfl rfl) ?_
      refine wpL_q (U := NoB) rfl (q_move (v := B (false)) rfl rfl) ?_
      refine wpL_gq (U := NoB) rfl rfl rfl rfl (q_move (v := I (nth (nth l i) j)) rfl a15_8) ?_
      refine wpL_gq (U := NoB) rfl rfl rfl rfl (q_lss rfl rfl rfl) ?_
      refine wpL_gq (U := NoB) rfl rfl rfl rfl (q_move (v := B (decide ((nth (nth l i) j) < 0))) rfl rfl) ?_
      by_cases hg46 : (nth (nth l i) j) < 0
      · have hb47 := Eq.trans rfl (congrArg B (decide_eq_true hg46))
        refine wpL_gq (U := NoB) rfl rfl rfl hb47 (q_move (v := I (nth (nth l i) j)) rfl a15_8) ?_
        refine wpL_gq (U := NoB) rfl rfl rfl hb47 (q_neg rfl rfl (by constructor <;> omega)) ?_
        refine wpL_gq (U := NoB) rfl rfl rfl hb47 (q_move (v := vh) rfl a15_1) ?_
        refine wpL_gq (U := NoB) rfl rfl rfl hb47 (q_lenRd rfl Try.underlying29 rfl (hS8.rdl 1 rfl)) ?_
        refine wpL_go rfl rfl rfl hb47 ?_
        refine e_call rfl Try.call38 (arr3 (v0 := I (-(nth (nth l i) j))) (v1 := I (1)) (v2 := I ((holds.length : Int))) rfl rfl rfl) (in_R (-(nth (nth l i) j)) 1 (holds.length : Int)) ?_
        rintro _ H49 ⟨hxx, rfl⟩
        have hS50 : St H0 NoB NoB [rdE vl l, rdE vh holds] H49 := hS8.ext hxx
        refine wpL_gq (U := NoB) rfl rfl rfl rfl (q_pickT (v := B (decide (1 ≤ (-(nth (nth l i) j)) ∧ (-(nth (nth l i) j)) ≤ (holds.length : Int)))) rfl hb47 rfl) ?_
        refine wpL_gq (U := NoB) rfl rfl rfl rfl (q_move (v := B (decide (1 ≤ (-(nth (nth l i) j)) ∧ (-(nth (nth l i) j)) ≤ (holds.length : Int)))) rfl rfl) ?_
        by_cases hg52 : 1 ≤ (-(nth (nth l i) j)) ∧ (-(nth (nth l i) j)) ≤ (holds.length : Int)
        · have hb53 := Eq.trans rfl (congrArg B (decide_eq_true hg52))
          refine wpL_gq (U := NoB) rfl rfl rfl hb53 (q_move (v := vh) rfl a15_1) ?_
          refine wpL_gq (U := NoB) rfl rfl rfl hb53 (q_move (v := I (nth (nth l i) j)) rfl a15_8) ?_
          refine wpL_gq (U := NoB) rfl rfl rfl hb53 (q_neg rfl rfl (by constructor <;> omega)) ?_
          refine wpL_gq (U := NoB) rfl rfl rfl hb53 (q_sub rfl rfl rfl (by constructor <;> omega)) ?_
          refine wpL_gq (U := NoB) rfl rfl rfl hb53 (q_indexRd (k := ((-(nth (nth l i) j)) - 1).toNat) rfl Try.underlying29 el_Bool_4_StepH1 rfl rfl (hS50.rdl 1 rfl) (by omega) (by omega)) ?_
          refine wpL_gq (U := NoB) rfl rfl rfl hb53 (q_loadBool (k := ((-(nth (nth l i) j)) - 1).toNat) rfl rfl el_Bool_4_StepH1 (hS50.rdl 1 rfl) (by omega) (fun _ h => h)) ?_
          refine wpL_gq (U := NoB) rfl rfl rfl hb53 (q_not rfl rfl) ?_
          refine wpL_gq (U := NoB) rfl rfl rfl rfl (q_pickT (v := B (!(nth holds (((-(nth (nth l i) j)) - 1).toNat)))) rfl hb53 rfl) ?_
          refine wpL_q (U := NoB) rfl (q_pickF (v := B (!(nth holds (((-(nth (nth l i) j)) - 1).toNat)))) rfl rfl rfl) ?_
          exact ⟨a15_0, a15_1, a15_5, a15_6, a15_7, (Eq.trans rfl (congrArg B (bool_congr_of ((Iff.rfl).trans (((or_iff_right (fun h => (fun h => hg16 h.1) h.1)).trans ((and_iff_right ⟨hg46, hg52⟩).trans Iff.rfl))).symm)))), hS50⟩
        · have hb54 := Eq.trans rfl (congrArg B (decide_eq_false hg52))
          refine wpL_gs rfl rfl rfl hb54 rfl ?_
          refine wpL_gs rfl rfl rfl hb54 rfl ?_
          refine wpL_gs rfl rfl rfl hb54 rfl ?_
          refine wpL_gs rfl rfl rfl hb54 rfl ?_
          refine wpL_gs rfl rfl rfl hb54 rfl ?_
          refine wpL_gs rfl rfl rfl hb54 rfl ?_
          refine wpL_gs rfl rfl rfl hb54 rfl ?_
          refine wpL_gq (U := NoB) rfl rfl rfl rfl (q_pickF (v := B (false)) rfl hb54 rfl) ?_
          refine wpL_q (U := NoB) rfl (q_pickF (v := B (false)) rfl rfl rfl) ?_
          exact ⟨a15_0, a15_1, a15_5, a15_6, a15_7, (Eq.trans rfl (congrArg B ((decide_eq_false (not_or.2 ⟨(fun h => (fun h => hg16 h.1) h.1), (fun h => (fun h => hg52 h.2) h.1)⟩)).symm))), hS50⟩
      · have hb48 := Eq.trans rfl (congrArg B (decide_eq_false hg46))
        refine wpL_gs rfl rfl rfl hb48 rfl ?_
        refine wpL_gs rfl rfl rfl hb48 rfl ?_
        refine wpL_gs rfl rfl rfl hb48 rfl ?_
        refine wpL_gs rfl rfl rfl hb48 rfl ?_
        refine wpL_gs rfl rfl rfl hb48 rfl ?_
        refine wpL_gq (U := NoB) rfl rfl rfl rfl (q_pickF (v := B (false)) rfl hb48 rfl) ?_
        refine wpL_gq (U := NoB) rfl rfl rfl rfl (q_move (v := B (false)) rfl rfl) ?_
        refine wpL_gs rfl rfl rfl rfl rfl ?_
        refine wpL_gs rfl rfl rfl rfl rfl ?_
        refine wpL_gs rfl rfl rfl rfl rfl ?_
        refine wpL_gs rfl rfl rfl rfl rfl ?_
        refine wpL_gs rfl rfl rfl rfl rfl ?_
        refine wpL_gs rfl rfl rfl rfl rfl ?_
        refine wpL_gs rfl rfl rfl rfl rfl ?_
        refine wpL_gq (U := NoB) rfl rfl rfl rfl (q_pickF (v := B (false)) rfl rfl rfl) ?_
        refine wpL_q (U := NoB) rfl (q_pickF (v := B (false)) rfl rfl rfl) ?_
        exact ⟨a15_0, a15_1, a15_5, a15_6, a15_7, (Eq.trans rfl (congrArg B ((decide_eq_false (not_or.2 ⟨(fun h => (fun h => hg16 h.1) h.1), (fun h => (fun h => hg46 h.1) h.1)⟩)).symm))), hS8⟩
  rintro f55 H55 ⟨a55_0, a55_1, a55_5, a55_6, a55_7, a55_65, hS55⟩
  clear a15_0 a15_1 a15_5 a15_6 a15_7 a15_8
  refine wpF_cut (fun f H => ∃ (bE : Bool), (bE = clauseB holds ((nth l i).take (j + 1))) ∧ f 0 = vl ∧ f 1 = vh ∧ f 5 = I ((i : Int)) ∧ f 6 = B (bE) ∧ f 7 = I ((j : Int)) ∧ H55 = H) ?_ ?_
  · refine wpF_condP a55_65 (fun h65 => ?t59) (fun h65 => ?e59)
    case e59 =>
      refine wpF_skip ?_
      exact ⟨(clauseB holds ((nth l i).take j)), (clauseB_no (by omega) h65).symm, a55_0, a55_1, a55_5, a55_6, a55_7, rfl⟩
    refine wpF_cut (fun f H => f 0 = vl ∧ f 1 = vh ∧ f 5 = I ((i : Int)) ∧ f 6 = B (true) ∧ f 7 = I ((j : Int)) ∧ H55 = H) ?_ ?_
    · refine wpF_region ?_
      refine wpL_q (U := NoB) rfl (q_assign (v := B (true)) rfl rfl) ?_
      exact ⟨a55_0, a55_1, a55_5, rfl, a55_7, rfl⟩
    rintro f58 _ ⟨a58_0, a58_1, a58_5, a58_6, a58_7, rfl⟩
    clear a55_0 a55_1 a55_5 a55_6 a55_65 a55_7
    exact ⟨true, (clauseB_yes (by omega) h65).symm, a58_0, a58_1, a58_5, a58_6, a58_7, rfl⟩
  rintro f56 _ ⟨bE, hE, a56_0, a56_1, a56_5, a56_6, a56_7, rfl⟩
  clear a55_0 a55_1 a55_5 a55_6 a55_65 a55_7
  refine wpF_cut (fun f H => f 0 = vl ∧ f 1 = vh ∧ f 5 = I ((i : Int)) ∧ f 6 = B (bE) ∧ f 7 = I ((j : Int) + 1) ∧ H55 = H) ?_ ?_
  · refine wpF_region ?_
    refine wpL_q (U := NoB) rfl (q_move (v := I ((j : Int))) rfl a56_7) ?_
    refine wpL_q (U := NoB) rfl (q_add rfl rfl rfl (by constructor <;> omega)) ?_
    refine wpL_q (U := NoB) rfl (q_assign (v := I ((j : Int) + 1)) rfl rfl) ?_
    exact ⟨a56_0, a56_1, a56_5, a56_6, rfl, rfl⟩
  rintro f60 _ ⟨a60_0, a60_1, a60_5, a60_6, a60_7, rfl⟩
  clear a56_0 a56_1 a56_5 a56_6 a56_7
  refine ⟨_, ?_, j + 1, rfl, (by omega), a60_0, a60_1, a60_5, (Eq.trans a60_6 (congrArg B hE)), (Eq.trans a60_7 (congrArg I (by omega))), hS55⟩
  omega

end Go.Um
