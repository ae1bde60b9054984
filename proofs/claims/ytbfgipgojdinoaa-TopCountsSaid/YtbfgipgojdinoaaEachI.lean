import Derived.Test.YtbfgipgojdinoaaProg
import Derived.Test.YtbfgipgojdinoaaDiaC3
import Derived.Test.YtbfgipgojdinoaaUmTopCountsC
namespace Go.Um.In
open Go.Proofs
set_option maxHeartbeats 1000000 in
set_option maxRecDepth 100000 in
theorem Each_1 {H0 : Heap} (l b3 b2 N : Nat) (vC : Value) (C : List (List Int)) (J : Nat → Heap → Prop) (Jx : Heap → Prop) (hN : N ≤ 16) (hf : ∀ k, ∀ c ∈ C, fitA (asgL N k) c)
    (hext : ∀ k H H', J k H → Ext NoB H H' → J k H') (hrd : ∀ k H, J k H → Rd NoB H vC C ∧ H[b3]? = some (.cells #[I (N : Int)] 3) ∧ H[b2]? = some (.cells #[vC] 24))
    (hno : ∀ k H, k < 2 ^ N → ¬ allH C (asgL N k) = true → J k H → J (k + 1) H)
    (hyes : ∀ k H1 H2 v, k < 2 ^ N → allH C (asgL N k) = true → J k H1 → Ext NoB H1 H2 → Rd (fun b => b < H1.size) H2 v (asgL N k) → YieldH Try.prog l #[v] H2 fun rv H' => (rv = B true ∧ J (k + 1) H') ∨ (rv = B false ∧ Jx H'))
    (h0 : J 0 H0) : CallsH Try.prog 63 #[.func (.yield l) #[] #[], PT b3 0, PT b2 0] H0 (fun _ H' => J (2 ^ N) H' ∨ Jx H') := by
  have h2N : 2 ^ N ≤ 65536 := Nat.le_trans (Nat.pow_le_pow_right (by decide) hN) (by decide)
  refine callsH_of_wpF (args := [.func (.yield l) #[] #[], PT b3 0, PT b2 0]) (rs := []) Try.func63 rfl Try.ntmps63 Try.results63 (by kernel_rfl) (Nat.le_of_ble_eq_true rfl) ?_
  have a0_0 : argF [.func (.yield l) #[] #[], PT b3 0, PT b2 0] 0 = .func (.yield l) #[] #[] := rfl
  have a0_1 : argF [.func (.yield l) #[] #[], PT b3 0, PT b2 0] 1 = PT b3 0 := rfl
  have a0_2 : argF [.func (.yield l) #[] #[], PT b3 0, PT b2 0] 2 = PT b2 0 := rfl
  generalize argF [.func (.yield l) #[] #[], PT b3 0, PT b2 0] = f0 at *
  refine wpF_seq ?_
  refine wpF_region ?_
  refine wpL_q (U := NoB) rfl (q_loadBlk rfl a0_1 Try.isAgg3 (hrd 0 _ h0).2.1 rfl (fun h => h)) ?_
  refine wpL_q (U := NoB) rfl (q_shl1 rfl rfl rfl (by omega) (by omega)) ?_
  refine wpL_q (U := NoB) rfl (q_move (v := I (0)) rfl rfl) ?_
  refine wpL_nil ?_
  refine wpF_block ?_
  refine wpF_loop (fun mz f H => ∃ (k : Nat), mz = 2 ^ N - k ∧ (k ≤ 2 ^ N) ∧ f 0 = .func (.yield l) #[] #[] ∧ f 1 = PT b3 0 ∧ f 2 = PT b2 0 ∧ f 7 = I (((2 ^ N : Nat) : Int)) ∧ f 8 = I ((k : Int)) ∧ J k H) (2 ^ N - 0) ?_ ?_
  · exact ⟨0, rfl, Nat.zero_le _, a0_0, a0_1, a0_2, rfl, (Eq.trans rfl (congrArg I (by omega))), h0⟩
  intro m1 f1 H1 hI1
  obtain ⟨k, hm1, hk, a1_0, a1_1, a1_2, a1_7, a1_8, hJ⟩ := hI1
  clear a0_0 a0_1 a0_2
  obtain ⟨rC, h3, h2⟩ := hrd k H1 hJ
  refine wpF_seq ?_
  refine wpF_region ?_
  refine wpL_q (U := NoB) rfl (q_lss rfl a1_8 a1_7) ?_
  refine wpL_nil ?_
  refine wpF_seq ?_
  refine wpF_condP rfl (fun hlt => ?t19) (fun hlt => ?e19)
  case e19 =>
    refine wpF_exit ?_
    refine atX_here ?_
    exact retD_nil ⟨_, resN, .inl (by rw [show 2 ^ N = k by omega]; exact hJ)⟩
  refine wpF_skip ?_
  refine wpF_seq ?_
  refine wpF_block ?_
  refine wpF_seq ?_
  refine wpF_region ?_
  refine wpL_q (U := NoB) rfl (q_move (v := I ((k : Int))) rfl a1_8) ?_
  refine wpL_q (U := NoB) rfl (q_assign (v := I ((k : Int))) rfl rfl) ?_
  refine wpL_nil ?_
  refine wpF_seq ?_
  refine wpF_region ?_
  refine wpL_q (U := NoB) rfl (q_loadBlk rfl a1_1 Try.isAgg3 h3 rfl (fun h => h)) ?_
  refine wpL_q (U := NoB) rfl (q_move (v := I ((k : Int))) rfl rfl) ?_
  refine wpL_o rfl ?_
  refine e_call rfl Try.call44 (arr2 (v0 := I ((N : Int))) (v1 := I ((k : Int))) rfl rfl) (Assignment_A (S := fun _ => True) N k (by omega) (by omega)) ?_
  rintro r3 H4 ⟨hx4, hr3⟩
  refine wpL_q (U := NoB) rfl (q_assign (v := r3) rfl rfl) ?_
  refine wpL_nil ?_
  refine wpF_seq ?_
  refine wpF_cut (fun f H => f 0 = .func (.yield l) #[] #[] ∧ f 1 = PT b3 0 ∧ f 2 = PT b2 0 ∧ f 7 = I (((2 ^ N : Nat) : Int)) ∧ f 8 = I ((k : Int)) ∧ ∃ q : Bool, f 22 = B q ∧ (q = false → J (k + 1) H) ∧ (q = true → Jx H)) ?_ ?_
  · refine wpI_region ?_
    refine wpLI_q (U := NoB) rfl (q_loadBlk rfl a1_2 Try.isAgg24 (hx4.blk h2) rfl (fun h => h)) ?_
    refine wpLI_q (U := NoB) rfl (q_move (v := r3) rfl rfl) ?_
    refine wpLI_o rfl ?_
    refine e_call rfl Try.call41 (arr2 (v0 := vC) (v1 := r3) rfl rfl) (All_C vC r3 C (asgL N k) (rC.extN hx4) (hr3.sub fun b hb => hb.elim) (hf k)) ?_
    rintro _ H7 ⟨hx7, rfl⟩
    have hx : Ext NoB H1 H7 := hx4.trans hx7
    refine wpLI_q (U := NoB) rfl (q_move (v := B (allH C (asgL N k))) rfl rfl) ?_
    by_cases hg10 : (allH C (asgL N k)) = true
    · have hb11 := Eq.trans rfl (congrArg B hg10)
      refine wpLI_gq (U := NoB) rfl rfl rfl hb11 (q_move (v := .func (.yield l) #[] #[]) rfl a1_0) ?_
      refine wpLI_gq (U := NoB) rfl rfl rfl hb11 (q_move (v := r3) rfl rfl) ?_
      refine wpLI_yield rfl rfl rfl rfl hb11 rfl (arr1 (v0 := r3) rfl) ((hyes k H1 H7 r3 (by omega) hg10 hJ hx ((hr3.sub fun b hb => ⟨trivial, hb⟩).ext (hx7.mono fun _ h => h.elim) fun _ _ h => h)).mono ?_)
      rintro v H' (⟨rfl, hJ'⟩ | ⟨rfl, hJx⟩)
      · refine wpLI_gq (U := NoB) rfl rfl rfl hb11 (q_not rfl rfl) ?_
        refine wpLI_q (U := NoB) rfl (q_pickT (v := B false) rfl hb11 rfl) ?_
        exact wpLI_nil ⟨rfl, a1_0, a1_1, a1_2, a1_7, a1_8, false, rfl, fun _ => hJ', fun h => by cases h⟩
      · refine wpLI_gq (U := NoB) rfl rfl rfl hb11 (q_not rfl rfl) ?_
        refine wpLI_q (U := NoB) rfl (q_pickT (v := B true) rfl hb11 rfl) ?_
        exact wpLI_nil ⟨rfl, a1_0, a1_1, a1_2, a1_7, a1_8, true, rfl, fun h => (by cases h), fun _ => hJx⟩
    · have hb12 := Eq.trans rfl (congrArg B (Bool.eq_false_iff.2 hg10))
      refine wpLI_gs rfl rfl rfl hb12 rfl ?_
      refine wpLI_gs rfl rfl rfl hb12 rfl ?_
      refine wpLI_gs rfl rfl rfl hb12 rfl ?_
      refine wpLI_gs rfl rfl rfl hb12 rfl ?_
      refine wpLI_q (U := NoB) rfl (q_pickF (v := B (false)) rfl hb12 rfl) ?_
      exact wpLI_nil ⟨rfl, a1_0, a1_1, a1_2, a1_7, a1_8, false, rfl, fun _ => hno k H7 (by omega) hg10 (hext k H1 H7 hJ hx), fun h => by cases h⟩
  rintro f16 H16 ⟨a16_0, a16_1, a16_2, a16_7, a16_8, q, a16_22, hq0, hq1⟩
  clear a1_0 a1_1 a1_2 a1_7 a1_8
  refine wpF_cond a16_22 (fun h22 => ?t18) (fun h22 => ?e18)
  case t18 =>
    refine wpF_ret ?_
    exact retD_nil ⟨_, resN, .inr (hq1 h22)⟩
  refine wpF_skip ?_
  refine wpF_region ?_
  refine wpL_q (U := NoB) rfl (q_add rfl a16_8 rfl (by constructor <;> omega)) ?_
  refine wpL_q (U := NoB) rfl (q_move (v := I ((k : Int) + 1)) rfl rfl) ?_
  refine wpL_nil ?_
  exact ⟨rfl, _, by omega, k + 1, rfl, (by omega), a16_0, a16_1, a16_2, a16_7, (Eq.trans rfl (congrArg I (by omega))), hq0 h22⟩
end Go.Um.In
