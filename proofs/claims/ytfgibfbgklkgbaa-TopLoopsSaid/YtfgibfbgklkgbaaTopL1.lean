import Derived.Test.YtfgibfbgklkgbaaProg
import Derived.Test.YtfgibfbgklkgbaaHoldC3
import Derived.Test.YtfgibfbgklkgbaaTopPlain
import Derived.Test.YtfgibfbgklkgbaaUmDiv
namespace Go.Um
open Go.Proofs
open GoT (sz ag rdc)
open KeyT (kv)

theorem el_Int_3_TopL1 : ElT Try.prog Int 3 := ⟨Try.isAgg3, Try.sizeOf3⟩
theorem el_LRow_34_TopL1 : ElT Try.prog LRow 34 := ⟨Try.isAgg34, Try.sizeOf34⟩
theorem em_Jump_25_TopL1 : ElemOk Try.prog Jump 25 := ⟨Try.t25, (.agg #[(.slice none 0 0), (.slice none 0 0)]), by kernel_rfl, by kernel_rfl, by kernel_rfl, by kernel_rfl, by kernel_rfl⟩

set_option maxRecDepth 100000 in
theorem Picked {H0 : Heap} (a n : Int) (hn : 1 ≤ n ∧ n ≤ 9223372036854775807) : CallsH Try.prog 20 #[I (a), I (n)] H0 (fun rv_ H' => Ext NoB H0 H' ∧ rv_ = I (pickI a n) ∧ (0 ≤ pickI a n ∧ pickI a n < n)) := by
  have htm := tmod_rng (a := a) hn.1
  have hS0 : St H0 NoB NoB [] H0 := St.start (fun _ h => h.elim)
  refine callsH_of_wpF (args := [I (a), I (n)]) (rs := [.tmp 4]) Try.func20 rfl Try.ntmps20 Try.results20 (by kernel_rfl) (Nat.le_of_ble_eq_true rfl) ?_
  have a0_0 : argF [I (a), I (n)] 0 = I (a) := rfl
  have a0_1 : argF [I (a), I (n)] 1 = I (n) := rfl
  generalize argF [I (a), I (n)] = f0 at *
  refine wpF_seq ?_
  refine wpF_cut (fun f H => f 0 = I (a) ∧ f 1 = I (n) ∧ H0 = H) ?_ ?_
  · refine wpF_region ?_
    refine wpL_q (U := NoB) rfl (q_assign (v := I (0)) rfl rfl) ?_
    exact ⟨a0_0, a0_1, rfl⟩
  rintro f1 _ ⟨a1_0, a1_1, rfl⟩
  clear a0_0 a0_1
  refine wpF_seq ?_
  refine wpF_cut (fun f H => f 0 = I (a.tmod n) ∧ f 1 = I (n) ∧ H0 = H) ?_ ?_
  · refine wpF_region ?_
    refine wpL_q (U := NoB) rfl (q_move (v := I (a)) rfl a1_0) ?_
    refine wpL_q (U := NoB) rfl (q_move (v := I (n)) rfl a1_1) ?_
    refine wpL_q (U := NoB) rfl (q_rem rfl rfl rfl (by omega)) ?_
    refine wpL_q (U := NoB) rfl (q_assign (v := I (a.tmod n)) rfl rfl) ?_
    exact ⟨rfl, a1_1, rfl⟩
  rintro f2 _ ⟨a2_0, a2_1, rfl⟩
  clear a1_0 a1_1
  refine wpF_seq ?_
  refine wpF_seq ?_
  refine wpF_cut (fun f H => f 0 = I (a.tmod n) ∧ f 1 = I (n) ∧ f 9 = B (decide ((a.tmod n) < 0)) ∧ H0 = H) ?_ ?_
  · refine wpF_region ?_
    refine wpL_q (U := NoB) rfl (q_move (v := I (a.tmod n)) rfl a2_0) ?_
    refine wpL_q (U := NoB) rfl (q_lss rfl rfl rfl) ?_
    exact ⟨a2_0, a2_1, rfl, rfl⟩
  rintro f3 _ ⟨a3_0, a3_1, a3_9, rfl⟩
  clear a2_0 a2_1
  refine wpF_condP a3_9 (fun h9 => ?t7) (fun h9 => ?e7)
  case e7 =>
    refine wpF_skip ?_
    refine wpF_seq ?_
    refine wpF_cut (fun f H => f 4 = I (a.tmod n) ∧ H0 = H) ?_ ?_
    · refine wpF_region ?_
      refine wpL_q (U := NoB) rfl (q_move (v := I (a.tmod n)) rfl a3_0) ?_
      refine wpL_q (U := NoB) rfl (q_assign (v := I (a.tmod n)) rfl rfl) ?_
      exact ⟨rfl, rfl⟩
    rintro f6 _ ⟨a6_4, rfl⟩
    clear a3_0 a3_1 a3_9
    refine wpF_ret ?_
    refine ⟨_, resT a6_4 resN, hS0.frame, ?_⟩
    show (I (a.tmod n)) = I (pickI a n) ∧ (0 ≤ pickI a n ∧ pickI a n < n)
    exact ⟨congrArg I (pickI_pos h9).symm, pickI_rng hn.1⟩
  refine wpF_seq ?_
  refine wpF_cut (fun f H => f 4 = I ((a.tmod n) + n) ∧ H0 = H) ?_ ?_
  · refine wpF_region ?_
    refine wpL_q (U := NoB) rfl (q_move (v := I (a.tmod n)) rfl a3_0) ?_
    refine wpL_q (U := NoB) rfl (q_move (v := I (n)) rfl a3_1) ?_
    refine wpL_q (U := NoB) rfl (q_add rfl rfl rfl (by constructor <;> omega)) ?_
    refine wpL_q (U := NoB) rfl (q_assign (v := I ((a.tmod n) + n)) rfl rfl) ?_
    exact ⟨rfl, rfl⟩
  rintro f5 _ ⟨a5_4, rfl⟩
  clear a3_0 a3_1 a3_9
  refine wpF_ret ?_
  refine ⟨_, resT a5_4 resN, hS0.frame, ?_⟩
  show (I ((a.tmod n) + n)) = I (pickI a n) ∧ (0 ≤ pickI a n ∧ pickI a n < n)
  exact ⟨congrArg I (pickI_neg h9).symm, pickI_rng hn.1⟩

set_option maxRecDepth 100000 in
theorem At_K {H0 : Heap} (vl : Value) (l : List Int) (i : Int) (rl : Rd NoB H0 vl l) : CallsH Try.prog 49 #[vl, I (i)] H0 (fun rv_ H' => Ext NoB H0 H' ∧ rv_ = I (atI l i) ∧ In64 (atI l i)) := by
  have hS0 : St H0 NoB NoB [rdE vl (l : List Int)] H0 := St.arg (St.start (fun _ h => h.elim)) (Bl0.nil) rl (fun _ h => h)
  refine callsH_of_wpF (args := [vl, I (i)]) (rs := [.tmp 4]) Try.func49 rfl Try.ntmps49 Try.results49 (by kernel_rfl) (Nat.le_of_ble_eq_true rfl) ?_
  have a0_0 : argF [vl, I (i)] 0 = vl := rfl
  have a0_1 : argF [vl, I (i)] 1 = I (i) := rfl
  generalize argF [vl, I (i)] = f0 at *
  refine wpF_seq ?_
  refine wpF_cut (fun f H => f 0 = vl ∧ f 1 = I (i) ∧ H0 = H) ?_ ?_
  · refine wpF_region ?_
    refine wpL_q (U := NoB) rfl (q_assign (v := I (0)) rfl rfl) ?_
    exact ⟨a0_0, a0_1, rfl⟩
  rintro f1 _ ⟨a1_0, a1_1, rfl⟩
  clear a0_0 a0_1
  refine wpF_seq ?_
  refine wpF_seq ?_
  refine wpF_cut (fun f H => f 0 = vl ∧ f 1 = I (i) ∧ f 12 = B (decide ((0 ≤ i) ∧ (i < (l.length : Int)))) ∧ H0 = H) ?_ ?_
  · refine wpF_region ?_
    refine wpL_q (U := NoB) rfl (q_move (v := I (i)) rfl a1_1) ?_
    refine wpL_q (U := NoB) rfl (q_geq rfl rfl rfl) ?_
    refine wpL_q (U := NoB) rfl (q_move (v := B (decide (0 ≤ i))) rfl rfl) ?_
    by_cases hg2 : 0 ≤ i
    · have hb3 := Eq.trans rfl (congrArg B (decide_eq_true hg2))
      refine wpL_gq (U := NoB) rfl rfl rfl hb3 (q_move (v := I (i)) rfl a1_1) ?_
      refine wpL_gq (U := NoB) rfl rfl rfl hb3 (q_move (v := vl) rfl a1_0) ?_
      refine wpL_gq (U := NoB) rfl rfl rfl hb3 (q_lenRd rfl Try.underlying32 rfl (hS0.rdl 0 rfl)) ?_
      refine wpL_gq (U := NoB) rfl rfl rfl hb3 (q_lss rfl rfl rfl) ?_
      refine wpL_q (U := NoB) rfl (q_pickT (v := B (decide (i < (l.length : Int)))) rfl hb3 rfl) ?_
      exact ⟨a1_0, a1_1, (Eq.trans rfl (congrArg B (decide_congr_of ((Iff.rfl).trans (((and_iff_right hg2).trans Iff.rfl)).symm)))), rfl⟩
    · have hb4 := Eq.trans rfl (congrArg B (decide_eq_false hg2))
      refine wpL_gs rfl rfl rfl hb4 rfl ?_
      refine wpL_gs rfl rfl rfl hb4 rfl ?_
      refine wpL_gs rfl rfl rfl hb4 rfl ?_
      refine wpL_gs rfl rfl rfl hb4 rfl ?_
      refine wpL_q (U := NoB) rfl (q_pickF (v := B (false)) rfl hb4 rfl) ?_
      exact ⟨a1_0, a1_1, (Eq.trans rfl (congrArg B ((decide_eq_false (fun h => hg2 h.1)).symm))), rfl⟩
  rintro f5 _ ⟨a5_0, a5_1, a5_12, rfl⟩
  clear a1_0 a1_1
  refine wpF_condP a5_12 (fun h12 => ?t9) (fun h12 => ?e9)
  case e9 =>
    refine wpF_skip ?_
    refine wpF_seq ?_
    refine wpF_cut (fun f H => f 4 = I (0) ∧ H0 = H) ?_ ?_
    · refine wpF_region ?_
      refine wpL_q (U := NoB) rfl (q_assign (v := I (0)) rfl rfl) ?_
      exact ⟨rfl, rfl⟩
    rintro f8 _ ⟨a8_4, rfl⟩
    clear a5_0 a5_1 a5_12
    refine wpF_ret ?_
    refine ⟨_, resT a8_4 resN, hS0.frame, ?_⟩
    show (I (0)) = I (atI l i) ∧ In64 (atI l i)
    have hq : atI l i = 0 := atI_out h12
    rw [hq]
    exact ⟨rfl, by decide⟩
  refine wpF_seq ?_
  refine wpF_cut (fun f H => f 4 = I (nth l ((i).toNat)) ∧ H0 = H) ?_ ?_
  · refine wpF_region ?_
    refine wpL_q (U := NoB) rfl (q_move (v := vl) rfl a5_0) ?_
    refine wpL_q (U := NoB) rfl (q_move (v := I (i)) rfl a5_1) ?_
    refine wpL_q (U := NoB) rfl (q_indexRd (k := (i).toNat) rfl Try.underlying32 el_Int_3_TopL1 rfl rfl (hS0.rdl 0 rfl) (by omega) (by omega)) ?_
    refine wpL_q (U := NoB) rfl (q_loadInt (k := (i).toNat) rfl rfl el_Int_3_TopL1 (hS0.rdl 0 rfl) (by omega) (fun _ h => h)) ?_
    refine wpL_q (U := NoB) rfl (q_assign (v := I (nth l ((i).toNat))) rfl rfl) ?_
    exact ⟨rfl, rfl⟩
  rintro f7 _ ⟨a7_4, rfl⟩
  clear a5_0 a5_1 a5_12
  refine wpF_ret ?_
  refine ⟨_, resT a7_4 resN, hS0.frame, ?_⟩
  show (I (nth l ((i).toNat))) = I (atI l i) ∧ In64 (atI l i)
  have hq : atI l i = nth l i.toNat := atI_in h12
  rw [hq]
  exact ⟨rfl, (Rd.list.1 rl).in64 (by omega)⟩

set_option maxRecDepth 100000 in
theorem held_T {H0 : Heap} (vr : Value) (r : List LRow) (n : Int) (rr : Rd NoB H0 vr r) (hok : HeldOk r) (hn : -1000000 ≤ n ∧ n ≤ 1000000) : CallsH Try.prog 24 #[vr, I (n)] H0 (fun rv_ H' => Ext NoB H0 H' ∧ rv_ = B (heldB r n)) := by
  have hsr := (Rd.list.1 rr).small
  have hS0 : St H0 NoB NoB [rdE vr (r : List LRow)] H0 := St.arg (St.start (fun _ h => h.elim)) (Bl0.nil) rr (fun _ h => h)
  refine callsH_of_wpF (args := [vr, I (n)]) (rs := [.tmp 4]) Try.func24 rfl Try.ntmps24 Try.results24 (by kernel_rfl) (Nat.le_of_ble_eq_true rfl) ?_
  have a0_0 : argF [vr, I (n)] 0 = vr := rfl
  have a0_1 : argF [vr, I (n)] 1 = I (n) := rfl
  generalize argF [vr, I (n)] = f0 at *
  refine wpF_seq ?_
  refine wpF_cut (fun f H => f 0 = vr ∧ f 1 = I (n) ∧ H0 = H) ?_ ?_
  · refine wpF_region ?_
    refine wpL_q (U := NoB) rfl (q_assign (v := B (false)) rfl rfl) ?_
    exact ⟨a0_0, a0_1, rfl⟩
  rintro f1 _ ⟨a1_0, a1_1, rfl⟩
  clear a0_0 a0_1
  refine wpF_seq ?_
  refine wpF_seq ?_
  refine wpF_cut (fun f H => f 0 = vr ∧ f 1 = I (n) ∧ f 5 = I (0) ∧ H0 = H) ?_ ?_
  · refine wpF_region ?_
    refine wpL_q (U := NoB) rfl (q_assign (v := I (0)) rfl rfl) ?_
    exact ⟨a1_0, a1_1, rfl, rfl⟩
  rintro f2 _ ⟨a2_0, a2_1, a2_5, rfl⟩
  clear a1_0 a1_1
  refine wpF_block ?_
  refine wpF_loop (fun mz f H => ∃ (k : Nat), mz = r.length - k ∧ (k ≤ r.length) ∧ (∀ j, j < k → ¬ (nth r j).To < nth (nth r j).Of 0 * n) ∧ f 0 = vr ∧ f 1 = I (n) ∧ f 5 = I ((k : Int)) ∧ St H0 NoB NoB [rdE vr (r : List LRow)] H) (r.length - 0) ?_ ?_
  · exact ⟨0, rfl, Nat.zero_le _, (fun j hj => absurd hj (Nat.not_lt_zero j)), a2_0, a2_1, (Eq.trans a2_5 (congrArg I (by omega))), hS0⟩
  intro m3 f3 H3 hI3
  obtain ⟨k, hm3, hk, hp, a3_0, a3_1, a3_5, hS3⟩ := hI3
  clear a2_0 a2_1 a2_5
  refine wpF_seq ?_
  refine wpF_seq ?_
  refine wpF_cut (fun f H => f 0 = vr ∧ f 1 = I (n) ∧ f 5 = I ((k : Int)) ∧ f 9 = B (decide ((k : Int) < (r.length : Int))) ∧ H3 = H) ?_ ?_
  · refine wpF_region ?_
    refine wpL_q (U := NoB) rfl (q_move (v := I ((k : Int))) rfl a3_5) ?_
    refine wpL_q (U := NoB) rfl (q_move (v := vr) rfl a3_0) ?_
    refine wpL_q (U := NoB) rfl (q_lenRd rfl Try.underlying22 rfl (hS3.rdl 0 rfl)) ?_
    refine wpL_q (U := NoB) rfl (q_lss rfl rfl rfl) ?_
    exact ⟨a3_0, a3_1, a3_5, rfl, rfl⟩
  rintro f4 _ ⟨a4_0, a4_1, a4_5, a4_9, rfl⟩
  clear a3_0 a3_1 a3_5
  refine wpF_condP a4_9 (fun hlt => ?t13) (fun hlt => ?e13)
  case e13 =>
    refine wpF_exit ?_
    refine atX_here ?_
    refine wpF_seq ?_
    refine wpF_cut (fun f H => f 4 = B (true) ∧ H3 = H) ?_ ?_
    · refine wpF_region ?_
      refine wpL_q (U := NoB) rfl (q_assign (v := B (true)) rfl rfl) ?_
      exact ⟨rfl, rfl⟩
    rintro f12 _ ⟨a12_4, rfl⟩
    clear a4_0 a4_1 a4_5 a4_9
    refine wpF_ret ?_
    refine ⟨_, resT a12_4 resN, hS3.frame, ?_⟩
    show (B (true)) = B (heldB r n)
    exact congrArg B (decide_eq_true fun j hj => hp j (by omega)).symm
  have hmu := hok.mul (k := k) (by omega) hn
  have hol := (hok k (by omega)).1
  refine wpF_skip ?_
  refine wpF_seq ?_
  refine wpF_block ?_
  refine wpF_seq ?_
  refine wpF_cut (fun f H => (In64 (nth r k).To) ∧ f 0 = vr ∧ f 1 = I (n) ∧ f 5 = I ((k : Int)) ∧ f 26 = B (decide (((nth r k).To) < ((nth ((nth r k).Of) 0) * n))) ∧ H3 = H) ?_ ?_
  · refine wpF_drawn [] [] (fun _ _ => False) (by kernel_rfl) (by kernel_rfl) ?_
    refine wpR_q 0 (by kernel_rfl) rfl (quietAt rfl rfl (q_move (v := vr) rfl a4_0)) ?_
    refine wpR_q 1 (by kernel_rfl) rfl (quietAt rfl rfl (q_move (v := I ((k : Int))) rfl a4_5)) ?_
    refine wpR_q 2 (by kernel_rfl) rfl (quietAt rfl rfl (q_indexRd (k := k) rfl Try.underlying22 el_LRow_34_TopL1 rfl rfl (hS3.rdl 0 rfl) (by omega) (by omega))) ?_
    refine wpR_q 3 (by kernel_rfl) rfl (quietAt rfl rfl (q_fieldE (k := k) rfl Try.underlying34 rfl Try.sizeOf32 rfl rfl (hS3.rdl 0 rfl) (by omega))) ?_
    obtain ⟨_, hcu6o4, hFu6o4⟩ := (Rd.list.1 (hS3.rdS 0 rfl)).cellF k (by omega)
    obtain ⟨u6o4n0, rfl, hu6o40, hu6o41, hu6o42⟩ := hcu6o4
    have hS6o4 : St H0 NoB NoB [rdE u6o4n0 ((nth r k).Of : List Int), rdE vr (r : List LRow)] H3 := hS3.rd (Rd.list.2 hu6o40)
    refine wpR_q 4 (by kernel_rfl) rfl (quietAt rfl rfl (q_loadF rfl rfl (hFu6o4 0 _ Try.prog 32 _ rfl Try.isAgg32 (labU_sub [] rfl (List.forall_mem_nil _))))) ?_
    refine wpR_q 5 (by kernel_rfl) rfl (quietAt rfl rfl (q_indexRd (k := 0) rfl Try.underlying32 el_Int_3_TopL1 rfl rfl (hS6o4.rdl 0 rfl) (by omega) (by omega))) ?_
    refine wpR_q 6 (by kernel_rfl) rfl (quietAt rfl rfl (q_loadInt (k := 0) rfl rfl el_Int_3_TopL1 (hS6o4.rdl 0 rfl) (by omega) (labU_sub [] rfl (List.forall_mem_nil _)))) ?_
    refine wpR_q 7 (by kernel_rfl) rfl (quietAt rfl rfl (q_move (v := I (n)) rfl a4_1)) ?_
    refine wpR_q 8 (by kernel_rfl) rfl (quietAt rfl rfl (q_mul rfl rfl rfl (by constructor <;> omega))) ?_
    refine wpR_q 9 (by kernel_rfl) rfl (quietAt rfl rfl (q_move (v := vr) rfl a4_0)) ?_
    refine wpR_q 10 (by kernel_rfl) rfl (quietAt rfl rfl (q_move (v := I ((k : Int))) rfl a4_5)) ?_
    refine wpR_q 11 (by kernel_rfl) rfl (quietAt rfl rfl (q_indexRd (k := k) rfl Try.underlying22 el_LRow_34_TopL1 rfl rfl (hS6o4.rdl 1 rfl) (by omega) (by omega))) ?_
    refine wpR_q 12 (by kernel_rfl) rfl (quietAt rfl rfl (q_fieldE (k := k) rfl Try.underlying34 rfl Try.sizeOf3 rfl rfl (hS6o4.rdl 1 rfl) (by omega))) ?_
    obtain ⟨_, hcu6o13, hFu6o13⟩ := (Rd.list.1 (hS6o4.rdS 1 rfl)).cellF k (by omega)
    obtain ⟨u6o13n0, rfl, hu6o130, hu6o131, hu6o132⟩ := hcu6o13
    refine wpR_q 13 (by kernel_rfl) rfl (quietAt rfl rfl (q_loadF rfl rfl (hFu6o13 2 _ Try.prog 3 _ rfl Try.isAgg3 (labU_sub [] rfl (List.forall_mem_nil _))))) ?_
    refine wpR_q 14 (by kernel_rfl) rfl (quietAt rfl rfl (q_gtr rfl rfl rfl)) ?_
    refine wpR_end (by kernel_rfl) ?_
    exact ⟨hu6o132, a4_0, a4_1, a4_5, rfl, rfl⟩
  rintro f7 _ ⟨hu6o132, a7_0, a7_1, a7_5, a7_26, rfl⟩
  clear a4_0 a4_1 a4_5 a4_9
  refine wpF_condP a7_26 (fun h26 => ?t11) (fun h26 => ?e11)
  case t11 =>
    refine wpF_seq ?_
    refine wpF_cut (fun f H => f 4 = B (false) ∧ H3 = H) ?_ ?_
    · refine wpF_region ?_
      refine wpL_q (U := NoB) rfl (q_assign (v := B (false)) rfl rfl) ?_
      exact ⟨rfl, rfl⟩
    rintro f9 _ ⟨a9_4, rfl⟩
    clear a7_0 a7_1 a7_26 a7_5
    refine wpF_ret ?_
    refine ⟨_, resT a9_4 resN, hS3.frame, ?_⟩
    show (B (false)) = B (heldB r n)
    exact congrArg B (decide_eq_false fun h => h k (by omega) h26).symm
  refine wpF_skip ?_
  refine wpF_cut (fun f H => f 0 = vr ∧ f 1 = I (n) ∧ f 5 = I ((k : Int) + 1) ∧ H3 = H) ?_ ?_
  · refine wpF_region ?_
    refine wpL_q (U := NoB) rfl (q_move (v := I ((k : Int))) rfl a7_5) ?_
    refine wpL_q (U := NoB) rfl (q_add rfl rfl rfl (by constructor <;> omega)) ?_
    refine wpL_q (U := NoB) rfl (q_assign (v := I ((k : Int) + 1)) rfl rfl) ?_
    exact ⟨a7_0, a7_1, rfl, rfl⟩
  rintro f10 _ ⟨a10_0, a10_1, a10_5, rfl⟩
  clear a7_0 a7_1 a7_26 a7_5
  refine ⟨_, ?_, k + 1, rfl, (by omega), (all_succ hp h26), a10_0, a10_1, (Eq.trans a10_5 (congrArg I (by omega))), hS3⟩
  omega

abbrev tpZ (g1 : Nat) : Ent := blkE g1 (.cells #[(Value.slice none 0 0), (Value.slice none 0 0), (Value.slice none 0 0), (Value.slice none 0 0), (Value.slice none 0 0)] 42)
abbrev tpSv47 (v47 : Value) (l : List Int) : Ent := rdE v47 ([(LRow.mk ([1]) 3 (pickI (atI l (1 : Int)) 7))] : List LRow)
abbrev tpSv29 (v29 : Value) (l : List Int) : Ent := rdE v29 ([(LRow.mk ([1]) 3 (pickI (atI l (0 : Int)) 7))] : List LRow)
abbrev tpA (v67o20 : Value) (l : List Int) (i : Nat) : Ent := rdE v67o20 ([pickI ((atI l (2 + (i : Int))).tdiv 26) 3, (pickI ((atI l (2 + (i : Int))).tdiv 78) 9) - 4] : List Int)
abbrev tpB (v67o23 : Value) (l : List Int) (i : Nat) : Ent := rdE v67o23 ([(Jump.mk ([(LRow.mk ([1 - (2 * (pickI (atI l (2 + (i : Int))) 2))]) 1 ((pickI ((atI l (2 + (i : Int))).tdiv 2) 13) - 6))]) ([[pickI ((atI l (2 + (i : Int))).tdiv 26) 3, (pickI ((atI l (2 + (i : Int))).tdiv 78) 9) - 4]]))] : List Jump)
abbrev tpC (v67o12 : Value) (l : List Int) (i : Nat) : Ent := rdE v67o12 ([(LRow.mk ([1 - (2 * (pickI (atI l (2 + (i : Int))) 2))]) 1 ((pickI ((atI l (2 + (i : Int))).tdiv 2) 13) - 6))] : List LRow)
abbrev tpD (v67o21 : Value) (l : List Int) (i : Nat) : Ent := rdE v67o21 ([[pickI ((atI l (2 + (i : Int))).tdiv 26) 3, (pickI ((atI l (2 + (i : Int))).tdiv 78) 9) - 4]] : List (List Int))
abbrev tpE (v67o6 : Value) (l : List Int) (i : Nat) : Ent := rdE v67o6 ([1 - (2 * (pickI (atI l (2 + (i : Int))) 2))] : List Int)
abbrev tpX (l : List Int) (i : Nat) : Int := atI l (2 + (i : Int))
set_option maxHeartbeats 2000000 in
set_option maxRecDepth 100000 in
theorem loopOf_T {H0 : Heap} {S : Nat → Prop} (vl : Value) (l : List Int) (rl : Rd S H0 vl l) : CallsH Try.prog 19 #[vl] H0 (fun rv_ H' => Ext NoB H0 H' ∧ ∃ w0_ w1_ w2_ w3_ w4_, rv_ = Value.agg #[w0_, w1_, w2_, w3_, w4_] ∧ Rd (fun b => S b ∧ b < H0.size) H' w0_ (topL l : Loop).Low ∧ Rd (fun b => S b ∧ b < H0.size) H' w1_ (topL l : Loop).High ∧ Rd (fun b => S b ∧ b < H0.size) H' w2_ (topL l : Loop).Start ∧ Rd (fun b => S b ∧ b < H0.size) H' w3_ (topL l : Loop).Jumps ∧ Rd (fun b => S b ∧ b < H0.size) H' w4_ (topL l : Loop).Bad) := by
  have hS0 : St H0 NoB (fun b => S b ∧ b < H0.size) [rdE vl (l : List Int)] H0 := St.arg (St.start (fun _ h => h.2)) (Bl0.nil) rl (fun _ h => h.1)
  refine callsH_of_wpF (args := [vl]) (rs := [.cell 2 42]) Try.func19 rfl Try.ntmps19 Try.results19 (by kernel_rfl) (Nat.le_of_ble_eq_true rfl) ?_
  have a0_0 : argF [vl] 0 = vl := rfl
  generalize argF [vl] = f0 at *
  refine wpF_seq ?_
  refine wpF_cut (fun f H => ∃ (g1 : Nat), f 0 = vl ∧ f 2 = PT g1 0 ∧ St H0 NoB (fun b => S b ∧ b < H0.size) [(tpZ g1), rdE vl (l : List Int)] H) ?_ ?_
  · refine wpF_region ?_
    refine wpL_o rfl ?_
    refine e_alloc rfl Try.zeroValue42 hS0 (fun g1 H2 hS3 hxx => ?_)
    replace hS3 : St H0 NoB (fun b => S b ∧ b < H0.size) [(tpZ g1), rdE vl (l : List Int)] H2 := hS3
    exact ⟨g1, a0_0, rfl, hS3⟩
  rintro f4 H4 ⟨g1, a4_0, a4_2, hS4⟩
  clear a0_0
  refine wpF_seq ?_
  refine wpF_cut (fun f H => ∃ (v5 : Value), ∃ (v8 : Value), ∃ (g11 : Nat), f 0 = vl ∧ f 2 = PT g1 0 ∧ f 3 = PT g11 0 ∧ St H0 NoB (fun b => S b ∧ b < H0.size) [blkE g11 (.cells #[v5, v8, (Value.slice none 0 0), (Value.slice none 0 0), (Value.slice none 0 0)] 42), rowE 3 v8 ([6] : List Int), rowE 3 v5 ([0] : List Int), (tpZ g1), rdE vl (l : List Int)] H) ?_ ?_
  · refine wpF_region ?_
    refine wpL_o rfl ?_
    refine e_buildSlice (vs := [I (0)]) (xs := ([0] : List Int)) rfl Try.underlying32 Try.zeroValue3 rfl Try.sizeOf3 (par1 (v0 := I (0)) rfl) rfl hS4 (RdVs.cons (Rd.int.2 ⟨rfl, by constructor <;> omega⟩) (RdVs.nil)) (by decide) (by decide) (fun v5 H6 hS7 hxx hvv5 => ?_)
    replace hS7 : St H0 NoB (fun b => S b ∧ b < H0.size) [rowE 3 v5 ([0] : List Int), (tpZ g1), rdE vl (l : List Int)] H6 := hS7
    refine wpL_o rfl ?_
    refine e_buildSlice (vs := [I (6)]) (xs := ([6] : List Int)) rfl Try.underlying32 Try.zeroValue3 rfl Try.sizeOf3 (par1 (v0 := I (6)) rfl) rfl hS7 (RdVs.cons (Rd.int.2 ⟨rfl, by constructor <;> omega⟩) (RdVs.nil)) (by decide) (by decide) (fun v8 H9 hS10 hxx hvv8 => ?_)
    replace hS10 : St H0 NoB (fun b => S b ∧ b < H0.size) [rowE 3 v8 ([6] : List Int), rowE 3 v5 ([0] : List Int), (tpZ g1), rdE vl (l : List Int)] H9 := hS10
    refine wpL_q (U := NoB) rfl (q_build (v := Value.agg #[v5, v8, (Value.slice none 0 0), (Value.slice none 0 0), (Value.slice none 0 0)]) rfl (par2 (v0 := v5) (v1 := v8) rfl rfl) ((hS10.rowl 1 rfl).slc (fun zz0 => ∀ w, (Instr.build 42 #[(0, zz0), (1, v8)]).run Try.prog w = .ok (Value.agg #[zz0, v8, (Value.slice none 0 0), (Value.slice none 0 0), (Value.slice none 0 0)]) w) (fun a0 n0 c0 => ((hS10.rowl 0 rfl).slc (fun zz1 => ∀ w, (Instr.build 42 #[(0, (.slice a0 n0 c0)), (1, zz1)]).run Try.prog w = .ok (Value.agg #[(.slice a0 n0 c0), zz1, (Value.slice none 0 0), (Value.slice none 0 0), (Value.slice none 0 0)]) w) (fun a1 n1 c1 => (fun w => by kernel_rfl)))))) ?_
    refine wpL_o rfl ?_
    refine e_alloc rfl Try.zeroValue42 hS10 (fun g11 H12 hS13 hxx => ?_)
    replace hS13 : St H0 NoB (fun b => S b ∧ b < H0.size) [blkE g11 (.cells #[(Value.slice none 0 0), (Value.slice none 0 0), (Value.slice none 0 0), (Value.slice none 0 0), (Value.slice none 0 0)] 42), rowE 3 v8 ([6] : List Int), rowE 3 v5 ([0] : List Int), (tpZ g1), rdE vl (l : List Int)] H12 := hS13
    refine wpL_o rfl ?_
    refine e_storeBlkA (cs' := #[v5, v8, (Value.slice none 0 0), (Value.slice none 0 0), (Value.slice none 0 0)]) rfl rfl rfl Try.sizeOf42 rfl rfl (List.forall_mem_cons.2 ⟨(oneCell_rdL (hS13.rowl 2 rfl)), List.forall_mem_cons.2 ⟨(oneCell_rdL (hS13.rowl 1 rfl)), List.forall_mem_cons.2 ⟨rfl, List.forall_mem_cons.2 ⟨rfl, List.forall_mem_cons.2 ⟨rfl, List.forall_mem_nil _⟩⟩⟩⟩⟩) hS13 (fun H14 hS15 hxx => ?_)
    replace hS15 : St H0 NoB (fun b => S b ∧ b < H0.size) [blkE g11 (.cells #[v5, v8, (Value.slice none 0 0), (Value.slice none 0 0), (Value.slice none 0 0)] 42), rowE 3 v8 ([6] : List Int), rowE 3 v5 ([0] : List Int), (tpZ g1), rdE vl (l : List Int)] H14 := hS15
    exact ⟨v5, v8, g11, a4_0, a4_2, rfl, hS15⟩
  rintro f16 H16 ⟨v5, v8, g11, a16_0, a16_2, a16_3, hS16⟩
  clear a4_0 a4_2
  refine wpF_seq ?_
  refine wpF_cut (fun f H => ∃ (v29 : Value), (In64 (atI l (0 : Int))) ∧ (0 ≤ pickI (atI l (0 : Int)) 7 ∧ pickI (atI l (0 : Int)) 7 < 7) ∧ f 0 = vl ∧ f 2 = PT g1 0 ∧ f 3 = PT g11 0 ∧ St H0 NoB (fun b => S b ∧ b < H0.size) [blkE g11 (.cells #[v5, v8, v29, (Value.slice none 0 0), (Value.slice none 0 0)] 42), rowE 34 v29 ([(LRow.mk ([1]) 3 (pickI (atI l (0 : Int)) 7))] : List LRow), rowE 3 v8 ([6] : List Int), rowE 3 v5 ([0] : List Int), (tpZ g1), rdE vl (l : List Int)] H) ?_ ?_
  · refine wpF_region ?_
    refine wpL_o rfl ?_
    refine e_buildSlice (vs := [I (1)]) (xs := ([1] : List Int)) rfl Try.underlying32 Try.zeroValue3 rfl Try.sizeOf3 (par1 (v0 := I (1)) rfl) rfl hS16 (RdVs.cons (Rd.int.2 ⟨rfl, by constructor <;> omega⟩) (RdVs.nil)) (by decide) (by decide) (fun v17 H18 hS19 hxx hvv17 => ?_)
    replace hS19 : St H0 NoB (fun b => S b ∧ b < H0.size) [rowE 3 v17 ([1] : List Int), blkE g11 (.cells #[v5, v8, (Value.slice none 0 0), (Value.slice none 0 0), (Value.slice none 0 0)] 42), rowE 3 v8 ([6] : List Int), rowE 3 v5 ([0] : List Int), (tpZ g1), rdE vl (l : List Int)] H18 := hS19
    refine wpL_q (U := NoB) rfl (q_move (v := vl) rfl a16_0) ?_
    refine wpL_o rfl ?_
    refine e_call rfl Try.call49 (arr2 (v0 := vl) (v1 := I (0)) rfl rfl) (At_K vl l (0 : Int) (hS19.rdN 5 rfl)) ?_
    rintro _ H21 ⟨hxx, rfl, y20⟩
    have hS22 : St H0 NoB (fun b => S b ∧ b < H0.size) [rowE 3 v17 ([1] : List Int), blkE g11 (.cells #[v5, v8, (Value.slice none 0 0), (Value.slice none 0 0), (Value.slice none 0 0)] 42), rowE 3 v8 ([6] : List Int), rowE 3 v5 ([0] : List Int), (tpZ g1), rdE vl (l : List Int)] H21 := hS19.ext hxx
    refine wpL_o rfl ?_
    refine e_call rfl Try.call20 (arr2 (v0 := I (atI l (0 : Int))) (v1 := I (7)) rfl rfl) (Picked (atI l (0 : Int)) 7 (by omega)) ?_
    rintro _ H25 ⟨hxx, rfl, y24⟩
    have hS26 : St H0 NoB (fun b => S b ∧ b < H0.size) [rowE 3 v17 ([1] : List Int), blkE g11 (.cells #[v5, v8, (Value.slice none 0 0), (Value.slice none 0 0), (Value.slice none 0 0)] 42), rowE 3 v8 ([6] : List Int), rowE 3 v5 ([0] : List Int), (tpZ g1), rdE vl (l : List Int)] H25 := hS22.ext hxx
    refine wpL_q (U := NoB) rfl (q_build (v := Value.agg #[v17, I (3), I (pickI (atI l (0 : Int)) 7)]) rfl (par3 (v0 := v17) (v1 := I (3)) (v2 := I (pickI (atI l (0 : Int)) 7)) rfl rfl rfl) ((hS26.rowl 0 rfl).slc (fun zz0 => ∀ w, (Instr.build 34 #[(0, zz0), (1, I (3)), (2, I (pickI (atI l (0 : Int)) 7))]).run Try.prog w = .ok (Value.agg #[zz0, I (3), I (pickI (atI l (0 : Int)) 7)]) w) (fun a0 n0 c0 => (fun w => by kernel_rfl)))) ?_
    have hS28 : St H0 NoB (fun b => S b ∧ b < H0.size) [rdE v17 ([1] : List Int), blkE g11 (.cells #[v5, v8, (Value.slice none 0 0), (Value.slice none 0 0), (Value.slice none 0 0)] 42), rowE 3 v8 ([6] : List Int), rowE 3 v5 ([0] : List Int), (tpZ g1), rdE vl (l : List Int)] H25 := St.fin hS26
    refine wpL_o rfl ?_
    refine e_buildSlice (vs := [Value.agg #[v17, I (3), I (pickI (atI l (0 : Int)) 7)]]) (xs := ([(LRow.mk ([1]) 3 (pickI (atI l (0 : Int)) 7))] : List LRow)) rfl Try.underlying22 Try.zeroValue34 rfl Try.sizeOf34 (par1 (v0 := Value.agg #[v17, I (3), I (pickI (atI l (0 : Int)) 7)]) rfl) rfl hS28 (RdVs.cons (Rd.lRow.2 ⟨_, rfl, (hS28.rdS 0 rfl), (by first | assumption | (constructor <;> (dsimp only; omega)) | (constructor <;> omega)), (by first | assumption | (constructor <;> (dsimp only; omega)) | (constructor <;> omega))⟩) (RdVs.nil)) (by decide) (by decide) (fun v29 H30 hS31 hxx hvv29 => ?_)
    replace hS31 : St H0 NoB (fun b => S b ∧ b < H0.size) [rowE 34 v29 ([(LRow.mk ([1]) 3 (pickI (atI l (0 : Int)) 7))] : List LRow), rdE v17 ([1] : List Int), blkE g11 (.cells #[v5, v8, (Value.slice none 0 0), (Value.slice none 0 0), (Value.slice none 0 0)] 42), rowE 3 v8 ([6] : List Int), rowE 3 v5 ([0] : List Int), (tpZ g1), rdE vl (l : List Int)] H30 := hS31
    refine wpL_q (U := NoB) rfl (q_fieldAddr rfl Try.underlying42 rfl Try.sizeOf22 a16_3) ?_
    refine wpL_o rfl ?_
    refine e_storeBlk (v := v29) rfl rfl rfl (oneCell_rdL (hS31.rowl 0 rfl)) Try.sizeOf22 (by show _ < 5; decide) (hS31.front 2 rfl) (fun H32 hS33 hxx => ?_)
    replace hS33 : St H0 NoB (fun b => S b ∧ b < H0.size) [blkE g11 (.cells #[v5, v8, v29, (Value.slice none 0 0), (Value.slice none 0 0)] 42), rowE 34 v29 ([(LRow.mk ([1]) 3 (pickI (atI l (0 : Int)) 7))] : List LRow), rdE v17 ([1] : List Int), rowE 3 v8 ([6] : List Int), rowE 3 v5 ([0] : List Int), (tpZ g1), rdE vl (l : List Int)] H32 := hS33
    exact ⟨v29, y20, y24, a16_0, a16_2, a16_3, (hS33.drop (List.Sublist.cons_cons _ (List.Sublist.cons_cons _ (List.Sublist.cons _ (List.Sublist.cons_cons _ (List.Sublist.cons_cons _ (List.Sublist.cons_cons _ (List.Sublist.cons_cons _ (List.Sublist.slnil)))))))))⟩
  rintro f34 H34 ⟨v29, y20, y24, a34_0, a34_2, a34_3, hS34⟩
  clear a16_0 a16_2 a16_3
  refine wpF_seq ?_
  refine wpF_cut (fun f H => ∃ (v47 : Value), (In64 (atI l (1 : Int))) ∧ (0 ≤ pickI (atI l (1 : Int)) 7 ∧ pickI (atI l (1 : Int)) 7 < 7) ∧ f 0 = vl ∧ f 2 = PT g1 0 ∧ f 3 = PT g11 0 ∧ St H0 NoB (fun b => S b ∧ b < H0.size) [blkE g11 (.cells #[v5, v8, v29, (Value.slice none 0 0), v47] 42), rowE 34 v47 ([(LRow.mk ([1]) 3 (pickI (atI l (1 : Int)) 7))] : List LRow), rowE 34 v29 ([(LRow.mk ([1]) 3 (pickI (atI l (0 : Int)) 7))] : List LRow), rowE 3 v8 ([6] : List Int), rowE 3 v5 ([0] : List Int), (tpZ g1), rdE vl (l : List Int)] H) ?_ ?_
  · refine wpF_region ?_
    refine wpL_o rfl ?_
    refine e_buildSlice (vs := [I (1)]) (xs := ([1] : List Int)) rfl Try.underlying32 Try.zeroValue3 rfl Try.sizeOf3 (par1 (v0 := I (1)) rfl) rfl hS34 (RdVs.cons (Rd.int.2 ⟨rfl, by constructor <;> omega⟩) (RdVs.nil)) (by decide) (by decide) (fun v35 H36 hS37 hxx hvv35 => ?_)
    replace hS37 : St H0 NoB (fun b => S b ∧ b < H0.size) [rowE 3 v35 ([1] : List Int), blkE g11 (.cells #[v5, v8, v29, (Value.slice none 0 0), (Value.slice none 0 0)] 42), rowE 34 v29 ([(LRow.mk ([1]) 3 (pickI (atI l (0 : Int)) 7))] : List LRow), rowE 3 v8 ([6] : List Int), rowE 3 v5 ([0] : List Int), (tpZ g1), rdE vl (l : List Int)] H36 := hS37
    refine wpL_q (U := NoB) rfl (q_move (v := vl) rfl a34_0) ?_
    refine wpL_o rfl ?_
    refine e_call rfl Try.call49 (arr2 (v0 := vl) (v1 := I (1)) rfl rfl) (At_K vl l (1 : Int) (hS37.rdN 6 rfl)) ?_
    rintro _ H39 ⟨hxx, rfl, y38⟩
    have hS40 : St H0 NoB (fun b => S b ∧ b < H0.size) [rowE 3 v35 ([1] : List Int), blkE g11 (.cells #[v5, v8, v29, (Value.slice none 0 0), (Value.slice none 0 0)] 42), rowE 34 v29 ([(LRow.mk ([1]) 3 (pickI (atI l (0 : Int)) 7))] : List LRow), rowE 3 v8 ([6] : List Int), rowE 3 v5 ([0] : List Int), (tpZ g1), rdE vl (l : List Int)] H39 := hS37.ext hxx
    refine wpL_o rfl ?_
    refine e_call rfl Try.call20 (arr2 (v0 := I (atI l (1 : Int))) (v1 := I (7)) rfl rfl) (Picked (atI l (1 : Int)) 7 (by omega)) ?_
    rintro _ H43 ⟨hxx, rfl, y42⟩
    have hS44 : St H0 NoB (fun b => S b ∧ b < H0.size) [rowE 3 v35 ([1] : List Int), blkE g11 (.cells #[v5, v8, v29, (Value.slice none 0 0), (Value.slice none 0 0)] 42), rowE 34 v29 ([(LRow.mk ([1]) 3 (pickI (atI l (0 : Int)) 7))] : List LRow), rowE 3 v8 ([6] : List Int), rowE 3 v5 ([0] : List Int), (tpZ g1), rdE vl (l : List Int)] H43 := hS40.ext hxx
    refine wpL_q (U := NoB) rfl (q_build (v := Value.agg #[v35, I (3), I (pickI (atI l (1 : Int)) 7)]) rfl (par3 (v0 := v35) (v1 := I (3)) (v2 := I (pickI (atI l (1 : Int)) 7)) rfl rfl rfl) ((hS44.rowl 0 rfl).slc (fun zz0 => ∀ w, (Instr.build 34 #[(0, zz0), (1, I (3)), (2, I (pickI (atI l (1 : Int)) 7))]).run Try.prog w = .ok (Value.agg #[zz0, I (3), I (pickI (atI l (1 : Int)) 7)]) w) (fun a0 n0 c0 => (fun w => by kernel_rfl)))) ?_
    have hS46 : St H0 NoB (fun b => S b ∧ b < H0.size) [rdE v35 ([1] : List Int), blkE g11 (.cells #[v5, v8, v29, (Value.slice none 0 0), (Value.slice none 0 0)] 42), rowE 34 v29 ([(LRow.mk ([1]) 3 (pickI (atI l (0 : Int)) 7))] : List LRow), rowE 3 v8 ([6] : List Int), rowE 3 v5 ([0] : List Int), (tpZ g1), rdE vl (l : List Int)] H43 := St.fin hS44
    refine wpL_o rfl ?_
    refine e_buildSlice (vs := [Value.agg #[v35, I (3), I (pickI (atI l (1 : Int)) 7)]]) (xs := ([(LRow.mk ([1]) 3 (pickI (atI l (1 : Int)) 7))] : List LRow)) rfl Try.underlying22 Try.zeroValue34 rfl Try.sizeOf34 (par1 (v0 := Value.agg #[v35, I (3), I (pickI (atI l (1 : Int)) 7)]) rfl) rfl hS46 (RdVs.cons (Rd.lRow.2 ⟨_, rfl, (hS46.rdS 0 rfl), (by first | assumption | (constructor <;> (dsimp only; omega)) | (constructor <;> omega)), (by first | assumption | (constructor <;> (dsimp only; omega)) | (constructor <;> omega))⟩) (RdVs.nil)) (by decide) (by decide) (fun v47 H48 hS49 hxx hvv47 => ?_)
    replace hS49 : St H0 NoB (fun b => S b ∧ b < H0.size) [rowE 34 v47 ([(LRow.mk ([1]) 3 (pickI (atI l (1 : Int)) 7))] : List LRow), rdE v35 ([1] : List Int), blkE g11 (.cells #[v5, v8, v29, (Value.slice none 0 0), (Value.slice none 0 0)] 42), rowE 34 v29 ([(LRow.mk ([1]) 3 (pickI (atI l (0 : Int)) 7))] : List LRow), rowE 3 v8 ([6] : List Int), rowE 3 v5 ([0] : List Int), (tpZ g1), rdE vl (l : List Int)] H48 := hS49
    refine wpL_q (U := NoB) rfl (q_fieldAddr rfl Try.underlying42 rfl Try.sizeOf22 a34_3) ?_
    refine wpL_o rfl ?_
    refine e_storeBlk (v := v47) rfl rfl rfl (oneCell_rdL (hS49.rowl 0 rfl)) Try.sizeOf22 (by show _ < 5; decide) (hS49.front 2 rfl) (fun H50 hS51 hxx => ?_)
    replace hS51 : St H0 NoB (fun b => S b ∧ b < H0.size) [blkE g11 (.cells #[v5, v8, v29, (Value.slice none 0 0), v47] 42), rowE 34 v47 ([(LRow.mk ([1]) 3 (pickI (atI l (1 : Int)) 7))] : List LRow), rdE v35 ([1] : List Int), rowE 34 v29 ([(LRow.mk ([1]) 3 (pickI (atI l (0 : Int)) 7))] : List LRow), rowE 3 v8 ([6] : List Int), rowE 3 v5 ([0] : List Int), (tpZ g1), rdE vl (l : List Int)] H50 := hS51
    exact ⟨v47, y38, y42, a34_0, a34_2, a34_3, (hS51.drop (List.Sublist.cons_cons _ (List.Sublist.cons_cons _ (List.Sublist.cons _ (List.Sublist.cons_cons _ (List.Sublist.cons_cons _ (List.Sublist.cons_cons _ (List.Sublist.cons_cons _ (List.Sublist.cons_cons _ (List.Sublist.slnil))))))))))⟩
  rintro f52 H52 ⟨v47, y38, y42, a52_0, a52_2, a52_3, hS52⟩
  clear a34_0 a34_2 a34_3
  have hS53 : St H0 NoB (fun b => S b ∧ b < H0.size) [(tpSv47 v47 l), blkE g11 (.cells #[v5, v8, v29, (Value.slice none 0 0), v47] 42), rowE 34 v29 ([(LRow.mk ([1]) 3 (pickI (atI l (0 : Int)) 7))] : List LRow), rowE 3 v8 ([6] : List Int), rowE 3 v5 ([0] : List Int), (tpZ g1), rdE vl (l : List Int)] H52 := St.fin (hS52.front 1 rfl)
  have hS54 : St H0 NoB (fun b => S b ∧ b < H0.size) [(tpSv29 v29 l), (tpSv47 v47 l), blkE g11 (.cells #[v5, v8, v29, (Value.slice none 0 0), v47] 42), rowE 3 v8 ([6] : List Int), rowE 3 v5 ([0] : List Int), (tpZ g1), rdE vl (l : List Int)] H52 := St.fin (hS53.front 2 rfl)
  have hS55 : St H0 NoB (fun b => S b ∧ b < H0.size) [rdE v8 ([6] : List Int), (tpSv29 v29 l), (tpSv47 v47 l), blkE g11 (.cells #[v5, v8, v29, (Value.slice none 0 0), v47] 42), rowE 3 v5 ([0] : List Int), (tpZ g1), rdE vl (l : List Int)] H52 := St.fin (hS54.front 3 rfl)
  have hS56 : St H0 NoB (fun b => S b ∧ b < H0.size) [rdE v5 ([0] : List Int), rdE v8 ([6] : List Int), (tpSv29 v29 l), (tpSv47 v47 l), blkE g11 (.cells #[v5, v8, v29, (Value.slice none 0 0), v47] 42), (tpZ g1), rdE vl (l : List Int)] H52 := St.fin (hS55.front 4 rfl)
  have hS57 : St H0 NoB (fun b => S b ∧ b < H0.size) [rowE 25 (Value.slice none 0 0) ([] : List Jump), rdE v5 ([0] : List Int), rdE v8 ([6] : List Int), (tpSv29 v29 l), (tpSv47 v47 l), blkE g11 (.cells #[v5, v8, v29, (Value.slice none 0 0), v47] 42), (tpZ g1), rdE vl (l : List Int)] H52 := hS56.row0 25
  refine wpF_seq ?_
  refine wpF_seq ?_
  refine wpF_cut (fun f H => f 0 = vl ∧ f 2 = PT g1 0 ∧ f 3 = PT g11 0 ∧ f 4 = I (0) ∧ H52 = H) ?_ ?_
  · refine wpF_region ?_
    refine wpL_q (U := NoB) rfl (q_assign (v := I (0)) rfl rfl) ?_
    exact ⟨a52_0, a52_2, a52_3, rfl, rfl⟩
  rintro f58 _ ⟨a58_0, a58_2, a58_3, a58_4, rfl⟩
  clear a52_0 a52_2 a52_3
  refine wpF_block ?_
  refine wpF_loop (fun mz f H => ∃ (i : Nat), ∃ (vo : Value), mz = 2 - i ∧ (i ≤ 2) ∧ f 0 = vl ∧ f 2 = PT g1 0 ∧ f 3 = PT g11 0 ∧ f 4 = I ((i : Int)) ∧ St H0 NoB (fun b => S b ∧ b < H0.size) [rowE 25 vo (topJs l i : List Jump), rdE v5 ([0] : List Int), rdE v8 ([6] : List Int), (tpSv29 v29 l), (tpSv47 v47 l), blkE g11 (.cells #[v5, v8, v29, vo, v47] 42), (tpZ g1), rdE vl (l : List Int)] H) (2 - 0) ?_ ?_
  · exact ⟨0, (Value.slice none 0 0), rfl, Nat.zero_le _, a58_0, a58_2, a58_3, (Eq.trans a58_4 (congrArg I (by omega))), (show St H0 NoB (fun b => S b ∧ b < H0.size) [rowE 25 (Value.slice none 0 0) (topJs l 0 : List Jump), rdE v5 ([0] : List Int), rdE v8 ([6] : List Int), (tpSv29 v29 l), (tpSv47 v47 l), blkE g11 (.cells #[v5, v8, v29, (Value.slice none 0 0), v47] 42), (tpZ g1), rdE vl (l : List Int)] H52 from hS57)⟩
  intro m59 f59 H59 hI59
  obtain ⟨i, vo, hm59, hi, a59_0, a59_2, a59_3, a59_4, hS59⟩ := hI59
  clear a58_0 a58_2 a58_3 a58_4
  refine wpF_seq ?_
  refine wpF_seq ?_
  refine wpF_cut (fun f H => f 0 = vl ∧ f 2 = PT g1 0 ∧ f 3 = PT g11 0 ∧ f 4 = I ((i : Int)) ∧ f 24 = B (decide ((i : Int) < 2)) ∧ H59 = H) ?_ ?_
  · refine wpF_region ?_
    refine wpL_q (U := NoB) rfl (q_move (v := I ((i : Int))) rfl a59_4) ?_
    refine wpL_q (U := NoB) rfl (q_lss rfl rfl rfl) ?_
    exact ⟨a59_0, a59_2, a59_3, a59_4, rfl, rfl⟩
  rintro f60 _ ⟨a60_0, a60_2, a60_3, a60_4, a60_24, rfl⟩
  clear a59_0 a59_2 a59_3 a59_4
  refine wpF_condP a60_24 (fun hlt => ?t74) (fun hlt => ?e74)
  case e74 =>
    obtain rfl : i = 2 := by omega
    refine wpF_exit ?_
    refine atX_here ?_
    refine wpF_seq ?_
    refine wpF_cut (fun f H => f 2 = PT g1 0 ∧ St H0 NoB (fun b => S b ∧ b < H0.size) [blkE g1 (.cells #[v5, v8, v29, vo, v47] 42), rowE 25 vo (topJs l 2 : List Jump), rdE v5 ([0] : List Int), rdE v8 ([6] : List Int), (tpSv29 v29 l), (tpSv47 v47 l), blkE g11 (.cells #[v5, v8, v29, vo, v47] 42), rdE vl (l : List Int)] H) ?_ ?_
    · refine wpF_region ?_
      refine wpL_q (U := NoB) rfl (q_loadBlkA rfl a60_3 Try.isAgg42 Try.sizeOf42 rfl (hS59.blk 5 rfl) (fun h => h)) ?_
      refine wpL_o rfl ?_
      refine e_storeBlkA (cs' := #[v5, v8, v29, vo, v47]) rfl a60_2 rfl Try.sizeOf42 rfl rfl (List.forall_mem_cons.2 ⟨(oneCell_rdL (hS59.rdl 1 rfl)), List.forall_mem_cons.2 ⟨(oneCell_rdL (hS59.rdl 2 rfl)), List.forall_mem_cons.2 ⟨(oneCell_rdL (hS59.rdl 3 rfl)), List.forall_mem_cons.2 ⟨(oneCell_rdL (hS59.rowl 0 rfl)), List.forall_mem_cons.2 ⟨(oneCell_rdL (hS59.rdl 4 rfl)), List.forall_mem_nil _⟩⟩⟩⟩⟩) (hS59.front 6 rfl) (fun H70 hS71 hxx => ?_)
      replace hS71 : St H0 NoB (fun b => S b ∧ b < H0.size) [blkE g1 (.cells #[v5, v8, v29, vo, v47] 42), rowE 25 vo (topJs l 2 : List Jump), rdE v5 ([0] : List Int), rdE v8 ([6] : List Int), (tpSv29 v29 l), (tpSv47 v47 l), blkE g11 (.cells #[v5, v8, v29, vo, v47] 42), rdE vl (l : List Int)] H70 := hS71
      exact ⟨a60_2, hS71⟩
    rintro f72 H72 ⟨a72_2, hS72⟩
    clear a60_0 a60_2 a60_24 a60_3 a60_4
    refine wpF_ret ?_
    refine ⟨_, resC a72_2 (loadV_blkA Try.isAgg42 Try.sizeOf42 rfl (hS72.blk 0 rfl)) (resN), hS72.frame, ?_⟩
    show ∃ w0_ w1_ w2_ w3_ w4_, (Value.agg #[v5, v8, v29, vo, v47]) = Value.agg #[w0_, w1_, w2_, w3_, w4_] ∧ Rd (fun b => S b ∧ b < H0.size) H72 w0_ (topL l : Loop).Low ∧ Rd (fun b => S b ∧ b < H0.size) H72 w1_ (topL l : Loop).High ∧ Rd (fun b => S b ∧ b < H0.size) H72 w2_ (topL l : Loop).Start ∧ Rd (fun b => S b ∧ b < H0.size) H72 w3_ (topL l : Loop).Jumps ∧ Rd (fun b => S b ∧ b < H0.size) H72 w4_ (topL l : Loop).Bad
    have hS73 : St H0 NoB (fun b => S b ∧ b < H0.size) [rdE vo (topJs l 2 : List Jump), blkE g1 (.cells #[v5, v8, v29, vo, v47] 42), rdE v5 ([0] : List Int), rdE v8 ([6] : List Int), (tpSv29 v29 l), (tpSv47 v47 l), blkE g11 (.cells #[v5, v8, v29, vo, v47] 42), rdE vl (l : List Int)] H72 := St.fin (hS72.front 1 rfl)
    exact ⟨v5, v8, v29, vo, v47, rfl, (hS73.result (hS73.rdS 2 rfl)), (hS73.result (hS73.rdS 3 rfl)), (hS73.result (hS73.rdS 4 rfl)), (hS73.result (hS73.rdS 0 rfl)), (hS73.result (hS73.rdS 5 rfl))⟩
  refine wpF_skip ?_
  refine wpF_seq ?_
  refine wpF_block ?_
  refine wpF_seq ?_
  refine wpF_cut (fun f H => (In64 ((tpX l i))) ∧ f 0 = vl ∧ f 2 = PT g1 0 ∧ f 3 = PT g11 0 ∧ f 4 = I ((i : Int)) ∧ f 5 = I ((tpX l i)) ∧ St H0 NoB (fun b => S b ∧ b < H0.size) [rowE 25 vo (topJs l i : List Jump), rdE v5 ([0] : List Int), rdE v8 ([6] : List Int), (tpSv29 v29 l), (tpSv47 v47 l), blkE g11 (.cells #[v5, v8, v29, vo, v47] 42), (tpZ g1), rdE vl (l : List Int)] H) ?_ ?_
  · refine wpF_region ?_
    refine wpL_q (U := NoB) rfl (q_move (v := vl) rfl a60_0) ?_
    refine wpL_q (U := NoB) rfl (q_move (v := I ((i : Int))) rfl a60_4) ?_
    refine wpL_q (U := NoB) rfl (q_add rfl rfl rfl (by constructor <;> omega)) ?_
    refine wpL_o rfl ?_
    refine e_call rfl Try.call49 (arr2 (v0 := vl) (v1 := I (2 + (i : Int))) rfl rfl) (At_K vl l (2 + (i : Int)) (hS59.rdN 7 rfl)) ?_
    rintro _ H63 ⟨hxx, rfl, y62⟩
    have hS64 : St H0 NoB (fun b => S b ∧ b < H0.size) [rowE 25 vo (topJs l i : List Jump), rdE v5 ([0] : List Int), rdE v8 ([6] : List Int), (tpSv29 v29 l), (tpSv47 v47 l), blkE g11 (.cells #[v5, v8, v29, vo, v47] 42), (tpZ g1), rdE vl (l : List Int)] H63 := hS59.ext hxx
    refine wpL_q (U := NoB) rfl (q_assign (v := I ((tpX l i))) rfl rfl) ?_
    exact ⟨y62, a60_0, a60_2, a60_3, a60_4, rfl, hS64⟩
  rintro f66 H66 ⟨y62, a66_0, a66_2, a66_3, a66_4, a66_5, hS66⟩
  clear a60_0 a60_2 a60_24 a60_3 a60_4
  refine wpF_cut (fun f H => ∃ (v67o24 : Value), (0 ≤ pickI ((tpX l i)) 2 ∧ pickI ((tpX l i)) 2 < 2) ∧ (0 ≤ pickI (((tpX l i)).tdiv 2) 13 ∧ pickI (((tpX l i)).tdiv 2) 13 < 13) ∧ (0 ≤ pickI (((tpX l i)).tdiv 26) 3 ∧ pickI (((tpX l i)).tdiv 26) 3 < 3) ∧ (0 ≤ pickI (((tpX l i)).tdiv 78) 9 ∧ pickI (((tpX l i)).tdiv 78) 9 < 9) ∧ f 0 = vl ∧ f 2 = PT g1 0 ∧ f 3 = PT g11 0 ∧ f 4 = I ((i : Int)) ∧ St H0 NoB (fun b => S b ∧ b < H0.size) [blkE g11 (.cells #[v5, v8, v29, v67o24, v47] 42), rowE 25 v67o24 (topJs l (i + 1) : List Jump), rdE v5 ([0] : List Int), rdE v8 ([6] : List Int), (tpSv29 v29 l), (tpSv47 v47 l), (tpZ g1), rdE vl (l : List Int)] H) ?_ ?_
  · refine wpF_drawn [none, none, none, none, none, none, none, none, none, none, none, none, none, none, none, none, none, none, none, none, none, none, none, none, some 0, none, some 1] [[], [], [], [], [], [], [], [], [], [], [], [], [], [], [], [], [], [], [], [], [], [], [], [], [], [], []] (fun l b => match l with | 0 => True | 1 => True | _ => False) (by kernel_rfl) (by kernel_rfl) ?_
    refine wpR_q 0 (by kernel_rfl) rfl (quietAt rfl rfl (q_fieldAddr rfl Try.underlying42 rfl Try.sizeOf40 a66_3)) ?_
    refine wpR_q 1 (by kernel_rfl) rfl (quietAt rfl rfl (q_loadBlk rfl rfl Try.isAgg40 (hS66.blk 5 rfl) rfl (labU_not [] rfl (List.forall_mem_nil _)))) ?_
    refine wpR_q 2 (by kernel_rfl) rfl (quietAt rfl rfl (q_move (v := I ((tpX l i))) rfl a66_5)) ?_
    refine wpR_q 7 (by kernel_rfl) rfl (quietAt rfl rfl (q_move (v := I ((tpX l i))) rfl a66_5)) ?_
    refine wpR_q 8 (by kernel_rfl) rfl (quietAt rfl rfl (q_quo rfl rfl rfl (by first | assumption | omega) (by omega))) ?_
    refine wpR_q 13 (by kernel_rfl) rfl (quietAt rfl rfl (q_move (v := I ((tpX l i))) rfl a66_5)) ?_
    refine wpR_q 14 (by kernel_rfl) rfl (quietAt rfl rfl (q_quo rfl rfl rfl (by first | assumption | omega) (by omega))) ?_
    refine wpR_q 16 (by kernel_rfl) rfl (quietAt rfl rfl (q_move (v := I ((tpX l i))) rfl a66_5)) ?_
    refine wpR_q 17 (by kernel_rfl) rfl (quietAt rfl rfl (q_quo rfl rfl rfl (by first | assumption | omega) (by omega))) ?_
    refine wpR_n [3] (by kernel_rfl) ?_
    refine List.forall_mem_cons.2 ⟨?_, List.forall_mem_nil _⟩
    refine exE rfl rfl ?_
    refine e_call rfl Try.call20 (arr2 (v0 := I ((tpX l i))) (v1 := I (2)) rfl rfl) (Picked ((tpX l i)) 2 (by omega)) ?_
    rintro _ H67o3 ⟨hxx, rfl, y67o3⟩
    have hS67o3 : St H0 NoB (fun b => S b ∧ b < H0.size) [rowE 25 vo (topJs l i : List Jump), rdE v5 ([0] : List Int), rdE v8 ([6] : List Int), (tpSv29 v29 l), (tpSv47 v47 l), blkE g11 (.cells #[v5, v8, v29, vo, v47] 42), (tpZ g1), rdE vl (l : List Int)] H67o3 := hS66.ext hxx
    refine ⟨Ext.mono hxx (fun _ h => h.elim), ?_⟩
    refine wpR_q 4 (by kernel_rfl) rfl (quietAt rfl rfl (q_mul rfl rfl rfl (by constructor <;> omega))) ?_
    refine wpR_q 5 (by kernel_rfl) rfl (quietAt rfl rfl (q_sub rfl rfl rfl (by constructor <;> omega))) ?_
    refine wpR_n [6, 9] (by kernel_rfl) ?_
    refine List.forall_mem_cons.2 ⟨?_, List.forall_mem_cons.2 ⟨?_, List.forall_mem_nil _⟩⟩
    · refine exE rfl rfl ?_
      refine e_buildSlice (vs := [I (1 - (2 * (pickI ((tpX l i)) 2)))]) (xs := ([1 - (2 * (pickI ((tpX l i)) 2))] : List Int)) rfl Try.underlying32 Try.zeroValue3 rfl Try.sizeOf3 (par1 (v0 := I (1 - (2 * (pickI ((tpX l i)) 2)))) rfl) rfl hS67o3 (RdVs.cons (Rd.int.2 ⟨rfl, by constructor <;> omega⟩) (RdVs.nil)) (by decide) (by decide) (fun v67o6 H67o6 hS67o6 hxx hvv67o6 => ?_)
      replace hS67o6 : St H0 NoB (fun b => S b ∧ b < H0.size) [rowE 3 v67o6 ([1 - (2 * (pickI ((tpX l i)) 2))] : List Int), rowE 25 vo (topJs l i : List Jump), rdE v5 ([0] : List Int), rdE v8 ([6] : List Int), (tpSv29 v29 l), (tpSv47 v47 l), blkE g11 (.cells #[v5, v8, v29, vo, v47] 42), (tpZ g1), rdE vl (l : List Int)] H67o6 := hS67o6
      refine ⟨Ext.mono hxx (fun _ h => h.elim), ?_⟩
      refine wpR_n [9] (by kernel_rfl) ?_
      refine List.forall_mem_cons.2 ⟨?_, List.forall_mem_nil _⟩
      refine exE rfl rfl ?_
      refine e_call rfl Try.call20 (arr2 (v0 := I (((tpX l i)).tdiv 2)) (v1 := I (13)) rfl rfl) (Picked (((tpX l i)).tdiv 2) 13 (by omega)) ?_
      rintro _ H67o9 ⟨hxx, rfl, y67o9⟩
      have hS67o9 : St H0 NoB (fun b => S b ∧ b < H0.size) [rowE 3 v67o6 ([1 - (2 * (pickI ((tpX l i)) 2))] : List Int), rowE 25 vo (topJs l i : List Jump), rdE v5 ([0] : List Int), rdE v8 ([6] : List Int), (tpSv29 v29 l), (tpSv47 v47 l), blkE g11 (.cells #[v5, v8, v29, vo, v47] 42), (tpZ g1), rdE vl (l : List Int)] H67o9 := hS67o6.ext hxx
      refine ⟨Ext.mono hxx (fun _ h => h.elim), ?_⟩
      refine wpR_q 10 (by kernel_rfl) rfl (quietAt rfl rfl (q_sub rfl rfl rfl (by constructor <;> omega))) ?_
      refine wpR_q 11 (by kernel_rfl) rfl (quietAt rfl rfl (q_build (v := Value.agg #[v67o6, I (1), I ((pickI (((tpX l i)).tdiv 2) 13) - 6)]) rfl (par3 (v0 := v67o6) (v1 := I (1)) (v2 := I ((pickI (((tpX l i)).tdiv 2) 13) - 6)) rfl rfl rfl) ((hS67o9.rowl 0 rfl).slc (fun zz0 => ∀ w, (Instr.build 34 #[(0, zz0), (1, I (1)), (2, I ((pickI (((tpX l i)).tdiv 2) 13) - 6))]).run Try.prog w = .ok (Value.agg #[zz0, I (1), I ((pickI (((tpX l i)).tdiv 2) 13) - 6)]) w) (fun a0 n0 c0 => (fun w => by kernel_rfl))))) ?_
      refine wpR_n [12, 15] (by kernel_rfl) ?_
      refine List.forall_mem_cons.2 ⟨?_, List.forall_mem_cons.2 ⟨?_, List.forall_mem_nil _⟩⟩
      · have hS67o12 : St H0 NoB (fun b => S b ∧ b < H0.size) [(tpE v67o6 l i), rowE 25 vo (topJs l i : List Jump), rdE v5 ([0] : List Int), rdE v8 ([6] : List Int), (tpSv29 v29 l), (tpSv47 v47 l), blkE g11 (.cells #[v5, v8, v29, vo, v47] 42), (tpZ g1), rdE vl (l : List Int)] H67o9 := St.fin hS67o9
        refine exE rfl rfl ?_
        refine e_buildSlice (vs := [Value.agg #[v67o6, I (1), I ((pickI (((tpX l i)).tdiv 2) 13) - 6)]]) (xs := ([(LRow.mk ([1 - (2 * (pickI ((tpX l i)) 2))]) 1 ((pickI (((tpX l i)).tdiv 2) 13) - 6))] : List LRow)) rfl Try.underlying22 Try.zeroValue34 rfl Try.sizeOf34 (par1 (v0 := Value.agg #[v67o6, I (1), I ((pickI (((tpX l i)).tdiv 2) 13) - 6)]) rfl) rfl hS67o12 (RdVs.cons (Rd.lRow.2 ⟨_, rfl, (hS67o12.rdS 0 rfl), (by first | assumption | (constructor <;> (dsimp only; omega)) | (constructor <;> omega)), (by first | assumption | (constructor <;> (dsimp only; omega)) | (constructor <;> omega))⟩) (RdVs.nil)) (by decide) (by decide) (fun v67o12 H67o12 hS67o12x2 hxx hvv67o12 => ?_)
        replace hS67o12x2 : St H0 NoB (fun b => S b ∧ b < H0.size) [rowE 34 v67o12 ([(LRow.mk ([1 - (2 * (pickI ((tpX l i)) 2))]) 1 ((pickI (((tpX l i)).tdiv 2) 13) - 6))] : List LRow), (tpE v67o6 l i), rowE 25 vo (topJs l i : List Jump), rdE v5 ([0] : List Int), rdE v8 ([6] : List Int), (tpSv29 v29 l), (tpSv47 v47 l), blkE g11 (.cells #[v5, v8, v29, vo, v47] 42), (tpZ g1), rdE vl (l : List Int)] H67o12 := hS67o12x2
        refine ⟨Ext.mono hxx (fun _ h => h.elim), ?_⟩
        refine wpR_n [15] (by kernel_rfl) ?_
        refine List.forall_mem_cons.2 ⟨?_, List.forall_mem_nil _⟩
        refine exE rfl rfl ?_
        refine e_call rfl Try.call20 (arr2 (v0 := I (((tpX l i)).tdiv 26)) (v1 := I (3)) rfl rfl) (Picked (((tpX l i)).tdiv 26) 3 (by omega)) ?_
        rintro _ H67o15 ⟨hxx, rfl, y67o15⟩
        have hS67o15 : St H0 NoB (fun b => S b ∧ b < H0.size) [rowE 34 v67o12 ([(LRow.mk ([1 - (2 * (pickI ((tpX l i)) 2))]) 1 ((pickI (((tpX l i)).tdiv 2) 13) - 6))] : List LRow), (tpE v67o6 l i), rowE 25 vo (topJs l i : List Jump), rdE v5 ([0] : List Int), rdE v8 ([6] : List Int), (tpSv29 v29 l), (tpSv47 v47 l), blkE g11 (.cells #[v5, v8, v29, vo, v47] 42), (tpZ g1), rdE vl (l : List Int)] H67o15 := hS67o12x2.ext hxx
        refine ⟨Ext.mono hxx (fun _ h => h.elim), ?_⟩
        refine wpR_n [18] (by kernel_rfl) ?_
        refine List.forall_mem_cons.2 ⟨?_, List.forall_mem_nil _⟩
        refine exE rfl rfl ?_
        refine e_call rfl Try.call20 (arr2 (v0 := I (((tpX l i)).tdiv 78)) (v1 := I (9)) rfl rfl) (Picked (((tpX l i)).tdiv 78) 9 (by omega)) ?_
        rintro _ H67o18 ⟨hxx, rfl, y67o18⟩
        have hS67o18 : St H0 NoB (fun b => S b ∧ b < H0.size) [rowE 34 v67o12 ([(LRow.mk ([1 - (2 * (pickI ((tpX l i)) 2))]) 1 ((pickI (((tpX l i)).tdiv 2) 13) - 6))] : List LRow), (tpE v67o6 l i), rowE 25 vo (topJs l i : List Jump), rdE v5 ([0] : List Int), rdE v8 ([6] : List Int), (tpSv29 v29 l), (tpSv47 v47 l), blkE g11 (.cells #[v5, v8, v29, vo, v47] 42), (tpZ g1), rdE vl (l : List Int)] H67o18 := hS67o15.ext hxx
        refine ⟨Ext.mono hxx (fun _ h => h.elim), ?_⟩
        refine wpR_q 19 (by kernel_rfl) rfl (quietAt rfl rfl (q_sub rfl rfl rfl (by constructor <;> omega))) ?_
        refine wpR_n [20] (by kernel_rfl) ?_
        refine List.forall_mem_cons.2 ⟨?_, List.forall_mem_nil _⟩
        refine exE rfl rfl ?_
        refine e_buildSlice (vs := [I (pickI (((tpX l i)).tdiv 26) 3), I ((pickI (((tpX l i)).tdiv 78) 9) - 4)]) (xs := ([pickI (((tpX l i)).tdiv 26) 3, (pickI (((tpX l i)).tdiv 78) 9) - 4] : List Int)) rfl Try.underlying32 Try.zeroValue3 rfl Try.sizeOf3 (par2 (v0 := I (pickI (((tpX l i)).tdiv 26) 3)) (v1 := I ((pickI (((tpX l i)).tdiv 78) 9) - 4)) rfl rfl) rfl hS67o18 (RdVs.cons (Rd.int.2 ⟨rfl, by constructor <;> omega⟩) (RdVs.cons (Rd.int.2 ⟨rfl, by constructor <;> omega⟩) (RdVs.nil))) (by decide) (by decide) (fun v67o20 H67o20 hS67o20 hxx hvv67o20 => ?_)
        replace hS67o20 : St H0 NoB (fun b => S b ∧ b < H0.size) [rowE 3 v67o20 ([pickI (((tpX l i)).tdiv 26) 3, (pickI (((tpX l i)).tdiv 78) 9) - 4] : List Int), rowE 34 v67o12 ([(LRow.mk ([1 - (2 * (pickI ((tpX l i)) 2))]) 1 ((pickI (((tpX l i)).tdiv 2) 13) - 6))] : List LRow), (tpE v67o6 l i), rowE 25 vo (topJs l i : List Jump), rdE v5 ([0] : List Int), rdE v8 ([6] : List Int), (tpSv29 v29 l), (tpSv47 v47 l), blkE g11 (.cells #[v5, v8, v29, vo, v47] 42), (tpZ g1), rdE vl (l : List Int)] H67o20 := hS67o20
        refine ⟨Ext.mono hxx (fun _ h => h.elim), ?_⟩
        refine wpR_n [21] (by kernel_rfl) ?_
        refine List.forall_mem_cons.2 ⟨?_, List.forall_mem_nil _⟩
        have hS67o21 : St H0 NoB (fun b => S b ∧ b < H0.size) [(tpA v67o20 l i), rowE 34 v67o12 ([(LRow.mk ([1 - (2 * (pickI ((tpX l i)) 2))]) 1 ((pickI (((tpX l i)).tdiv 2) 13) - 6))] : List LRow), (tpE v67o6 l i), rowE 25 vo (topJs l i : List Jump), rdE v5 ([0] : List Int), rdE v8 ([6] : List Int), (tpSv29 v29 l), (tpSv47 v47 l), blkE g11 (.cells #[v5, v8, v29, vo, v47] 42), (tpZ g1), rdE vl (l : List Int)] H67o20 := St.fin hS67o20
        refine exE rfl rfl ?_
        refine e_buildSlice (vs := [v67o20]) (xs := ([[pickI (((tpX l i)).tdiv 26) 3, (pickI (((tpX l i)).tdiv 78) 9) - 4]] : List (List Int))) rfl Try.underlying23 Try.zeroValue32 rfl Try.sizeOf32 (par1 (v0 := v67o20) rfl) rfl hS67o21 (RdVs.cons (hS67o21.rdS 0 rfl) (RdVs.nil)) (by decide) (by decide) (fun v67o21 H67o21 hS67o21x2 hxx hvv67o21 => ?_)
        replace hS67o21x2 : St H0 NoB (fun b => S b ∧ b < H0.size) [rowE 32 v67o21 ([[pickI (((tpX l i)).tdiv 26) 3, (pickI (((tpX l i)).tdiv 78) 9) - 4]] : List (List Int)), (tpA v67o20 l i), rowE 34 v67o12 ([(LRow.mk ([1 - (2 * (pickI ((tpX l i)) 2))]) 1 ((pickI (((tpX l i)).tdiv 2) 13) - 6))] : List LRow), (tpE v67o6 l i), rowE 25 vo (topJs l i : List Jump), rdE v5 ([0] : List Int), rdE v8 ([6] : List Int), (tpSv29 v29 l), (tpSv47 v47 l), blkE g11 (.cells #[v5, v8, v29, vo, v47] 42), (tpZ g1), rdE vl (l : List Int)] H67o21 := hS67o21x2
        refine ⟨Ext.mono hxx (fun _ h => h.elim), ?_⟩
        refine wpR_q 22 (by kernel_rfl) rfl (quietAt rfl rfl (q_build (v := Value.agg #[v67o12, v67o21]) rfl (par2 (v0 := v67o12) (v1 := v67o21) rfl rfl) ((hS67o21x2.rowl 2 rfl).slc (fun zz0 => ∀ w, (Instr.build 25 #[(0, zz0), (1, v67o21)]).run Try.prog w = .ok (Value.agg #[zz0, v67o21]) w) (fun a0 n0 c0 => ((hS67o21x2.rowl 0 rfl).slc (fun zz1 => ∀ w, (Instr.build 25 #[(0, (.slice a0 n0 c0)), (1, zz1)]).run Try.prog w = .ok (Value.agg #[(.slice a0 n0 c0), zz1]) w) (fun a1 n1 c1 => (fun w => by kernel_rfl))))))) ?_
        refine wpR_n [23] (by kernel_rfl) ?_
        refine List.forall_mem_cons.2 ⟨?_, List.forall_mem_nil _⟩
        have hS67o23 : St H0 NoB (fun b => S b ∧ b < H0.size) [(tpC v67o12 l i), rowE 32 v67o21 ([[pickI (((tpX l i)).tdiv 26) 3, (pickI (((tpX l i)).tdiv 78) 9) - 4]] : List (List Int)), (tpA v67o20 l i), (tpE v67o6 l i), rowE 25 vo (topJs l i : List Jump), rdE v5 ([0] : List Int), rdE v8 ([6] : List Int), (tpSv29 v29 l), (tpSv47 v47 l), blkE g11 (.cells #[v5, v8, v29, vo, v47] 42), (tpZ g1), rdE vl (l : List Int)] H67o21 := St.fin (hS67o21x2.front 2 rfl)
        have hS67o23x2 : St H0 NoB (fun b => S b ∧ b < H0.size) [(tpD v67o21 l i), (tpC v67o12 l i), (tpA v67o20 l i), (tpE v67o6 l i), rowE 25 vo (topJs l i : List Jump), rdE v5 ([0] : List Int), rdE v8 ([6] : List Int), (tpSv29 v29 l), (tpSv47 v47 l), blkE g11 (.cells #[v5, v8, v29, vo, v47] 42), (tpZ g1), rdE vl (l : List Int)] H67o21 := St.fin (hS67o23.front 1 rfl)
        refine exE rfl rfl ?_
        refine e_buildSlice (vs := [Value.agg #[v67o12, v67o21]]) (xs := ([(Jump.mk ([(LRow.mk ([1 - (2 * (pickI ((tpX l i)) 2))]) 1 ((pickI (((tpX l i)).tdiv 2) 13) - 6))]) ([[pickI (((tpX l i)).tdiv 26) 3, (pickI (((tpX l i)).tdiv 78) 9) - 4]]))] : List Jump)) rfl Try.underlying40 Try.zeroValue25 rfl Try.sizeOf25 (par1 (v0 := Value.agg #[v67o12, v67o21]) rfl) rfl hS67o23x2 (RdVs.cons (Rd.jump.2 ⟨_, _, rfl, (hS67o23x2.rdS 1 rfl), (hS67o23x2.rdS 0 rfl)⟩) (RdVs.nil)) (by decide) (by decide) (fun v67o23 H67o23 hS67o23x3 hxx hvv67o23 => ?_)
        replace hS67o23x3 : St H0 NoB (fun b => S b ∧ b < H0.size) [rowE 25 v67o23 ([(Jump.mk ([(LRow.mk ([1 - (2 * (pickI ((tpX l i)) 2))]) 1 ((pickI (((tpX l i)).tdiv 2) 13) - 6))]) ([[pickI (((tpX l i)).tdiv 26) 3, (pickI (((tpX l i)).tdiv 78) 9) - 4]]))] : List Jump), (tpD v67o21 l i), (tpC v67o12 l i), (tpA v67o20 l i), (tpE v67o6 l i), rowE 25 vo (topJs l i : List Jump), rdE v5 ([0] : List Int), rdE v8 ([6] : List Int), (tpSv29 v29 l), (tpSv47 v47 l), blkE g11 (.cells #[v5, v8, v29, vo, v47] 42), (tpZ g1), rdE vl (l : List Int)] H67o23 := hS67o23x3
        refine ⟨Ext.mono hxx (fun _ h => h.elim), ?_⟩
        refine wpR_n [24] (by kernel_rfl) ?_
        refine List.forall_mem_cons.2 ⟨?_, List.forall_mem_nil _⟩
        have hS67o24 : St H0 NoB (fun b => S b ∧ b < H0.size) [(tpB v67o23 l i), (tpD v67o21 l i), (tpC v67o12 l i), (tpA v67o20 l i), (tpE v67o6 l i), rowE 25 vo (topJs l i : List Jump), rdE v5 ([0] : List Int), rdE v8 ([6] : List Int), (tpSv29 v29 l), (tpSv47 v47 l), blkE g11 (.cells #[v5, v8, v29, vo, v47] 42), (tpZ g1), rdE vl (l : List Int)] H67o23 := St.fin hS67o23x3
        have hS67o24x2 : St H0 NoB (fun b => S b ∧ b < H0.size) [rowE 25 vo (topJs l i : List Jump), (tpB v67o23 l i), (tpD v67o21 l i), (tpC v67o12 l i), (tpA v67o20 l i), (tpE v67o6 l i), rdE v5 ([0] : List Int), rdE v8 ([6] : List Int), (tpSv29 v29 l), (tpSv47 v47 l), blkE g11 (.cells #[v5, v8, v29, vo, v47] 42), (tpZ g1), rdE vl (l : List Int)] H67o23 := (hS67o24.front 5 rfl)
        refine exE rfl rfl ?_
        refine e_append rfl Try.underlying40 em_Jump_25_TopL1 rfl rfl hS67o24x2 (hS67o24x2.rdS 1 rfl) (fun _ h => h) (by have hb : GoT.bytes Jump = 48 := rfl; have hbl : (topJs l i).length = i := (by simp [topJs]); simp [hb, hbl]; omega) (by decide) (fun v67o24 H67o24 hS67o24x3 hxx => ?_)
        replace hS67o24x3 : St H0 NoB (fun b => S b ∧ b < H0.size) [rowE 25 v67o24 ((topJs l i) ++ ([(Jump.mk ([(LRow.mk ([1 - (2 * (pickI ((tpX l i)) 2))]) 1 ((pickI (((tpX l i)).tdiv 2) 13) - 6))]) ([[pickI (((tpX l i)).tdiv 26) 3, (pickI (((tpX l i)).tdiv 78) 9) - 4]]))]) : List Jump), (tpB v67o23 l i), (tpD v67o21 l i), (tpC v67o12 l i), (tpA v67o20 l i), (tpE v67o6 l i), rdE v5 ([0] : List Int), rdE v8 ([6] : List Int), (tpSv29 v29 l), (tpSv47 v47 l), blkE g11 (.cells #[v5, v8, v29, vo, v47] 42), (tpZ g1), rdE vl (l : List Int)] H67o24 := hS67o24x3
        have hS67o24x4 : St H0 NoB (fun b => S b ∧ b < H0.size) [rowE 25 v67o24 (topJs l (i + 1) : List Jump), (tpB v67o23 l i), (tpD v67o21 l i), (tpC v67o12 l i), (tpA v67o20 l i), (tpE v67o6 l i), rdE v5 ([0] : List Int), rdE v8 ([6] : List Int), (tpSv29 v29 l), (tpSv47 v47 l), blkE g11 (.cells #[v5, v8, v29, vo, v47] 42), (tpZ g1), rdE vl (l : List Int)] H67o24 := by rw [show (topJs l (i + 1)) = ((topJs l i) ++ ([(Jump.mk ([(LRow.mk ([1 - (2 * (pickI ((tpX l i)) 2))]) 1 ((pickI (((tpX l i)).tdiv 2) 13) - 6))]) ([[pickI (((tpX l i)).tdiv 26) 3, (pickI (((tpX l i)).tdiv 78) 9) - 4]]))])) from (by rw [topJs_next]; rfl)]; exact hS67o24x3
        refine ⟨Ext.mono hxx (labS_of 0 rfl (fun _ _ => trivial)), ?_⟩
        refine wpR_q 25 (by kernel_rfl) rfl (quietAt rfl rfl (q_fieldAddr rfl Try.underlying42 rfl Try.sizeOf40 a66_3)) ?_
        refine wpR_n [26] (by kernel_rfl) ?_
        refine List.forall_mem_cons.2 ⟨?_, List.forall_mem_nil _⟩
        refine exE rfl rfl ?_
        refine e_storeBlk (v := v67o24) rfl rfl rfl (oneCell_rdL (hS67o24x4.rowl 0 rfl)) Try.sizeOf40 (by show _ < 5; decide) (hS67o24x4.front 10 rfl) (fun H67o26 hS67o26 hxx => ?_)
        replace hS67o26 : St H0 NoB (fun b => S b ∧ b < H0.size) [blkE g11 (.cells #[v5, v8, v29, v67o24, v47] 42), rowE 25 v67o24 (topJs l (i + 1) : List Jump), (tpB v67o23 l i), (tpD v67o21 l i), (tpC v67o12 l i), (tpA v67o20 l i), (tpE v67o6 l i), rdE v5 ([0] : List Int), rdE v8 ([6] : List Int), (tpSv29 v29 l), (tpSv47 v47 l), (tpZ g1), rdE vl (l : List Int)] H67o26 := hS67o26
        refine ⟨Ext.mono hxx (labS_of 1 rfl (fun _ _ => trivial)), ?_⟩
        refine wpR_end (by kernel_rfl) ?_
        exact ⟨v67o24, y67o3, y67o9, y67o15, y67o18, a66_0, a66_2, a66_3, a66_4, (hS67o26.drop (List.Sublist.cons_cons _ (List.Sublist.cons_cons _ (List.Sublist.cons _ (List.Sublist.cons _ (List.Sublist.cons _ (List.Sublist.cons _ (List.Sublist.cons _ (List.Sublist.cons_cons _ (List.Sublist.cons_cons _ (List.Sublist.cons_cons _ (List.Sublist.cons_cons _ (List.Sublist.cons_cons _ (List.Sublist.cons_cons _ (List.Sublist.slnil)))))))))))))))⟩
      · refine exE rfl rfl ?_
        refine e_call rfl Try.call20 (arr2 (v0 := I (((tpX l i)).tdiv 26)) (v1 := I (3)) rfl rfl) (Picked (((tpX l i)).tdiv 26) 3 (by omega)) ?_
        rintro _ H67o15 ⟨hxx, rfl, y67o15⟩
        have hS67o15 : St H0 NoB (fun b => S b ∧ b < H0.size) [rowE 3 v67o6 ([1 - (2 * (pickI ((tpX l i)) 2))] : List Int), rowE 25 vo (topJs l i : List Jump), rdE v5 ([0] : List Int), rdE v8 ([6] : List Int), (tpSv29 v29 l), (tpSv47 v47 l), blkE g11 (.cells #[v5, v8, v29, vo, v47] 42), (tpZ g1), rdE vl (l : List Int)] H67o15 := hS67o9.ext hxx
        refine ⟨Ext.mono hxx (fun _ h => h.elim), ?_⟩
        refine wpR_n [12, 18] (by kernel_rfl) ?_
        refine List.forall_mem_cons.2 ⟨?_, List.forall_mem_cons.2 ⟨?_, List.forall_mem_nil _⟩⟩
        · have hS67o12 : St H0 NoB (fun b => S b ∧ b < H0.size) [(tpE v67o6 l i), rowE 25 vo (topJs l i : List Jump), rdE v5 ([0] : List Int), rdE v8 ([6] : List Int), (tpSv29 v29 l), (tpSv47 v47 l), blkE g11 (.cells #[v5, v8, v29, vo, v47] 42), (tpZ g1), rdE vl (l : List Int)] H67o15 := St.fin hS67o15
          refine exE rfl rfl ?_
          refine e_buildSlice (vs := [Value.agg #[v67o6, I (1), I ((pickI (((tpX l i)).tdiv 2) 13) - 6)]]) (xs := ([(LRow.mk ([1 - (2 * (pickI ((tpX l i)) 2))]) 1 ((pickI (((tpX l i)).tdiv 2) 13) - 6))] : List LRow)) rfl Try.underlying22 Try.zeroValue34 rfl Try.sizeOf34 (par1 (v0 := Value.agg #[v67o6, I (1), I ((pickI (((tpX l i)).tdiv 2) 13) - 6)]) rfl) rfl hS67o12 (RdVs.cons (Rd.lRow.2 ⟨_, rfl, (hS67o12.rdS 0 rfl), (by first | assumption | (constructor <;> (dsimp only; omega)) | (constructor <;> omega)), (by first | assumption | (constructor <;> (dsimp only; omega)) | (constructor <;> omega))⟩) (RdVs.nil)) (by decide) (by decide) (fun v67o12 H67o12 hS67o12x2 hxx hvv67o12 => ?_)
          replace hS67o12x2 : St H0 NoB (fun b => S b ∧ b < H0.size) [rowE 34 v67o12 ([(LRow.mk ([1 - (2 * (pickI ((tpX l i)) 2))]) 1 ((pickI (((tpX l i)).tdiv 2) 13) - 6))] : List LRow), (tpE v67o6 l i), rowE 25 vo (topJs l i : List Jump), rdE v5 ([0] : List Int), rdE v8 ([6] : List Int), (tpSv29 v29 l), (tpSv47 v47 l), blkE g11 (.cells #[v5, v8, v29, vo, v47] 42), (tpZ g1), rdE vl (l : List Int)] H67o12 := hS67o12x2
          refine ⟨Ext.mono hxx (fun _ h => h.elim), ?_⟩
          refine wpR_n [18] (by kernel_rfl) ?_
          refine List.forall_mem_cons.2 ⟨?_, List.forall_mem_nil _⟩
          refine exE rfl rfl ?_
          refine e_call rfl Try.call20 (arr2 (v0 := I (((tpX l i)).tdiv 78)) (v1 := I (9)) rfl rfl) (Picked (((tpX l i)).tdiv 78) 9 (by omega)) ?_
          rintro _ H67o18 ⟨hxx, rfl, y67o18⟩
          have hS67o18 : St H0 NoB (fun b => S b ∧ b < H0.size) [rowE 34 v67o12 ([(LRow.mk ([1 - (2 * (pickI ((tpX l i)) 2))]) 1 ((pickI (((tpX l i)).tdiv 2) 13) - 6))] : List LRow), (tpE v67o6 l i), rowE 25 vo (topJs l i : List Jump), rdE v5 ([0] : List Int), rdE v8 ([6] : List Int), (tpSv29 v29 l), (tpSv47 v47 l), blkE g11 (.cells #[v5, v8, v29, vo, v47] 42), (tpZ g1), rdE vl (l : List Int)] H67o18 := hS67o12x2.ext hxx
          refine ⟨Ext.mono hxx (fun _ h => h.elim), ?_⟩
          refine wpR_q 19 (by kernel_rfl) rfl (quietAt rfl rfl (q_sub rfl rfl rfl (by constructor <;> omega))) ?_
          refine wpR_n [20] (by kernel_rfl) ?_
          refine List.forall_mem_cons.2 ⟨?_, List.forall_mem_nil _⟩
          refine exE rfl rfl ?_
          refine e_buildSlice (vs := [I (pickI (((tpX l i)).tdiv 26) 3), I ((pickI (((tpX l i)).tdiv 78) 9) - 4)]) (xs := ([pickI (((tpX l i)).tdiv 26) 3, (pickI (((tpX l i)).tdiv 78) 9) - 4] : List Int)) rfl Try.underlying32 Try.zeroValue3 rfl Try.sizeOf3 (par2 (v0 := I (pickI (((tpX l i)).tdiv 26) 3)) (v1 := I ((pickI (((tpX l i)).tdiv 78) 9) - 4)) rfl rfl) rfl hS67o18 (RdVs.cons (Rd.int.2 ⟨rfl, by constructor <;> omega⟩) (RdVs.cons (Rd.int.2 ⟨rfl, by constructor <;> omega⟩) (RdVs.nil))) (by decide) (by decide) (fun v67o20 H67o20 hS67o20 hxx hvv67o20 => ?_)
          replace hS67o20 : St H0 NoB (fun b => S b ∧ b < H0.size) [rowE 3 v67o20 ([pickI (((tpX l i)).tdiv 26) 3, (pickI (((tpX l i)).tdiv 78) 9) - 4] : List Int), rowE 34 v67o12 ([(LRow.mk ([1 - (2 * (pickI ((tpX l i)) 2))]) 1 ((pickI (((tpX l i)).tdiv 2) 13) - 6))] : List LRow), (tpE v67o6 l i), rowE 25 vo (topJs l i : List Jump), rdE v5 ([0] : List Int), rdE v8 ([6] : List Int), (tpSv29 v29 l), (tpSv47 v47 l), blkE g11 (.cells #[v5, v8, v29, vo, v47] 42), (tpZ g1), rdE vl (l : List Int)] H67o20 := hS67o20
          refine ⟨Ext.mono hxx (fun _ h => h.elim), ?_⟩
          refine wpR_n [21] (by kernel_rfl) ?_
          refine List.forall_mem_cons.2 ⟨?_, List.forall_mem_nil _⟩
          have hS67o21 : St H0 NoB (fun b => S b ∧ b < H0.size) [(tpA v67o20 l i), rowE 34 v67o12 ([(LRow.mk ([1 - (2 * (pickI ((tpX l i)) 2))]) 1 ((pickI (((tpX l i)).tdiv 2) 13) - 6))] : List LRow), (tpE v67o6 l i), rowE 25 vo (topJs l i : List Jump), rdE v5 ([0] : List Int), rdE v8 ([6] : List Int), (tpSv29 v29 l), (tpSv47 v47 l), blkE g11 (.cells #[v5, v8, v29, vo, v47] 42), (tpZ g1), rdE vl (l : List Int)] H67o20 := St.fin hS67o20
          refine exE rfl rfl ?_
          refine e_buildSlice (vs := [v67o20]) (xs := ([[pickI (((tpX l i)).tdiv 26) 3, (pickI (((tpX l i)).tdiv 78) 9) - 4]] : List (List Int))) rfl Try.underlying23 Try.zeroValue32 rfl Try.sizeOf32 (par1 (v0 := v67o20) rfl) rfl hS67o21 (RdVs.cons (hS67o21.rdS 0 rfl) (RdVs.nil)) (by decide) (by decide) (fun v67o21 H67o21 hS67o21x2 hxx hvv67o21 => ?_)
          replace hS67o21x2 : St H0 NoB (fun b => S b ∧ b < H0.size) [rowE 32 v67o21 ([[pickI (((tpX l i)).tdiv 26) 3, (pickI (((tpX l i)).tdiv 78) 9) - 4]] : List (List Int)), (tpA v67o20 l i), rowE 34 v67o12 ([(LRow.mk ([1 - (2 * (pickI ((tpX l i)) 2))]) 1 ((pickI (((tpX l i)).tdiv 2) 13) - 6))] : List LRow), (tpE v67o6 l i), rowE 25 vo (topJs l i : List Jump), rdE v5 ([0] : List Int), rdE v8 ([6] : List Int), (tpSv29 v29 l), (tpSv47 v47 l), blkE g11 (.cells #[v5, v8, v29, vo, v47] 42), (tpZ g1), rdE vl (l : List Int)] H67o21 := hS67o21x2
          refine ⟨Ext.mono hxx (fun _ h => h.elim), ?_⟩
          refine wpR_q 22 (by kernel_rfl) rfl (quietAt rfl rfl (q_build (v := Value.agg #[v67o12, v67o21]) rfl (par2 (v0 := v67o12) (v1 := v67o21) rfl rfl) ((hS67o21x2.rowl 2 rfl).slc (fun zz0 => ∀ w, (Instr.build 25 #[(0, zz0), (1, v67o21)]).run Try.prog w = .ok (Value.agg #[zz0, v67o21]) w) (fun a0 n0 c0 => ((hS67o21x2.rowl 0 rfl).slc (fun zz1 => ∀ w, (Instr.build 25 #[(0, (.slice a0 n0 c0)), (1, zz1)]).run Try.prog w = .ok (Value.agg #[(.slice a0 n0 c0), zz1]) w) (fun a1 n1 c1 => (fun w => by kernel_rfl))))))) ?_
          refine wpR_n [23] (by kernel_rfl) ?_
          refine List.forall_mem_cons.2 ⟨?_, List.forall_mem_nil _⟩
          have hS67o23 : St H0 NoB (fun b => S b ∧ b < H0.size) [(tpC v67o12 l i), rowE 32 v67o21 ([[pickI (((tpX l i)).tdiv 26) 3, (pickI (((tpX l i)).tdiv 78) 9) - 4]] : List (List Int)), (tpA v67o20 l i), (tpE v67o6 l i), rowE 25 vo (topJs l i : List Jump), rdE v5 ([0] : List Int), rdE v8 ([6] : List Int), (tpSv29 v29 l), (tpSv47 v47 l), blkE g11 (.cells #[v5, v8, v29, vo, v47] 42), (tpZ g1), rdE vl (l : List Int)] H67o21 := St.fin (hS67o21x2.front 2 rfl)
          have hS67o23x2 : St H0 NoB (fun b => S b ∧ b < H0.size) [(tpD v67o21 l i), (tpC v67o12 l i), (tpA v67o20 l i), (tpE v67o6 l i), rowE 25 vo (topJs l i : List Jump), rdE v5 ([0] : List Int), rdE v8 ([6] : List Int), (tpSv29 v29 l), (tpSv47 v47 l), blkE g11 (.cells #[v5, v8, v29, vo, v47] 42), (tpZ g1), rdE vl (l : List Int)] H67o21 := St.fin (hS67o23.front 1 rfl)
          refine exE rfl rfl ?_
          refine e_buildSlice (vs := [Value.agg #[v67o12, v67o21]]) (xs := ([(Jump.mk ([(LRow.mk ([1 - (2 * (pickI ((tpX l i)) 2))]) 1 ((pickI (((tpX l i)).tdiv 2) 13) - 6))]) ([[pickI (((tpX l i)).tdiv 26) 3, (pickI (((tpX l i)).tdiv 78) 9) - 4]]))] : List Jump)) rfl Try.underlying40 Try.zeroValue25 rfl Try.sizeOf25 (par1 (v0 := Value.agg #[v67o12, v67o21]) rfl) rfl hS67o23x2 (RdVs.cons (Rd.jump.2 ⟨_, _, rfl, (hS67o23x2.rdS 1 rfl), (hS67o23x2.rdS 0 rfl)⟩) (RdVs.nil)) (by decide) (by decide) (fun v67o23 H67o23 hS67o23x3 hxx hvv67o23 => ?_)
          replace hS67o23x3 : St H0 NoB (fun b => S b ∧ b < H0.size) [rowE 25 v67o23 ([(Jump.mk ([(LRow.mk ([1 - (2 * (pickI ((tpX l i)) 2))]) 1 ((pickI (((tpX l i)).tdiv 2) 13) - 6))]) ([[pickI (((tpX l i)).tdiv 26) 3, (pickI (((tpX l i)).tdiv 78) 9) - 4]]))] : List Jump), (tpD v67o21 l i), (tpC v67o12 l i), (tpA v67o20 l i), (tpE v67o6 l i), rowE 25 vo (topJs l i : List Jump), rdE v5 ([0] : List Int), rdE v8 ([6] : List Int), (tpSv29 v29 l), (tpSv47 v47 l), blkE g11 (.cells #[v5, v8, v29, vo, v47] 42), (tpZ g1), rdE vl (l : List Int)] H67o23 := hS67o23x3
          refine ⟨Ext.mono hxx (fun _ h => h.elim), ?_⟩
          refine wpR_n [24] (by kernel_rfl) ?_
          refine List.forall_mem_cons.2 ⟨?_, List.forall_mem_nil _⟩
          have hS67o24 : St H0 NoB (fun b => S b ∧ b < H0.size) [(tpB v67o23 l i), (tpD v67o21 l i), (tpC v67o12 l i), (tpA v67o20 l i), (tpE v67o6 l i), rowE 25 vo (topJs l i : List Jump), rdE v5 ([0] : List Int), rdE v8 ([6] : List Int), (tpSv29 v29 l), (tpSv47 v47 l), blkE g11 (.cells #[v5, v8, v29, vo, v47] 42), (tpZ g1), rdE vl (l : List Int)] H67o23 := St.fin hS67o23x3
          have hS67o24x2 : St H0 NoB (fun b => S b ∧ b < H0.size) [rowE 25 vo (topJs l i : List Jump), (tpB v67o23 l i), (tpD v67o21 l i), (tpC v67o12 l i), (tpA v67o20 l i), (tpE v67o6 l i), rdE v5 ([0] : List Int), rdE v8 ([6] : List Int), (tpSv29 v29 l), (tpSv47 v47 l), blkE g11 (.cells #[v5, v8, v29, vo, v47] 42), (tpZ g1), rdE vl (l : List Int)] H67o23 := (hS67o24.front 5 rfl)
          refine exE rfl rfl ?_
          refine e_append rfl Try.underlying40 em_Jump_25_TopL1 rfl rfl hS67o24x2 (hS67o24x2.rdS 1 rfl) (fun _ h => h) (by have hb : GoT.bytes Jump = 48 := rfl; have hbl : (topJs l i).length = i := (by simp [topJs]); simp [hb, hbl]; omega) (by decide) (fun v67o24 H67o24 hS67o24x3 hxx => ?_)
          replace hS67o24x3 : St H0 NoB (fun b => S b ∧ b < H0.size) [rowE 25 v67o24 ((topJs l i) ++ ([(Jump.mk ([(LRow.mk ([1 - (2 * (pickI ((tpX l i)) 2))]) 1 ((pickI (((tpX l i)).tdiv 2) 13) - 6))]) ([[pickI (((tpX l i)).tdiv 26) 3, (pickI (((tpX l i)).tdiv 78) 9) - 4]]))]) : List Jump), (tpB v67o23 l i), (tpD v67o21 l i), (tpC v67o12 l i), (tpA v67o20 l i), (tpE v67o6 l i), rdE v5 ([0] : List Int), rdE v8 ([6] : List Int), (tpSv29 v29 l), (tpSv47 v47 l), blkE g11 (.cells #[v5, v8, v29, vo, v47] 42), (tpZ g1), rdE vl (l : List Int)] H67o24 := hS67o24x3
          have hS67o24x4 : St H0 NoB (fun b => S b ∧ b < H0.size) [rowE 25 v67o24 (topJs l (i + 1) : List Jump), (tpB v67o23 l i), (tpD v67o21 l i), (tpC v67o12 l i), (tpA v67o20 l i), (tpE v67o6 l i), rdE v5 ([0] : List Int), rdE v8 ([6] : List Int), (tpSv29 v29 l), (tpSv47 v47 l), blkE g11 (.cells #[v5, v8, v29, vo, v47] 42), (tpZ g1), rdE vl (l : List Int)] H67o24 := by rw [show (topJs l (i + 1)) = ((topJs l i) ++ ([(Jump.mk ([(LRow.mk ([1 - (2 * (pickI ((tpX l i)) 2))]) 1 ((pickI (((tpX l i)).tdiv 2) 13) - 6))]) ([[pickI (((tpX l i)).tdiv 26) 3, (pickI (((tpX l i)).tdiv 78) 9) - 4]]))])) from (by rw [topJs_next]; rfl)]; exact hS67o24x3
          refine ⟨Ext.mono hxx (labS_of 0 rfl (fun _ _ => trivial)), ?_⟩
          refine wpR_q 25 (by kernel_rfl) rfl (quietAt rfl rfl (q_fieldAddr rfl Try.underlying42 rfl Try.sizeOf40 a66_3)) ?_
          refine wpR_n [26] (by kernel_rfl) ?_
          refine List.forall_mem_cons.2 ⟨?_, List.forall_mem_nil _⟩
          refine exE rfl rfl ?_
          refine e_storeBlk (v := v67o24) rfl rfl rfl (oneCell_rdL (hS67o24x4.rowl 0 rfl)) Try.sizeOf40 (by show _ < 5; decide) (hS67o24x4.front 10 rfl) (fun H67o26 hS67o26 hxx => ?_)
          replace hS67o26 : St H0 NoB (fun b => S b ∧ b < H0.size) [blkE g11 (.cells #[v5, v8, v29, v67o24, v47] 42), rowE 25 v67o24 (topJs l (i + 1) : List Jump), (tpB v67o23 l i), (tpD v67o21 l i), (tpC v67o12 l i), (tpA v67o20 l i), (tpE v67o6 l i), rdE v5 ([0] : List Int), rdE v8 ([6] : List Int), (tpSv29 v29 l), (tpSv47 v47 l), (tpZ g1), rdE vl (l : List Int)] H67o26 := hS67o26
          refine ⟨Ext.mono hxx (labS_of 1 rfl (fun _ _ => trivial)), ?_⟩
          refine wpR_end (by kernel_rfl) ?_
          exact ⟨v67o24, y67o3, y67o9, y67o15, y67o18, a66_0, a66_2, a66_3, a66_4, (hS67o26.drop (List.Sublist.cons_cons _ (List.Sublist.cons_cons _ (List.Sublist.cons _ (List.Sublist.cons _ (List.Sublist.cons _ (List.Sublist.cons _ (List.Sublist.cons _ (List.Sublist.cons_cons _ (List.Sublist.cons_cons _ (List.Sublist.cons_cons _ (List.Sublist.cons_cons _ (List.Sublist.cons_cons _ (List.Sublist.cons_cons _ (List.Sublist.slnil)))))))))))))))⟩
        · refine exE rfl rfl ?_
          refine e_call rfl Try.call20 (arr2 (v0 := I (((tpX l i)).tdiv 78)) (v1 := I (9)) rfl rfl) (Picked (((tpX l i)).tdiv 78) 9 (by omega)) ?_
          rintro _ H67o18 ⟨hxx, rfl, y67o18⟩
          have hS67o18 : St H0 NoB (fun b => S b ∧ b < H0.size) [rowE 3 v67o6 ([1 - (2 * (pickI ((tpX l i)) 2))] : List Int), rowE 25 vo (topJs l i : List Jump), rdE v5 ([0] : List Int), rdE v8 ([6] : List Int), (tpSv29 v29 l), (tpSv47 v47 l), blkE g11 (.cells #[v5, v8, v29, vo, v47] 42), (tpZ g1), rdE vl (l : List Int)] H67o18 := hS67o15.ext hxx
          refine ⟨Ext.mono hxx (fun _ h => h.elim), ?_⟩
          refine wpR_q 19 (by kernel_rfl) rfl (quietAt rfl rfl (q_sub rfl rfl rfl (by constructor <;> omega))) ?_
          refine wpR_n [12, 20] (by kernel_rfl) ?_
          refine List.forall_mem_cons.2 ⟨?_, List.forall_mem_cons.2 ⟨?_, List.forall_mem_nil _⟩⟩
          · have hS67o12 : St H0 NoB (fun b => S b ∧ b < H0.size) [(tpE v67o6 l i), rowE 25 vo (topJs l i : List Jump), rdE v5 ([0] : List Int), rdE v8 ([6] : List Int), (tpSv29 v29 l), (tpSv47 v47 l), blkE g11 (.cells #[v5, v8, v29, vo, v47] 42), (tpZ g1), rdE vl (l : List Int)] H67o18 := St.fin hS67o18
            refine exE rfl rfl ?_
            refine e_buildSlice (vs := [Value.agg #[v67o6, I (1), I ((pickI (((tpX l i)).tdiv 2) 13) - 6)]]) (xs := ([(LRow.mk ([1 - (2 * (pickI ((tpX l i)) 2))]) 1 ((pickI (((tpX l i)).tdiv 2) 13) - 6))] : List LRow)) rfl Try.underlying22 Try.zeroValue34 rfl Try.sizeOf34 (par1 (v0 := Value.agg #[v67o6, I (1), I ((pickI (((tpX l i)).tdiv 2) 13) - 6)]) rfl) rfl hS67o12 (RdVs.cons (Rd.lRow.2 ⟨_, rfl, (hS67o12.rdS 0 rfl), (by first | assumption | (constructor <;> (dsimp only; omega)) | (constructor <;> omega)), (by first | assumption | (constructor <;> (dsimp only; omega)) | (constructor <;> omega))⟩) (RdVs.nil)) (by decide) (by decide) (fun v67o12 H67o12 hS67o12x2 hxx hvv67o12 => ?_)
            replace hS67o12x2 : St H0 NoB (fun b => S b ∧ b < H0.size) [rowE 34 v67o12 ([(LRow.mk ([1 - (2 * (pickI ((tpX l i)) 2))]) 1 ((pickI (((tpX l i)).tdiv 2) 13) - 6))] : List LRow), (tpE v67o6 l i), rowE 25 vo (topJs l i : List Jump), rdE v5 ([0] : List Int), rdE v8 ([6] : List Int), (tpSv29 v29 l), (tpSv47 v47 l), blkE g11 (.cells #[v5, v8, v29, vo, v47] 42), (tpZ g1), rdE vl (l : List Int)] H67o12 := hS67o12x2
            refine ⟨Ext.mono hxx (fun _ h => h.elim), ?_⟩
            refine wpR_n [20] (by kernel_rfl) ?_
            refine List.forall_mem_cons.2 ⟨?_, List.forall_mem_nil _⟩
            refine exE rfl rfl ?_
            refine e_buildSlice (vs := [I (pickI (((tpX l i)).tdiv 26) 3), I ((pickI (((tpX l i)).tdiv 78) 9) - 4)]) (xs := ([pickI (((tpX l i)).tdiv 26) 3, (pickI (((tpX l i)).tdiv 78) 9) - 4] : List Int)) rfl Try.underlying32 Try.zeroValue3 rfl Try.sizeOf3 (par2 (v0 := I (pickI (((tpX l i)).tdiv 26) 3)) (v1 := I ((pickI (((tpX l i)).tdiv 78) 9) - 4)) rfl rfl) rfl hS67o12x2 (RdVs.cons (Rd.int.2 ⟨rfl, by constructor <;> omega⟩) (RdVs.cons (Rd.int.2 ⟨rfl, by constructor <;> omega⟩) (RdVs.nil))) (by decide) (by decide) (fun v67o20 H67o20 hS67o20 hxx hvv67o20 => ?_)
            replace hS67o20 : St H0 NoB (fun b => S b ∧ b < H0.size) [rowE 3 v67o20 ([pickI (((tpX l i)).tdiv 26) 3, (pickI (((tpX l i)).tdiv 78) 9) - 4] : List Int), rowE 34 v67o12 ([(LRow.mk ([1 - (2 * (pickI ((tpX l i)) 2))]) 1 ((pickI (((tpX l i)).tdiv 2) 13) - 6))] : List LRow), (tpE v67o6 l i), rowE 25 vo (topJs l i : List Jump), rdE v5 ([0] : List Int), rdE v8 ([6] : List Int), (tpSv29 v29 l), (tpSv47 v47 l), blkE g11 (.cells #[v5, v8, v29, vo, v47] 42), (tpZ g1), rdE vl (l : List Int)] H67o20 := hS67o20
            refine ⟨Ext.mono hxx (fun _ h => h.elim), ?_⟩
            refine wpR_n [21] (by kernel_rfl) ?_
            refine List.forall_mem_cons.2 ⟨?_, List.forall_mem_nil _⟩
            have hS67o21 : St H0 NoB (fun b => S b ∧ b < H0.size) [(tpA v67o20 l i), rowE 34 v67o12 ([(LRow.mk ([1 - (2 * (pickI ((tpX l i)) 2))]) 1 ((pickI (((tpX l i)).tdiv 2) 13) - 6))] : List LRow), (tpE v67o6 l i), rowE 25 vo (topJs l i : List Jump), rdE v5 ([0] : List Int), rdE v8 ([6] : List Int), (tpSv29 v29 l), (tpSv47 v47 l), blkE g11 (.cells #[v5, v8, v29, vo, v47] 42), (tpZ g1), rdE vl (l : List Int)] H67o20 := St.fin hS67o20
            refine exE rfl rfl ?_
            refine e_buildSlice (vs := [v67o20]) (xs := ([[pickI (((tpX l i)).tdiv 26) 3, (pickI (((tpX l i)).tdiv 78) 9) - 4]] : List (List Int))) rfl Try.underlying23 Try.zeroValue32 rfl Try.sizeOf32 (par1 (v0 := v67o20) rfl) rfl hS67o21 (RdVs.cons (hS67o21.rdS 0 rfl) (RdVs.nil)) (by decide) (by decide) (fun v67o21 H67o21 hS67o21x2 hxx hvv67o21 => ?_)
            replace hS67o21x2 : St H0 NoB (fun b => S b ∧ b < H0.size) [rowE 32 v67o21 ([[pickI (((tpX l i)).tdiv 26) 3, (pickI (((tpX l i)).tdiv 78) 9) - 4]] : List (List Int)), (tpA v67o20 l i), rowE 34 v67o12 ([(LRow.mk ([1 - (2 * (pickI ((tpX l i)) 2))]) 1 ((pickI (((tpX l i)).tdiv 2) 13) - 6))] : List LRow), (tpE v67o6 l i), rowE 25 vo (topJs l i : List Jump), rdE v5 ([0] : List Int), rdE v8 ([6] : List Int), (tpSv29 v29 l), (tpSv47 v47 l), blkE g11 (.cells #[v5, v8, v29, vo, v47] 42), (tpZ g1), rdE vl (l : List Int)] H67o21 := hS67o21x2
            refine ⟨Ext.mono hxx (fun _ h => h.elim), ?_⟩
            refine wpR_q 22 (by kernel_rfl) rfl (quietAt rfl rfl (q_build (v := Value.agg #[v67o12, v67o21]) rfl (par2 (v0 := v67o12) (v1 := v67o21) rfl rfl) ((hS67o21x2.rowl 2 rfl).slc (fun zz0 => ∀ w, (Instr.build 25 #[(0, zz0), (1, v67o21)]).run Try.prog w = .ok (Value.agg #[zz0, v67o21]) w) (fun a0 n0 c0 => ((hS67o21x2.rowl 0 rfl).slc (fun zz1 => ∀ w, (Instr.build 25 #[(0, (.slice a0 n0 c0)), (1, zz1)]).run Try.prog w = .ok (Value.agg #[(.slice a0 n0 c0), zz1]) w) (fun a1 n1 c1 => (fun w => by kernel_rfl))))))) ?_
            refine wpR_n [23] (by kernel_rfl) ?_
            refine List.forall_mem_cons.2 ⟨?_, List.forall_mem_nil _⟩
            have hS67o23 : St H0 NoB (fun b => S b ∧ b < H0.size) [(tpC v67o12 l i), rowE 32 v67o21 ([[pickI (((tpX l i)).tdiv 26) 3, (pickI (((tpX l i)).tdiv 78) 9) - 4]] : List (List Int)), (tpA v67o20 l i), (tpE v67o6 l i), rowE 25 vo (topJs l i : List Jump), rdE v5 ([0] : List Int), rdE v8 ([6] : List Int), (tpSv29 v29 l), (tpSv47 v47 l), blkE g11 (.cells #[v5, v8, v29, vo, v47] 42), (tpZ g1), rdE vl (l : List Int)] H67o21 := St.fin (hS67o21x2.front 2 rfl)
            have hS67o23x2 : St H0 NoB (fun b => S b ∧ b < H0.size) [(tpD v67o21 l i), (tpC v67o12 l i), (tpA v67o20 l i), (tpE v67o6 l i), rowE 25 vo (topJs l i : List Jump), rdE v5 ([0] : List Int), rdE v8 ([6] : List Int), (tpSv29 v29 l), (tpSv47 v47 l), blkE g11 (.cells #[v5, v8, v29, vo, v47] 42), (tpZ g1), rdE vl (l : List Int)] H67o21 := St.fin (hS67o23.front 1 rfl)
            refine exE rfl rfl ?_
            refine e_buildSlice (vs := [Value.agg #[v67o12, v67o21]]) (xs := ([(Jump.mk ([(LRow.mk ([1 - (2 * (pickI ((tpX l i)) 2))]) 1 ((pickI (((tpX l i)).tdiv 2) 13) - 6))]) ([[pickI (((tpX l i)).tdiv 26) 3, (pickI (((tpX l i)).tdiv 78) 9) - 4]]))] : List Jump)) rfl Try.underlying40 Try.zeroValue25 rfl Try.sizeOf25 (par1 (v0 := Value.agg #[v67o12, v67o21]) rfl) rfl hS67o23x2 (RdVs.cons (Rd.jump.2 ⟨_, _, rfl, (hS67o23x2.rdS 1 rfl), (hS67o23x2.rdS 0 rfl)⟩) (RdVs.nil)) (by decide) (by decide) (fun v67o23 H67o23 hS67o23x3 hxx hvv67o23 => ?_)
            replace hS67o23x3 : St H0 NoB (fun b => S b ∧ b < H0.size) [rowE 25 v67o23 ([(Jump.mk ([(LRow.mk ([1 - (2 * (pickI ((tpX l i)) 2))]) 1 ((pickI (((tpX l i)).tdiv 2) 13) - 6))]) ([[pickI (((tpX l i)).tdiv 26) 3, (pickI (((tpX l i)).tdiv 78) 9) - 4]]))] : List Jump), (tpD v67o21 l i), (tpC v67o12 l i), (tpA v67o20 l i), (tpE v67o6 l i), rowE 25 vo (topJs l i : List Jump), rdE v5 ([0] : List Int), rdE v8 ([6] : List Int), (tpSv29 v29 l), (tpSv47 v47 l), blkE g11 (.cells #[v5, v8, v29, vo, v47] 42), (tpZ g1), rdE vl (l : List Int)] H67o23 := hS67o23x3
            refine ⟨Ext.mono hxx (fun _ h => h.elim), ?_⟩
            refine wpR_n [24] (by kernel_rfl) ?_
            refine List.forall_mem_cons.2 ⟨?_, List.forall_mem_nil _⟩
            have hS67o24 : St H0 NoB (fun b => S b ∧ b < H0.size) [(tpB v67o23 l i), (tpD v67o21 l i), (tpC v67o12 l i), (tpA v67o20 l i), (tpE v67o6 l i), rowE 25 vo (topJs l i : List Jump), rdE v5 ([0] : List Int), rdE v8 ([6] : List Int), (tpSv29 v29 l), (tpSv47 v47 l), blkE g11 (.cells #[v5, v8, v29, vo, v47] 42), (tpZ g1), rdE vl (l : List Int)] H67o23 := St.fin hS67o23x3
            have hS67o24x2 : St H0 NoB (fun b => S b ∧ b < H0.size) [rowE 25 vo (topJs l i : List Jump), (tpB v67o23 l i), (tpD v67o21 l i), (tpC v67o12 l i), (tpA v67o20 l i), (tpE v67o6 l i), rdE v5 ([0] : List Int), rdE v8 ([6] : List Int), (tpSv29 v29 l), (tpSv47 v47 l), blkE g11 (.cells #[v5, v8, v29, vo, v47] 42), (tpZ g1), rdE vl (l : List Int)] H67o23 := (hS67o24.front 5 rfl)
            refine exE rfl rfl ?_
            refine e_append rfl Try.underlying40 em_Jump_25_TopL1 rfl rfl hS67o24x2 (hS67o24x2.rdS 1 rfl) (fun _ h => h) (by have hb : GoT.bytes Jump = 48 := rfl; have hbl : (topJs l i).length = i := (by simp [topJs]); simp [hb, hbl]; omega) (by decide) (fun v67o24 H67o24 hS67o24x3 hxx => ?_)
            replace hS67o24x3 : St H0 NoB (fun b => S b ∧ b < H0.size) [rowE 25 v67o24 ((topJs l i) ++ ([(Jump.mk ([(LRow.mk ([1 - (2 * (pickI ((tpX l i)) 2))]) 1 ((pickI (((tpX l i)).tdiv 2) 13) - 6))]) ([[pickI (((tpX l i)).tdiv 26) 3, (pickI (((tpX l i)).tdiv 78) 9) - 4]]))]) : List Jump), (tpB v67o23 l i), (tpD v67o21 l i), (tpC v67o12 l i), (tpA v67o20 l i), (tpE v67o6 l i), rdE v5 ([0] : List Int), rdE v8 ([6] : List Int), (tpSv29 v29 l), (tpSv47 v47 l), blkE g11 (.cells #[v5, v8, v29, vo, v47] 42), (tpZ g1), rdE vl (l : List Int)] H67o24 := hS67o24x3
            have hS67o24x4 : St H0 NoB (fun b => S b ∧ b < H0.size) [rowE 25 v67o24 (topJs l (i + 1) : List Jump), (tpB v67o23 l i), (tpD v67o21 l i), (tpC v67o12 l i), (tpA v67o20 l i), (tpE v67o6 l i), rdE v5 ([0] : List Int), rdE v8 ([6] : List Int), (tpSv29 v29 l), (tpSv47 v47 l), blkE g11 (.cells #[v5, v8, v29, vo, v47] 42), (tpZ g1), rdE vl (l : List Int)] H67o24 := by rw [show (topJs l (i + 1)) = ((topJs l i) ++ ([(Jump.mk ([(LRow.mk ([1 - (2 * (pickI ((tpX l i)) 2))]) 1 ((pickI (((tpX l i)).tdiv 2) 13) - 6))]) ([[pickI (((tpX l i)).tdiv 26) 3, (pickI (((tpX l i)).tdiv 78) 9) - 4]]))])) from (by rw [topJs_next]; rfl)]; exact hS67o24x3
            refine ⟨Ext.mono hxx (labS_of 0 rfl (fun _ _ => trivial)), ?_⟩
            refine wpR_q 25 (by kernel_rfl) rfl (quietAt rfl rfl (q_fieldAddr rfl Try.underlying42 rfl Try.sizeOf40 a66_3)) ?_
            refine wpR_n [26] (by kernel_rfl) ?_
            refine List.forall_mem_cons.2 ⟨?_, List.forall_mem_nil _⟩
            refine exE rfl rfl ?_
            refine e_storeBlk (v := v67o24) rfl rfl rfl (oneCell_rdL (hS67o24x4.rowl 0 rfl)) Try.sizeOf40 (by show _ < 5; decide) (hS67o24x4.front 10 rfl) (fun H67o26 hS67o26 hxx => ?_)
            replace hS67o26 : St H0 NoB (fun b => S b ∧ b < H0.size) [blkE g11 (.cells #[v5, v8, v29, v67o24, v47] 42), rowE 25 v67o24 (topJs l (i + 1) : List Jump), (tpB v67o23 l i), (tpD v67o21 l i), (tpC v67o12 l i), (tpA v67o20 l i), (tpE v67o6 l i), rdE v5 ([0] : List Int), rdE v8 ([6] : List Int), (tpSv29 v29 l), (tpSv47 v47 l), (tpZ g1), rdE vl (l : List Int)] H67o26 := hS67o26
            refine ⟨Ext.mono hxx (labS_of 1 rfl (fun _ _ => trivial)), ?_⟩
            refine wpR_end (by kernel_rfl) ?_
            exact ⟨v67o24, y67o3, y67o9, y67o15, y67o18, a66_0, a66_2, a66_3, a66_4, (hS67o26.drop (List.Sublist.cons_cons _ (List.Sublist.cons_cons _ (List.Sublist.cons _ (List.Sublist.cons _ (List.Sublist.cons _ (List.Sublist.cons _ (List.Sublist.cons _ (List.Sublist.cons_cons _ (List.Sublist.cons_cons _ (List.Sublist.cons_cons _ (List.Sublist.cons_cons _ (List.Sublist.cons_cons _ (List.Sublist.cons_cons _ (List.Sublist.slnil)))))))))))))))⟩
          · refine exE rfl rfl ?_
            refine e_buildSlice (vs := [I (pickI (((tpX l i)).tdiv 26) 3), I ((pickI (((tpX l i)).tdiv 78) 9) - 4)]) (xs := ([pickI (((tpX l i)).tdiv 26) 3, (pickI (((tpX l i)).tdiv 78) 9) - 4] : List Int)) rfl Try.underlying32 Try.zeroValue3 rfl Try.sizeOf3 (par2 (v0 := I (pickI (((tpX l i)).tdiv 26) 3)) (v1 := I ((pickI (((tpX l i)).tdiv 78) 9) - 4)) rfl rfl) rfl hS67o18 (RdVs.cons (Rd.int.2 ⟨rfl, by constructor <;> omega⟩) (RdVs.cons (Rd.int.2 ⟨rfl, by constructor <;> omega⟩) (RdVs.nil))) (by decide) (by decide) (fun v67o20 H67o20 hS67o20 hxx hvv67o20 => ?_)
            replace hS67o20 : St H0 NoB (fun b => S b ∧ b < H0.size) [rowE 3 v67o20 ([pickI (((tpX l i)).tdiv 26) 3, (pickI (((tpX l i)).tdiv 78) 9) - 4] : List Int), rowE 3 v67o6 ([1 - (2 * (pickI ((tpX l i)) 2))] : List Int), rowE 25 vo (topJs l i : List Jump), rdE v5 ([0] : List Int), rdE v8 ([6] : List Int), (tpSv29 v29 l), (tpSv47 v47 l), blkE g11 (.cells #[v5, v8, v29, vo, v47] 42), (tpZ g1), rdE vl (l : List Int)] H67o20 := hS67o20
            refine ⟨Ext.mono hxx (fun _ h => h.elim), ?_⟩
            refine wpR_n [12, 21] (by kernel_rfl) ?_
            refine List.forall_mem_cons.2 ⟨?_, List.forall_mem_cons.2 ⟨?_, List.forall_mem_nil _⟩⟩
            · have hS67o12 : St H0 NoB (fun b => S b ∧ b < H0.size) [(tpE v67o6 l i), rowE 3 v67o20 ([pickI (((tpX l i)).tdiv 26) 3, (pickI (((tpX l i)).tdiv 78) 9) - 4] : List Int), rowE 25 vo (topJs l i : List Jump), rdE v5 ([0] : List Int), rdE v8 ([6] : List Int), (tpSv29 v29 l), (tpSv47 v47 l), blkE g11 (.cells #[v5, v8, v29, vo, v47] 42), (tpZ g1), rdE vl (l : List Int)] H67o20 := St.fin (hS67o20.front 1 rfl)
              refine exE rfl rfl ?_
              refine e_buildSlice (vs := [Value.agg #[v67o6, I (1), I ((pickI (((tpX l i)).tdiv 2) 13) - 6)]]) (xs := ([(LRow.mk ([1 - (2 * (pickI ((tpX l i)) 2))]) 1 ((pickI (((tpX l i)).tdiv 2) 13) - 6))] : List LRow)) rfl Try.underlying22 Try.zeroValue34 rfl Try.sizeOf34 (par1 (v0 := Value.agg #[v67o6, I (1), I ((pickI (((tpX l i)).tdiv 2) 13) - 6)]) rfl) rfl hS67o12 (RdVs.cons (Rd.lRow.2 ⟨_, rfl, (hS67o12.rdS 0 rfl), (by first | assumption | (constructor <;> (dsimp only; omega)) | (constructor <;> omega)), (by first | assumption | (constructor <;> (dsimp only; omega)) | (constructor <;> omega))⟩) (RdVs.nil)) (by decide) (by decide) (fun v67o12 H67o12 hS67o12x2 hxx hvv67o12 => ?_)
              replace hS67o12x2 : St H0 NoB (fun b => S b ∧ b < H0.size) [rowE 34 v67o12 ([(LRow.mk ([1 - (2 * (pickI ((tpX l i)) 2))]) 1 ((pickI (((tpX l i)).tdiv 2) 13) - 6))] : List LRow), (tpE v67o6 l i), rowE 3 v67o20 ([pickI (((tpX l i)).tdiv 26) 3, (pickI (((tpX l i)).tdiv 78) 9) - 4] : List Int), rowE 25 vo (topJs l i : List Jump), rdE v5 ([0] : List Int), rdE v8 ([6] : List Int), (tpSv29 v29 l), (tpSv47 v47 l), blkE g11 (.cells #[v5, v8, v29, vo, v47] 42), (tpZ g1), rdE vl (l : List Int)] H67o12 := hS67o12x2
              refine ⟨Ext.mono hxx (fun _ h => h.elim), ?_⟩
              refine wpR_n [21] (by kernel_rfl) ?_
              refine List.forall_mem_cons.2 ⟨?_, List.forall_mem_nil _⟩
              have hS67o21 : St H0 NoB (fun b => S b ∧ b < H0.size) [(tpA v67o20 l i), rowE 34 v67o12 ([(LRow.mk ([1 - (2 * (pickI ((tpX l i)) 2))]) 1 ((pickI (((tpX l i)).tdiv 2) 13) - 6))] : List LRow), (tpE v67o6 l i), rowE 25 vo (topJs l i : List Jump), rdE v5 ([0] : List Int), rdE v8 ([6] : List Int), (tpSv29 v29 l), (tpSv47 v47 l), blkE g11 (.cells #[v5, v8, v29, vo, v47] 42), (tpZ g1), rdE vl (l : List Int)] H67o12 := St.fin (hS67o12x2.front 2 rfl)
              refine exE rfl rfl ?_
              refine e_buildSlice (vs := [v67o20]) (xs := ([[pickI (((tpX l i)).tdiv 26) 3, (pickI (((tpX l i)).tdiv 78) 9) - 4]] : List (List Int))) rfl Try.underlying23 Try.zeroValue32 rfl Try.sizeOf32 (par1 (v0 := v67o20) rfl) rfl hS67o21 (RdVs.cons (hS67o21.rdS 0 rfl) (RdVs.nil)) (by decide) (by decide) (fun v67o21 H67o21 hS67o21x2 hxx hvv67o21 => ?_)
              replace hS67o21x2 : St H0 NoB (fun b => S b ∧ b < H0.size) [rowE 32 v67o21 ([[pickI (((tpX l i)).tdiv 26) 3, (pickI (((tpX l i)).tdiv 78) 9) - 4]] : List (List Int)), (tpA v67o20 l i), rowE 34 v67o12 ([(LRow.mk ([1 - (2 * (pickI ((tpX l i)) 2))]) 1 ((pickI (((tpX l i)).tdiv 2) 13) - 6))] : List LRow), (tpE v67o6 l i), rowE 25 vo (topJs l i : List Jump), rdE v5 ([0] : List Int), rdE v8 ([6] : List Int), (tpSv29 v29 l), (tpSv47 v47 l), blkE g11 (.cells #[v5, v8, v29, vo, v47] 42), (tpZ g1), rdE vl (l : List Int)] H67o21 := hS67o21x2
              refine ⟨Ext.mono hxx (fun _ h => h.elim), ?_⟩
              refine wpR_q 22 (by kernel_rfl) rfl (quietAt rfl rfl (q_build (v := Value.agg #[v67o12, v67o21]) rfl (par2 (v0 := v67o12) (v1 := v67o21) rfl rfl) ((hS67o21x2.rowl 2 rfl).slc (fun zz0 => ∀ w, (Instr.build 25 #[(0, zz0), (1, v67o21)]).run Try.prog w = .ok (Value.agg #[zz0, v67o21]) w) (fun a0 n0 c0 => ((hS67o21x2.rowl 0 rfl).slc (fun zz1 => ∀ w, (Instr.build 25 #[(0, (.slice a0 n0 c0)), (1, zz1)]).run Try.prog w = .ok (Value.agg #[(.slice a0 n0 c0), zz1]) w) (fun a1 n1 c1 => (fun w => by kernel_rfl))))))) ?_
              refine wpR_n [23] (by kernel_rfl) ?_
              refine List.forall_mem_cons.2 ⟨?_, List.forall_mem_nil _⟩
              have hS67o23 : St H0 NoB (fun b => S b ∧ b < H0.size) [(tpC v67o12 l i), rowE 32 v67o21 ([[pickI (((tpX l i)).tdiv 26) 3, (pickI (((tpX l i)).tdiv 78) 9) - 4]] : List (List Int)), (tpA v67o20 l i), (tpE v67o6 l i), rowE 25 vo (topJs l i : List Jump), rdE v5 ([0] : List Int), rdE v8 ([6] : List Int), (tpSv29 v29 l), (tpSv47 v47 l), blkE g11 (.cells #[v5, v8, v29, vo, v47] 42), (tpZ g1), rdE vl (l : List Int)] H67o21 := St.fin (hS67o21x2.front 2 rfl)
              have hS67o23x2 : St H0 NoB (fun b => S b ∧ b < H0.size) [(tpD v67o21 l i), (tpC v67o12 l i), (tpA v67o20 l i), (tpE v67o6 l i), rowE 25 vo (topJs l i : List Jump), rdE v5 ([0] : List Int), rdE v8 ([6] : List Int), (tpSv29 v29 l), (tpSv47 v47 l), blkE g11 (.cells #[v5, v8, v29, vo, v47] 42), (tpZ g1), rdE vl (l : List Int)] H67o21 := St.fin (hS67o23.front 1 rfl)
              refine exE rfl rfl ?_
              refine e_buildSlice (vs := [Value.agg #[v67o12, v67o21]]) (xs := ([(Jump.mk ([(LRow.mk ([1 - (2 * (pickI ((tpX l i)) 2))]) 1 ((pickI (((tpX l i)).tdiv 2) 13) - 6))]) ([[pickI (((tpX l i)).tdiv 26) 3, (pickI (((tpX l i)).tdiv 78) 9) - 4]]))] : List Jump)) rfl Try.underlying40 Try.zeroValue25 rfl Try.sizeOf25 (par1 (v0 := Value.agg #[v67o12, v67o21]) rfl) rfl hS67o23x2 (RdVs.cons (Rd.jump.2 ⟨_, _, rfl, (hS67o23x2.rdS 1 rfl), (hS67o23x2.rdS 0 rfl)⟩) (RdVs.nil)) (by decide) (by decide) (fun v67o23 H67o23 hS67o23x3 hxx hvv67o23 => ?_)
              replace hS67o23x3 : St H0 NoB (fun b => S b ∧ b < H0.size) [rowE 25 v67o23 ([(Jump.mk ([(LRow.mk ([1 - (2 * (pickI ((tpX l i)) 2))]) 1 ((pickI (((tpX l i)).tdiv 2) 13) - 6))]) ([[pickI (((tpX l i)).tdiv 26) 3, (pickI (((tpX l i)).tdiv 78) 9) - 4]]))] : List Jump), (tpD v67o21 l i), (tpC v67o12 l i), (tpA v67o20 l i), (tpE v67o6 l i), rowE 25 vo (topJs l i : List Jump), rdE v5 ([0] : List Int), rdE v8 ([6] : List Int), (tpSv29 v29 l), (tpSv47 v47 l), blkE g11 (.cells #[v5, v8, v29, vo, v47] 42), (tpZ g1), rdE vl (l : List Int)] H67o23 := hS67o23x3
              refine ⟨Ext.mono hxx (fun _ h => h.elim), ?_⟩
              refine wpR_n [24] (by kernel_rfl) ?_
              refine List.forall_mem_cons.2 ⟨?_, List.forall_mem_nil _⟩
              have hS67o24 : St H0 NoB (fun b => S b ∧ b < H0.size) [(tpB v67o23 l i), (tpD v67o21 l i), (tpC v67o12 l i), (tpA v67o20 l i), (tpE v67o6 l i), rowE 25 vo (topJs l i : List Jump), rdE v5 ([0] : List Int), rdE v8 ([6] : List Int), (tpSv29 v29 l), (tpSv47 v47 l), blkE g11 (.cells #[v5, v8, v29, vo, v47] 42), (tpZ g1), rdE vl (l : List Int)] H67o23 := St.fin hS67o23x3
              have hS67o24x2 : St H0 NoB (fun b => S b ∧ b < H0.size) [rowE 25 vo (topJs l i : List Jump), (tpB v67o23 l i), (tpD v67o21 l i), (tpC v67o12 l i), (tpA v67o20 l i), (tpE v67o6 l i), rdE v5 ([0] : List Int), rdE v8 ([6] : List Int), (tpSv29 v29 l), (tpSv47 v47 l), blkE g11 (.cells #[v5, v8, v29, vo, v47] 42), (tpZ g1), rdE vl (l : List Int)] H67o23 := (hS67o24.front 5 rfl)
              refine exE rfl rfl ?_
              refine e_append rfl Try.underlying40 em_Jump_25_TopL1 rfl rfl hS67o24x2 (hS67o24x2.rdS 1 rfl) (fun _ h => h) (by have hb : GoT.bytes Jump = 48 := rfl; have hbl : (topJs l i).length = i := (by simp [topJs]); simp [hb, hbl]; omega) (by decide) (fun v67o24 H67o24 hS67o24x3 hxx => ?_)
              replace hS67o24x3 : St H0 NoB (fun b => S b ∧ b < H0.size) [rowE 25 v67o24 ((topJs l i) ++ ([(Jump.mk ([(LRow.mk ([1 - (2 * (pickI ((tpX l i)) 2))]) 1 ((pickI (((tpX l i)).tdiv 2) 13) - 6))]) ([[pickI (((tpX l i)).tdiv 26) 3, (pickI (((tpX l i)).tdiv 78) 9) - 4]]))]) : List Jump), (tpB v67o23 l i), (tpD v67o21 l i), (tpC v67o12 l i), (tpA v67o20 l i), (tpE v67o6 l i), rdE v5 ([0] : List Int), rdE v8 ([6] : List Int), (tpSv29 v29 l), (tpSv47 v47 l), blkE g11 (.cells #[v5, v8, v29, vo, v47] 42), (tpZ g1), rdE vl (l : List Int)] H67o24 := hS67o24x3
              have hS67o24x4 : St H0 NoB (fun b => S b ∧ b < H0.size) [rowE 25 v67o24 (topJs l (i + 1) : List Jump), (tpB v67o23 l i), (tpD v67o21 l i), (tpC v67o12 l i), (tpA v67o20 l i), (tpE v67o6 l i), rdE v5 ([0] : List Int), rdE v8 ([6] : List Int), (tpSv29 v29 l), (tpSv47 v47 l), blkE g11 (.cells #[v5, v8, v29, vo, v47] 42), (tpZ g1), rdE vl (l : List Int)] H67o24 := by rw [show (topJs l (i + 1)) = ((topJs l i) ++ ([(Jump.mk ([(LRow.mk ([1 - (2 * (pickI ((tpX l i)) 2))]) 1 ((pickI (((tpX l i)).tdiv 2) 13) - 6))]) ([[pickI (((tpX l i)).tdiv 26) 3, (pickI (((tpX l i)).tdiv 78) 9) - 4]]))])) from (by rw [topJs_next]; rfl)]; exact hS67o24x3
              refine ⟨Ext.mono hxx (labS_of 0 rfl (fun _ _ => trivial)), ?_⟩
              refine wpR_q 25 (by kernel_rfl) rfl (quietAt rfl rfl (q_fieldAddr rfl Try.underlying42 rfl Try.sizeOf40 a66_3)) ?_
              refine wpR_n [26] (by kernel_rfl) ?_
              refine List.forall_mem_cons.2 ⟨?_, List.forall_mem_nil _⟩
              refine exE rfl rfl ?_
              refine e_storeBlk (v := v67o24) rfl rfl rfl (oneCell_rdL (hS67o24x4.rowl 0 rfl)) Try.sizeOf40 (by show _ < 5; decide) (hS67o24x4.front 10 rfl) (fun H67o26 hS67o26 hxx => ?_)
              replace hS67o26 : St H0 NoB (fun b => S b ∧ b < H0.size) [blkE g11 (.cells #[v5, v8, v29, v67o24, v47] 42), rowE 25 v67o24 (topJs l (i + 1) : List Jump), (tpB v67o23 l i), (tpD v67o21 l i), (tpC v67o12 l i), (tpA v67o20 l i), (tpE v67o6 l i), rdE v5 ([0] : List Int), rdE v8 ([6] : List Int), (tpSv29 v29 l), (tpSv47 v47 l), (tpZ g1), rdE vl (l : List Int)] H67o26 := hS67o26
              refine ⟨Ext.mono hxx (labS_of 1 rfl (fun _ _ => trivial)), ?_⟩
              refine wpR_end (by kernel_rfl) ?_
              exact ⟨v67o24, y67o3, y67o9, y67o15, y67o18, a66_0, a66_2, a66_3, a66_4, (hS67o26.drop (List.Sublist.cons_cons _ (List.Sublist.cons_cons _ (List.Sublist.cons _ (List.Sublist.cons _ (List.Sublist.cons _ (List.Sublist.cons _ (List.Sublist.cons _ (List.Sublist.cons_cons _ (List.Sublist.cons_cons _ (List.Sublist.cons_cons _ (List.Sublist.cons_cons _ (List.Sublist.cons_cons _ (List.Sublist.cons_cons _ (List.Sublist.slnil)))))))))))))))⟩
            · have hS67o21 : St H0 NoB (fun b => S b ∧ b < H0.size) [(tpA v67o20 l i), rowE 3 v67o6 ([1 - (2 * (pickI ((tpX l i)) 2))] : List Int), rowE 25 vo (topJs l i : List Jump), rdE v5 ([0] : List Int), rdE v8 ([6] : List Int), (tpSv29 v29 l), (tpSv47 v47 l), blkE g11 (.cells #[v5, v8, v29, vo, v47] 42), (tpZ g1), rdE vl (l : List Int)] H67o20 := St.fin hS67o20
              refine exE rfl rfl ?_
              refine e_buildSlice (vs := [v67o20]) (xs := ([[pickI (((tpX l i)).tdiv 26) 3, (pickI (((tpX l i)).tdiv 78) 9) - 4]] : List (List Int))) rfl Try.underlying23 Try.zeroValue32 rfl Try.sizeOf32 (par1 (v0 := v67o20) rfl) rfl hS67o21 (RdVs.cons (hS67o21.rdS 0 rfl) (RdVs.nil)) (by decide) (by decide) (fun v67o21 H67o21 hS67o21x2 hxx hvv67o21 => ?_)
              replace hS67o21x2 : St H0 NoB (fun b => S b ∧ b < H0.size) [rowE 32 v67o21 ([[pickI (((tpX l i)).tdiv 26) 3, (pickI (((tpX l i)).tdiv 78) 9) - 4]] : List (List Int)), (tpA v67o20 l i), rowE 3 v67o6 ([1 - (2 * (pickI ((tpX l i)) 2))] : List Int), rowE 25 vo (topJs l i : List Jump), rdE v5 ([0] : List Int), rdE v8 ([6] : List Int), (tpSv29 v29 l), (tpSv47 v47 l), blkE g11 (.cells #[v5, v8, v29, vo, v47] 42), (tpZ g1), rdE vl (l : List Int)] H67o21 := hS67o21x2
              refine ⟨Ext.mono hxx (fun _ h => h.elim), ?_⟩
              refine wpR_n [12] (by kernel_rfl) ?_
              refine List.forall_mem_cons.2 ⟨?_, List.forall_mem_nil _⟩
              have hS67o12 : St H0 NoB (fun b => S b ∧ b < H0.size) [(tpE v67o6 l i), rowE 32 v67o21 ([[pickI (((tpX l i)).tdiv 26) 3, (pickI (((tpX l i)).tdiv 78) 9) - 4]] : List (List Int)), (tpA v67o20 l i), rowE 25 vo (topJs l i : List Jump), rdE v5 ([0] : List Int), rdE v8 ([6] : List Int), (tpSv29 v29 l), (tpSv47 v47 l), blkE g11 (.cells #[v5, v8, v29, vo, v47] 42), (tpZ g1), rdE vl (l : List Int)] H67o21 := St.fin (hS67o21x2.front 2 rfl)
              refine exE rfl rfl ?_
              refine e_buildSlice (vs := [Value.agg #[v67o6, I (1), I ((pickI (((tpX l i)).tdiv 2) 13) - 6)]]) (xs := ([(LRow.mk ([1 - (2 * (pickI ((tpX l i)) 2))]) 1 ((pickI (((tpX l i)).tdiv 2) 13) - 6))] : List LRow)) rfl Try.underlying22 Try.zeroValue34 rfl Try.sizeOf34 (par1 (v0 := Value.agg #[v67o6, I (1), I ((pickI (((tpX l i)).tdiv 2) 13) - 6)]) rfl) rfl hS67o12 (RdVs.cons (Rd.lRow.2 ⟨_, rfl, (hS67o12.rdS 0 rfl), (by first | assumption | (constructor <;> (dsimp only; omega)) | (constructor <;> omega)), (by first | assumption | (constructor <;> (dsimp only; omega)) | (constructor <;> omega))⟩) (RdVs.nil)) (by decide) (by decide) (fun v67o12 H67o12 hS67o12x2 hxx hvv67o12 => ?_)
              replace hS67o12x2 : St H0 NoB (fun b => S b ∧ b < H0.size) [rowE 34 v67o12 ([(LRow.mk ([1 - (2 * (pickI ((tpX l i)) 2))]) 1 ((pickI (((tpX l i)).tdiv 2) 13) - 6))] : List LRow), (tpE v67o6 l i), rowE 32 v67o21 ([[pickI (((tpX l i)).tdiv 26) 3, (pickI (((tpX l i)).tdiv 78) 9) - 4]] : List (List Int)), (tpA v67o20 l i), rowE 25 vo (topJs l i : List Jump), rdE v5 ([0] : List Int), rdE v8 ([6] : List Int), (tpSv29 v29 l), (tpSv47 v47 l), blkE g11 (.cells #[v5, v8, v29, vo, v47] 42), (tpZ g1), rdE vl (l : List Int)] H67o12 := hS67o12x2
              refine ⟨Ext.mono hxx (fun _ h => h.elim), ?_⟩
              refine wpR_q 22 (by kernel_rfl) rfl (quietAt rfl rfl (q_build (v := Value.agg #[v67o12, v67o21]) rfl (par2 (v0 := v67o12) (v1 := v67o21) rfl rfl) ((hS67o12x2.rowl 0 rfl).slc (fun zz0 => ∀ w, (Instr.build 25 #[(0, zz0), (1, v67o21)]).run Try.prog w = .ok (Value.agg #[zz0, v67o21]) w) (fun a0 n0 c0 => ((hS67o12x2.rowl 2 rfl).slc (fun zz1 => ∀ w, (Instr.build 25 #[(0, (.slice a0 n0 c0)), (1, zz1)]).run Try.prog w = .ok (Value.agg #[(.slice a0 n0 c0), zz1]) w) (fun a1 n1 c1 => (fun w => by kernel_rfl))))))) ?_
              refine wpR_n [23] (by kernel_rfl) ?_
              refine List.forall_mem_cons.2 ⟨?_, List.forall_mem_nil _⟩
              have hS67o23 : St H0 NoB (fun b => S b ∧ b < H0.size) [(tpC v67o12 l i), (tpE v67o6 l i), rowE 32 v67o21 ([[pickI (((tpX l i)).tdiv 26) 3, (pickI (((tpX l i)).tdiv 78) 9) - 4]] : List (List Int)), (tpA v67o20 l i), rowE 25 vo (topJs l i : List Jump), rdE v5 ([0] : List Int), rdE v8 ([6] : List Int), (tpSv29 v29 l), (tpSv47 v47 l), blkE g11 (.cells #[v5, v8, v29, vo, v47] 42), (tpZ g1), rdE vl (l : List Int)] H67o12 := St.fin hS67o12x2
              have hS67o23x2 : St H0 NoB (fun b => S b ∧ b < H0.size) [(tpD v67o21 l i), (tpC v67o12 l i), (tpE v67o6 l i), (tpA v67o20 l i), rowE 25 vo (topJs l i : List Jump), rdE v5 ([0] : List Int), rdE v8 ([6] : List Int), (tpSv29 v29 l), (tpSv47 v47 l), blkE g11 (.cells #[v5, v8, v29, vo, v47] 42), (tpZ g1), rdE vl (l : List Int)] H67o12 := St.fin (hS67o23.front 2 rfl)
              refine exE rfl rfl ?_
              refine e_buildSlice (vs := [Value.agg #[v67o12, v67o21]]) (xs := ([(Jump.mk ([(LRow.mk ([1 - (2 * (pickI ((tpX l i)) 2))]) 1 ((pickI (((tpX l i)).tdiv 2) 13) - 6))]) ([[pickI (((tpX l i)).tdiv 26) 3, (pickI (((tpX l i)).tdiv 78) 9) - 4]]))] : List Jump)) rfl Try.underlying40 Try.zeroValue25 rfl Try.sizeOf25 (par1 (v0 := Value.agg #[v67o12, v67o21]) rfl) rfl hS67o23x2 (RdVs.cons (Rd.jump.2 ⟨_, _, rfl, (hS67o23x2.rdS 1 rfl), (hS67o23x2.rdS 0 rfl)⟩) (RdVs.nil)) (by decide) (by decide) (fun v67o23 H67o23 hS67o23x3 hxx hvv67o23 => ?_)
              replace hS67o23x3 : St H0 NoB (fun b => S b ∧ b < H0.size) [rowE 25 v67o23 ([(Jump.mk ([(LRow.mk ([1 - (2 * (pickI ((tpX l i)) 2))]) 1 ((pickI (((tpX l i)).tdiv 2) 13) - 6))]) ([[pickI (((tpX l i)).tdiv 26) 3, (pickI (((tpX l i)).tdiv 78) 9) - 4]]))] : List Jump), (tpD v67o21 l i), (tpC v67o12 l i), (tpE v67o6 l i), (tpA v67o20 l i), rowE 25 vo (topJs l i : List Jump), rdE v5 ([0] : List Int), rdE v8 ([6] : List Int), (tpSv29 v29 l), (tpSv47 v47 l), blkE g11 (.cells #[v5, v8, v29, vo, v47] 42), (tpZ g1), rdE vl (l : List Int)] H67o23 := hS67o23x3
              refine ⟨Ext.mono hxx (fun _ h => h.elim), ?_⟩
              refine wpR_n [24] (by kernel_rfl) ?_
              refine List.forall_mem_cons.2 ⟨?_, List.forall_mem_nil _⟩
              have hS67o24 : St H0 NoB (fun b => S b ∧ b < H0.size) [(tpB v67o23 l i), (tpD v67o21 l i), (tpC v67o12 l i), (tpE v67o6 l i), (tpA v67o20 l i), rowE 25 vo (topJs l i : List Jump), rdE v5 ([0] : List Int), rdE v8 ([6] : List Int), (tpSv29 v29 l), (tpSv47 v47 l), blkE g11 (.cells #[v5, v8, v29, vo, v47] 42), (tpZ g1), rdE vl (l : List Int)] H67o23 := St.fin hS67o23x3
              have hS67o24x2 : St H0 NoB (fun b => S b ∧ b < H0.size) [rowE 25 vo (topJs l i : List Jump), (tpB v67o23 l i), (tpD v67o21 l i), (tpC v67o12 l i), (tpE v67o6 l i), (tpA v67o20 l i), rdE v5 ([0] : List Int), rdE v8 ([6] : List Int), (tpSv29 v29 l), (tpSv47 v47 l), blkE g11 (.cells #[v5, v8, v29, vo, v47] 42), (tpZ g1), rdE vl (l : List Int)] H67o23 := (hS67o24.front 5 rfl)
              refine exE rfl rfl ?_
              refine e_append rfl Try.underlying40 em_Jump_25_TopL1 rfl rfl hS67o24x2 (hS67o24x2.rdS 1 rfl) (fun _ h => h) (by have hb : GoT.bytes Jump = 48 := rfl; have hbl : (topJs l i).length = i := (by simp [topJs]); simp [hb, hbl]; omega) (by decide) (fun v67o24 H67o24 hS67o24x3 hxx => ?_)
              replace hS67o24x3 : St H0 NoB (fun b => S b ∧ b < H0.size) [rowE 25 v67o24 ((topJs l i) ++ ([(Jump.mk ([(LRow.mk ([1 - (2 * (pickI ((tpX l i)) 2))]) 1 ((pickI (((tpX l i)).tdiv 2) 13) - 6))]) ([[pickI (((tpX l i)).tdiv 26) 3, (pickI (((tpX l i)).tdiv 78) 9) - 4]]))]) : List Jump), (tpB v67o23 l i), (tpD v67o21 l i), (tpC v67o12 l i), (tpE v67o6 l i), (tpA v67o20 l i), rdE v5 ([0] : List Int), rdE v8 ([6] : List Int), (tpSv29 v29 l), (tpSv47 v47 l), blkE g11 (.cells #[v5, v8, v29, vo, v47] 42), (tpZ g1), rdE vl (l : List Int)] H67o24 := hS67o24x3
              have hS67o24x4 : St H0 NoB (fun b => S b ∧ b < H0.size) [rowE 25 v67o24 (topJs l (i + 1) : List Jump), (tpB v67o23 l i), (tpD v67o21 l i), (tpC v67o12 l i), (tpE v67o6 l i), (tpA v67o20 l i), rdE v5 ([0] : List Int), rdE v8 ([6] : List Int), (tpSv29 v29 l), (tpSv47 v47 l), blkE g11 (.cells #[v5, v8, v29, vo, v47] 42), (tpZ g1), rdE vl (l : List Int)] H67o24 := by rw [show (topJs l (i + 1)) = ((topJs l i) ++ ([(Jump.mk ([(LRow.mk ([1 - (2 * (pickI ((tpX l i)) 2))]) 1 ((pickI (((tpX l i)).tdiv 2) 13) - 6))]) ([[pickI (((tpX l i)).tdiv 26) 3, (pickI (((tpX l i)).tdiv 78) 9) - 4]]))])) from (by rw [topJs_next]; rfl)]; exact hS67o24x3
              refine ⟨Ext.mono hxx (labS_of 0 rfl (fun _ _ => trivial)), ?_⟩
              refine wpR_q 25 (by kernel_rfl) rfl (quietAt rfl rfl (q_fieldAddr rfl Try.underlying42 rfl Try.sizeOf40 a66_3)) ?_
              refine wpR_n [26] (by kernel_rfl) ?_
              refine List.forall_mem_cons.2 ⟨?_, List.forall_mem_nil _⟩
              refine exE rfl rfl ?_
              refine e_storeBlk (v := v67o24) rfl rfl rfl (oneCell_rdL (hS67o24x4.rowl 0 rfl)) Try.sizeOf40 (by show _ < 5; decide) (hS67o24x4.front 10 rfl) (fun H67o26 hS67o26 hxx => ?_)
              replace hS67o26 : St H0 NoB (fun b => S b ∧ b < H0.size) [blkE g11 (.cells #[v5, v8, v29, v67o24, v47] 42), rowE 25 v67o24 (topJs l (i + 1) : List Jump), (tpB v67o23 l i), (tpD v67o21 l i), (tpC v67o12 l i), (tpE v67o6 l i), (tpA v67o20 l i), rdE v5 ([0] : List Int), rdE v8 ([6] : List Int), (tpSv29 v29 l), (tpSv47 v47 l), (tpZ g1), rdE vl (l : List Int)] H67o26 := hS67o26
              refine ⟨Ext.mono hxx (labS_of 1 rfl (fun _ _ => trivial)), ?_⟩
              refine wpR_end (by kernel_rfl) ?_
              exact ⟨v67o24, y67o3, y67o9, y67o15, y67o18, a66_0, a66_2, a66_3, a66_4, (hS67o26.drop (List.Sublist.cons_cons _ (List.Sublist.cons_cons _ (List.Sublist.cons _ (List.Sublist.cons _ (List.Sublist.cons _ (List.Sublist.cons _ (List.Sublist.cons _ (List.Sublist.cons_cons _ (List.Sublist.cons_cons _ (List.Sublist.cons_cons _ (List.Sublist.cons_cons _ (List.Sublist.cons_cons _ (List.Sublist.cons_cons _ (List.Sublist.slnil)))))))))))))))⟩
    · refine exE rfl rfl ?_
      refine e_call rfl Try.call20 (arr2 (v0 := I (((tpX l i)).tdiv 2)) (v1 := I (13)) rfl rfl) (Picked (((tpX l i)).tdiv 2) 13 (by omega)) ?_
      rintro _ H67o9 ⟨hxx, rfl, y67o9⟩
      have hS67o9 : St H0 NoB (fun b => S b ∧ b < H0.size) [rowE 25 vo (topJs l i : List Jump), rdE v5 ([0] : List Int), rdE v8 ([6] : List Int), (tpSv29 v29 l), (tpSv47 v47 l), blkE g11 (.cells #[v5, v8, v29, vo, v47] 42), (tpZ g1), rdE vl (l : List Int)] H67o9 := hS67o3.ext hxx
      refine ⟨Ext.mono hxx (fun _ h => h.elim), ?_⟩
      refine wpR_q 10 (by kernel_rfl) rfl (quietAt rfl rfl (q_sub rfl rfl rfl (by constructor <;> omega))) ?_
      refine wpR_n [6, 15] (by kernel_rfl) ?_
      refine List.forall_mem_cons.2 ⟨?_, List.forall_mem_cons.2 ⟨?_, List.forall_mem_nil _⟩⟩
      · refine exE rfl rfl ?_
        refine e_buildSlice (vs := [I (1 - (2 * (pickI ((tpX l i)) 2)))]) (xs := ([1 - (2 * (pickI ((tpX l i)) 2))] : List Int)) rfl Try.underlying32 Try.zeroValue3 rfl Try.sizeOf3 (par1 (v0 := I (1 - (2 * (pickI ((tpX l i)) 2)))) rfl) rfl hS67o9 (RdVs.cons (Rd.int.2 ⟨rfl, by constructor <;> omega⟩) (RdVs.nil)) (by decide) (by decide) (fun v67o6 H67o6 hS67o6 hxx hvv67o6 => ?_)
        replace hS67o6 : St H0 NoB (fun b => S b ∧ b < H0.size) [rowE 3 v67o6 ([1 - (2 * (pickI ((tpX l i)) 2))] : List Int), rowE 25 vo (topJs l i : List Jump), rdE v5 ([0] : List Int), rdE v8 ([6] : List Int), (tpSv29 v29 l), (tpSv47 v47 l), blkE g11 (.cells #[v5, v8, v29, vo, v47] 42), (tpZ g1), rdE vl (l : List Int)] H67o6 := hS67o6
        refine ⟨Ext.mono hxx (fun _ h => h.elim), ?_⟩
        refine wpR_q 11 (by kernel_rfl) rfl (quietAt rfl rfl (q_build (v := Value.agg #[v67o6, I (1), I ((pickI (((tpX l i)).tdiv 2) 13) - 6)]) rfl (par3 (v0 := v67o6) (v1 := I (1)) (v2 := I ((pickI (((tpX l i)).tdiv 2) 13) - 6)) rfl rfl rfl) ((hS67o6.rowl 0 rfl).slc (fun zz0 => ∀ w, (Instr.build 34 #[(0, zz0), (1, I (1)), (2, I ((pickI (((tpX l i)).tdiv 2) 13) - 6))]).run Try.prog w = .ok (Value.agg #[zz0, I (1), I ((pickI (((tpX l i)).tdiv 2) 13) - 6)]) w) (fun a0 n0 c0 => (fun w => by kernel_rfl))))) ?_
        refine wpR_n [12, 15] (by kernel_rfl) ?_
        refine List.forall_mem_cons.2 ⟨?_, List.forall_mem_cons.2 ⟨?_, List.forall_mem_nil _⟩⟩
        · have hS67o12 : St H0 NoB (fun b => S b ∧ b < H0.size) [(tpE v67o6 l i), rowE 25 vo (topJs l i : List Jump), rdE v5 ([0] : List Int), rdE v8 ([6] : List Int), (tpSv29 v29 l), (tpSv47 v47 l), blkE g11 (.cells #[v5, v8, v29, vo, v47] 42), (tpZ g1), rdE vl (l : List Int)] H67o6 := St.fin hS67o6
          refine exE rfl rfl ?_
          refine e_buildSlice (vs := [Value.agg #[v67o6, I (1), I ((pickI (((tpX l i)).tdiv 2) 13) - 6)]]) (xs := ([(LRow.mk ([1 - (2 * (pickI ((tpX l i)) 2))]) 1 ((pickI (((tpX l i)).tdiv 2) 13) - 6))] : List LRow)) rfl Try.underlying22 Try.zeroValue34 rfl Try.sizeOf34 (par1 (v0 := Value.agg #[v67o6, I (1), I ((pickI (((tpX l i)).tdiv 2) 13) - 6)]) rfl) rfl hS67o12 (RdVs.cons (Rd.lRow.2 ⟨_, rfl, (hS67o12.rdS 0 rfl), (by first | assumption | (constructor <;> (dsimp only; omega)) | (constructor <;> omega)), (by first | assumption | (constructor <;> (dsimp only; omega)) | (constructor <;> omega))⟩) (RdVs.nil)) (by decide) (by decide) (fun v67o12 H67o12 hS67o12x2 hxx hvv67o12 => ?_)
          replace hS67o12x2 : St H0 NoB (fun b => S b ∧ b < H0.size) [rowE 34 v67o12 ([(LRow.mk ([1 - (2 * (pickI ((tpX l i)) 2))]) 1 ((pickI (((tpX l i)).tdiv 2) 13) - 6))] : List LRow), (tpE v67o6 l i), rowE 25 vo (topJs l i : List Jump), rdE v5 ([0] : List Int), rdE v8 ([6] : List Int), (tpSv29 v29 l), (tpSv47 v47 l), blkE g11 (.cells #[v5, v8, v29, vo, v47] 42), (tpZ g1), rdE vl (l : List Int)] H67o12 := hS67o12x2
          refine ⟨Ext.mono hxx (fun _ h => h.elim), ?_⟩
          refine wpR_n [15] (by kernel_rfl) ?_
          refine List.forall_mem_cons.2 ⟨?_, List.forall_mem_nil _⟩
          refine exE rfl rfl ?_
          refine e_call rfl Try.call20 (arr2 (v0 := I (((tpX l i)).tdiv 26)) (v1 := I (3)) rfl rfl) (Picked (((tpX l i)).tdiv 26) 3 (by omega)) ?_
          rintro _ H67o15 ⟨hxx, rfl, y67o15⟩
          have hS67o15 : St H0 NoB (fun b => S b ∧ b < H0.size) [rowE 34 v67o12 ([(LRow.mk ([1 - (2 * (pickI ((tpX l i)) 2))]) 1 ((pickI (((tpX l i)).tdiv 2) 13) - 6))] : List LRow), (tpE v67o6 l i), rowE 25 vo (topJs l i : List Jump), rdE v5 ([0] : List Int), rdE v8 ([6] : List Int), (tpSv29 v29 l), (tpSv47 v47 l), blkE g11 (.cells #[v5, v8, v29, vo, v47] 42), (tpZ g1), rdE vl (l : List Int)] H67o15 := hS67o12x2.ext hxx
          refine ⟨Ext.mono hxx (fun _ h => h.elim), ?_⟩
          refine wpR_n [18] (by kernel_rfl) ?_
          refine List.forall_mem_cons.2 ⟨?_, List.forall_mem_nil _⟩
          refine exE rfl rfl ?_
          refine e_call rfl Try.call20 (arr2 (v0 := I (((tpX l i)).tdiv 78)) (v1 := I (9)) rfl rfl) (Picked (((tpX l i)).tdiv 78) 9 (by omega)) ?_
          rintro _ H67o18 ⟨hxx, rfl, y67o18⟩
          have hS67o18 : St H0 NoB (fun b => S b ∧ b < H0.size) [rowE 34 v67o12 ([(LRow.mk ([1 - (2 * (pickI ((tpX l i)) 2))]) 1 ((pickI (((tpX l i)).tdiv 2) 13) - 6))] : List LRow), (tpE v67o6 l i), rowE 25 vo (topJs l i : List Jump), rdE v5 ([0] : List Int), rdE v8 ([6] : List Int), (tpSv29 v29 l), (tpSv47 v47 l), blkE g11 (.cells #[v5, v8, v29, vo, v47] 42), (tpZ g1), rdE vl (l : List Int)] H67o18 := hS67o15.ext hxx
          refine ⟨Ext.mono hxx (fun _ h => h.elim), ?_⟩
          refine wpR_q 19 (by kernel_rfl) rfl (quietAt rfl rfl (q_sub rfl rfl rfl (by constructor <;> omega))) ?_
          refine wpR_n [20] (by kernel_rfl) ?_
          refine List.forall_mem_cons.2 ⟨?_, List.forall_mem_nil _⟩
          refine exE rfl rfl ?_
          refine e_buildSlice (vs := [I (pickI (((tpX l i)).tdiv 26) 3), I ((pickI (((tpX l i)).tdiv 78) 9) - 4)]) (xs := ([pickI (((tpX l i)).tdiv 26) 3, (pickI (((tpX l i)).tdiv 78) 9) - 4] : List Int)) rfl Try.underlying32 Try.zeroValue3 rfl Try.sizeOf3 (par2 (v0 := I (pickI (((tpX l i)).tdiv 26) 3)) (v1 := I ((pickI (((tpX l i)).tdiv 78) 9) - 4)) rfl rfl) rfl hS67o18 (RdVs.cons (Rd.int.2 ⟨rfl, by constructor <;> omega⟩) (RdVs.cons (Rd.int.2 ⟨rfl, by constructor <;> omega⟩) (RdVs.nil))) (by decide) (by decide) (fun v67o20 H67o20 hS67o20 hxx hvv67o20 => ?_)
          replace hS67o20 : St H0 NoB (fun b => S b ∧ b < H0.size) [rowE 3 v67o20 ([pickI (((tpX l i)).tdiv 26) 3, (pickI (((tpX l i)).tdiv 78) 9) - 4] : List Int), rowE 34 v67o12 ([(LRow.mk ([1 - (2 * (pickI ((tpX l i)) 2))]) 1 ((pickI (((tpX l i)).tdiv 2) 13) - 6))] : List LRow), (tpE v67o6 l i), rowE 25 vo (topJs l i : List Jump), rdE v5 ([0] : List Int), rdE v8 ([6] : List Int), (tpSv29 v29 l), (tpSv47 v47 l), blkE g11 (.cells #[v5, v8, v29, vo, v47] 42), (tpZ g1), rdE vl (l : List Int)] H67o20 := hS67o20
          refine ⟨Ext.mono hxx (fun _ h => h.elim), ?_⟩
          refine wpR_n [21] (by kernel_rfl) ?_
          refine List.forall_mem_cons.2 ⟨?_, List.forall_mem_nil _⟩
          have hS67o21 : St H0 NoB (fun b => S b ∧ b < H0.size) [(tpA v67o20 l i), rowE 34 v67o12 ([(LRow.mk ([1 - (2 * (pickI ((tpX l i)) 2))]) 1 ((pickI (((tpX l i)).tdiv 2) 13) - 6))] : List LRow), (tpE v67o6 l i), rowE 25 vo (topJs l i : List Jump), rdE v5 ([0] : List Int), rdE v8 ([6] : List Int), (tpSv29 v29 l), (tpSv47 v47 l), blkE g11 (.cells #[v5, v8, v29, vo, v47] 42), (tpZ g1), rdE vl (l : List Int)] H67o20 := St.fin hS67o20
          refine exE rfl rfl ?_
          refine e_buildSlice (vs := [v67o20]) (xs := ([[pickI (((tpX l i)).tdiv 26) 3, (pickI (((tpX l i)).tdiv 78) 9) - 4]] : List (List Int))) rfl Try.underlying23 Try.zeroValue32 rfl Try.sizeOf32 (par1 (v0 := v67o20) rfl) rfl hS67o21 (RdVs.cons (hS67o21.rdS 0 rfl) (RdVs.nil)) (by decide) (by decide) (fun v67o21 H67o21 hS67o21x2 hxx hvv67o21 => ?_)
          replace hS67o21x2 : St H0 NoB (fun b => S b ∧ b < H0.size) [rowE 32 v67o21 ([[pickI (((tpX l i)).tdiv 26) 3, (pickI (((tpX l i)).tdiv 78) 9) - 4]] : List (List Int)), (tpA v67o20 l i), rowE 34 v67o12 ([(LRow.mk ([1 - (2 * (pickI ((tpX l i)) 2))]) 1 ((pickI (((tpX l i)).tdiv 2) 13) - 6))] : List LRow), (tpE v67o6 l i), rowE 25 vo (topJs l i : List Jump), rdE v5 ([0] : List Int), rdE v8 ([6] : List Int), (tpSv29 v29 l), (tpSv47 v47 l), blkE g11 (.cells #[v5, v8, v29, vo, v47] 42), (tpZ g1), rdE vl (l : List Int)] H67o21 := hS67o21x2
          refine ⟨Ext.mono hxx (fun _ h => h.elim), ?_⟩
          refine wpR_q 22 (by kernel_rfl) rfl (quietAt rfl rfl (q_build (v := Value.agg #[v67o12, v67o21]) rfl (par2 (v0 := v67o12) (v1 := v67o21) rfl rfl) ((hS67o21x2.rowl 2 rfl).slc (fun zz0 => ∀ w, (Instr.build 25 #[(0, zz0), (1, v67o21)]).run Try.prog w = .ok (Value.agg #[zz0, v67o21]) w) (fun a0 n0 c0 => ((hS67o21x2.rowl 0 rfl).slc (fun zz1 => ∀ w, (Instr.build 25 #[(0, (.slice a0 n0 c0)), (1, zz1)]).run Try.prog w = .ok (Value.agg #[(.slice a0 n0 c0), zz1]) w) (fun a1 n1 c1 => (fun w => by kernel_rfl))))))) ?_
          refine wpR_n [23] (by kernel_rfl) ?_
          refine List.forall_mem_cons.2 ⟨?_, List.forall_mem_nil _⟩
          have hS67o23 : St H0 NoB (fun b => S b ∧ b < H0.size) [(tpC v67o12 l i), rowE 32 v67o21 ([[pickI (((tpX l i)).tdiv 26) 3, (pickI (((tpX l i)).tdiv 78) 9) - 4]] : List (List Int)), (tpA v67o20 l i), (tpE v67o6 l i), rowE 25 vo (topJs l i : List Jump), rdE v5 ([0] : List Int), rdE v8 ([6] : List Int), (tpSv29 v29 l), (tpSv47 v47 l), blkE g11 (.cells #[v5, v8, v29, vo, v47] 42), (tpZ g1), rdE vl (l : List Int)] H67o21 := St.fin (hS67o21x2.front 2 rfl)
          have hS67o23x2 : St H0 NoB (fun b => S b ∧ b < H0.size) [(tpD v67o21 l i), (tpC v67o12 l i), (tpA v67o20 l i), (tpE v67o6 l i), rowE 25 vo (topJs l i : List Jump), rdE v5 ([0] : List Int), rdE v8 ([6] : List Int), (tpSv29 v29 l), (tpSv47 v47 l), blkE g11 (.cells #[v5, v8, v29, vo, v47] 42), (tpZ g1), rdE vl (l : List Int)] H67o21 := St.fin (hS67o23.front 1 rfl)
          refine exE rfl rfl ?_
          refine e_buildSlice (vs := [Value.agg #[v67o12, v67o21]]) (xs := ([(Jump.mk ([(LRow.mk ([1 - (2 * (pickI ((tpX l i)) 2))]) 1 ((pickI (((tpX l i)).tdiv 2) 13) - 6))]) ([[pickI (((tpX l i)).tdiv 26) 3, (pickI (((tpX l i)).tdiv 78) 9) - 4]]))] : List Jump)) rfl Try.underlying40 Try.zeroValue25 rfl Try.sizeOf25 (par1 (v0 := Value.agg #[v67o12, v67o21]) rfl) rfl hS67o23x2 (RdVs.cons (Rd.jump.2 ⟨_, _, rfl, (hS67o23x2.rdS 1 rfl), (hS67o23x2.rdS 0 rfl)⟩) (RdVs.nil)) (by decide) (by decide) (fun v67o23 H67o23 hS67o23x3 hxx hvv67o23 => ?_)
          replace hS67o23x3 : St H0 NoB (fun b => S b ∧ b < H0.size) [rowE 25 v67o23 ([(Jump.mk ([(LRow.mk ([1 - (2 * (pickI ((tpX l i)) 2))]) 1 ((pickI (((tpX l i)).tdiv 2) 13) - 6))]) ([[pickI (((tpX l i)).tdiv 26) 3, (pickI (((tpX l i)).tdiv 78) 9) - 4]]))] : List Jump), (tpD v67o21 l i), (tpC v67o12 l i), (tpA v67o20 l i), (tpE v67o6 l i), rowE 25 vo (topJs l i : List Jump), rdE v5 ([0] : List Int), rdE v8 ([6] : List Int), (tpSv29 v29 l), (tpSv47 v47 l), blkE g11 (.cells #[v5, v8, v29, vo, v47] 42), (tpZ g1), rdE vl (l : List Int)] H67o23 := hS67o23x3
          refine ⟨Ext.mono hxx (fun _ h => h.elim), ?_⟩
          refine wpR_n [24] (by kernel_rfl) ?_
          refine List.forall_mem_cons.2 ⟨?_, List.forall_mem_nil _⟩
          have hS67o24 : St H0 NoB (fun b => S b ∧ b < H0.size) [(tpB v67o23 l i), (tpD v67o21 l i), (tpC v67o12 l i), (tpA v67o20 l i), (tpE v67o6 l i), rowE 25 vo (topJs l i : List Jump), rdE v5 ([0] : List Int), rdE v8 ([6] : List Int), (tpSv29 v29 l), (tpSv47 v47 l), blkE g11 (.cells #[v5, v8, v29, vo, v47] 42), (tpZ g1), rdE vl (l : List Int)] H67o23 := St.fin hS67o23x3
          have hS67o24x2 : St H0 NoB (fun b => S b ∧ b < H0.size) [rowE 25 vo (topJs l i : List Jump), (tpB v67o23 l i), (tpD v67o21 l i), (tpC v67o12 l i), (tpA v67o20 l i), (tpE v67o6 l i), rdE v5 ([0] : List Int), rdE v8 ([6] : List Int), (tpSv29 v29 l), (tpSv47 v47 l), blkE g11 (.cells #[v5, v8, v29, vo, v47] 42), (tpZ g1), rdE vl (l : List Int)] H67o23 := (hS67o24.front 5 rfl)
          refine exE rfl rfl ?_
          refine e_append rfl Try.underlying40 em_Jump_25_TopL1 rfl rfl hS67o24x2 (hS67o24x2.rdS 1 rfl) (fun _ h => h) (by have hb : GoT.bytes Jump = 48 := rfl; have hbl : (topJs l i).length = i := (by simp [topJs]); simp [hb, hbl]; omega) (by decide) (fun v67o24 H67o24 hS67o24x3 hxx => ?_)
          replace hS67o24x3 : St H0 NoB (fun b => S b ∧ b < H0.size) [rowE 25 v67o24 ((topJs l i) ++ ([(Jump.mk ([(LRow.mk ([1 - (2 * (pickI ((tpX l i)) 2))]) 1 ((pickI (((tpX l i)).tdiv 2) 13) - 6))]) ([[pickI (((tpX l i)).tdiv 26) 3, (pickI (((tpX l i)).tdiv 78) 9) - 4]]))]) : List Jump), (tpB v67o23 l i), (tpD v67o21 l i), (tpC v67o12 l i), (tpA v67o20 l i), (tpE v67o6 l i), rdE v5 ([0] : List Int), rdE v8 ([6] : List Int), (tpSv29 v29 l), (tpSv47 v47 l), blkE g11 (.cells #[v5, v8, v29, vo, v47] 42), (tpZ g1), rdE vl (l : List Int)] H67o24 := hS67o24x3
          have hS67o24x4 : St H0 NoB (fun b => S b ∧ b < H0.size) [rowE 25 v67o24 (topJs l (i + 1) : List Jump), (tpB v67o23 l i), (tpD v67o21 l i), (tpC v67o12 l i), (tpA v67o20 l i), (tpE v67o6 l i), rdE v5 ([0] : List Int), rdE v8 ([6] : List Int), (tpSv29 v29 l), (tpSv47 v47 l), blkE g11 (.cells #[v5, v8, v29, vo, v47] 42), (tpZ g1), rdE vl (l : List Int)] H67o24 := by rw [show (topJs l (i + 1)) = ((topJs l i) ++ ([(Jump.mk ([(LRow.mk ([1 - (2 * (pickI ((tpX l i)) 2))]) 1 ((pickI (((tpX l i)).tdiv 2) 13) - 6))]) ([[pickI (((tpX l i)).tdiv 26) 3, (pickI (((tpX l i)).tdiv 78) 9) - 4]]))])) from (by rw [topJs_next]; rfl)]; exact hS67o24x3
          refine ⟨Ext.mono hxx (labS_of 0 rfl (fun _ _ => trivial)), ?_⟩
          refine wpR_q 25 (by kernel_rfl) rfl (quietAt rfl rfl (q_fieldAddr rfl Try.underlying42 rfl Try.sizeOf40 a66_3)) ?_
          refine wpR_n [26] (by kernel_rfl) ?_
          refine List.forall_mem_cons.2 ⟨?_, List.forall_mem_nil _⟩
          refine exE rfl rfl ?_
          refine e_storeBlk (v := v67o24) rfl rfl rfl (oneCell_rdL (hS67o24x4.rowl 0 rfl)) Try.sizeOf40 (by show _ < 5; decide) (hS67o24x4.front 10 rfl) (fun H67o26 hS67o26 hxx => ?_)
          replace hS67o26 : St H0 NoB (fun b => S b ∧ b < H0.size) [blkE g11 (.cells #[v5, v8, v29, v67o24, v47] 42), rowE 25 v67o24 (topJs l (i + 1) : List Jump), (tpB v67o23 l i), (tpD v67o21 l i), (tpC v67o12 l i), (tpA v67o20 l i), (tpE v67o6 l i), rdE v5 ([0] : List Int), rdE v8 ([6] : List Int), (tpSv29 v29 l), (tpSv47 v47 l), (tpZ g1), rdE vl (l : List Int)] H67o26 := hS67o26
          refine ⟨Ext.mono hxx (labS_of 1 rfl (fun _ _ => trivial)), ?_⟩
          refine wpR_end (by kernel_rfl) ?_
          exact ⟨v67o24, y67o3, y67o9, y67o15, y67o18, a66_0, a66_2, a66_3, a66_4, (hS67o26.drop (List.Sublist.cons_cons _ (List.Sublist.cons_cons _ (List.Sublist.cons _ (List.Sublist.cons _ (List.Sublist.cons _ (List.Sublist.cons _ (List.Sublist.cons _ (List.Sublist.cons_cons _ (List.Sublist.cons_cons _ (List.Sublist.cons_cons _ (List.Sublist.cons_cons _ (List.Sublist.cons_cons _ (List.Sublist.cons_cons _ (List.Sublist.slnil)))))))))))))))⟩
        · refine exE rfl rfl ?_
          refine e_call rfl Try.call20 (arr2 (v0 := I (((tpX l i)).tdiv 26)) (v1 := I (3)) rfl rfl) (Picked (((tpX l i)).tdiv 26) 3 (by omega)) ?_
          rintro _ H67o15 ⟨hxx, rfl, y67o15⟩
          have hS67o15 : St H0 NoB (fun b => S b ∧ b < H0.size) [rowE 3 v67o6 ([1 - (2 * (pickI ((tpX l i)) 2))] : List Int), rowE 25 vo (topJs l i : List Jump), rdE v5 ([0] : List Int), rdE v8 ([6] : List Int), (tpSv29 v29 l), (tpSv47 v47 l), blkE g11 (.cells #[v5, v8, v29, vo, v47] 42), (tpZ g1), rdE vl (l : List Int)] H67o15 := hS67o6.ext hxx
          refine ⟨Ext.mono hxx (fun _ h => h.elim), ?_⟩
          refine wpR_n [12, 18] (by kernel_rfl) ?_
          refine List.forall_mem_cons.2 ⟨?_, List.forall_mem_cons.2 ⟨?_, List.forall_mem_nil _⟩⟩
          · have hS67o12 : St H0 NoB (fun b => S b ∧ b < H0.size) [(tpE v67o6 l i), rowE 25 vo (topJs l i : List Jump), rdE v5 ([0] : List Int), rdE v8 ([6] : List Int), (tpSv29 v29 l), (tpSv47 v47 l), blkE g11 (.cells #[v5, v8, v29, vo, v47] 42), (tpZ g1), rdE vl (l : List Int)] H67o15 := St.fin hS67o15
            refine exE rfl rfl ?_
            refine e_buildSlice (vs := [Value.agg #[v67o6, I (1), I ((pickI (((tpX l i)).tdiv 2) 13) - 6)]]) (xs := ([(LRow.mk ([1 - (2 * (pickI ((tpX l i)) 2))]) 1 ((pickI (((tpX l i)).tdiv 2) 13) - 6))] : List LRow)) rfl Try.underlying22 Try.zeroValue34 rfl Try.sizeOf34 (par1 (v0 := Value.agg #[v67o6, I (1), I ((pickI (((tpX l i)).tdiv 2) 13) - 6)]) rfl) rfl hS67o12 (RdVs.cons (Rd.lRow.2 ⟨_, rfl, (hS67o12.rdS 0 rfl), (by first | assumption | (constructor <;> (dsimp only; omega)) | (constructor <;> omega)), (by first | assumption | (constructor <;> (dsimp only; omega)) | (constructor <;> omega))⟩) (RdVs.nil)) (by decide) (by decide) (fun v67o12 H67o12 hS67o12x2 hxx hvv67o12 => ?_)
            replace hS67o12x2 : St H0 NoB (fun b => S b ∧ b < H0.size) [rowE 34 v67o12 ([(LRow.mk ([1 - (2 * (pickI ((tpX l i)) 2))]) 1 ((pickI (((tpX l i)).tdiv 2) 13) - 6))] : List LRow), (tpE v67o6 l i), rowE 25 vo (topJs l i : List Jump), rdE v5 ([0] : List Int), rdE v8 ([6] : List Int), (tpSv29 v29 l), (tpSv47 v47 l), blkE g11 (.cells #[v5, v8, v29, vo, v47] 42), (tpZ g1), rdE vl (l : List Int)] H67o12 := hS67o12x2
            refine ⟨Ext.mono hxx (fun _ h => h.elim), ?_⟩
            refine wpR_n [18] (by kernel_rfl) ?_
            refine List.forall_mem_cons.2 ⟨?_, List.forall_mem_nil _⟩
            refine exE rfl rfl ?_
            refine e_call rfl Try.call20 (arr2 (v0 := I (((tpX l i)).tdiv 78)) (v1 := I (9)) rfl rfl) (Picked (((tpX l i)).tdiv 78) 9 (by omega)) ?_
            rintro _ H67o18 ⟨hxx, rfl, y67o18⟩
            have hS67o18 : St H0 NoB (fun b => S b ∧ b < H0.size) [rowE 34 v67o12 ([(LRow.mk ([1 - (2 * (pickI ((tpX l i)) 2))]) 1 ((pickI (((tpX l i)).tdiv 2) 13) - 6))] : List LRow), (tpE v67o6 l i), rowE 25 vo (topJs l i : List Jump), rdE v5 ([0] : List Int), rdE v8 ([6] : List Int), (tpSv29 v29 l), (tpSv47 v47 l), blkE g11 (.cells #[v5, v8, v29, vo, v47] 42), (tpZ g1), rdE vl (l : List Int)] H67o18 := hS67o12x2.ext hxx
            refine ⟨Ext.mono hxx (fun _ h => h.elim), ?_⟩
            refine wpR_q 19 (by kernel_rfl) rfl (quietAt rfl rfl (q_sub rfl rfl rfl (by constructor <;> omega))) ?_
            refine wpR_n [20] (by kernel_rfl) ?_
            refine List.forall_mem_cons.2 ⟨?_, List.forall_mem_nil _⟩
            refine exE rfl rfl ?_
            refine e_buildSlice (vs := [I (pickI (((tpX l i)).tdiv 26) 3), I ((pickI (((tpX l i)).tdiv 78) 9) - 4)]) (xs := ([pickI (((tpX l i)).tdiv 26) 3, (pickI (((tpX l i)).tdiv 78) 9) - 4] : List Int)) rfl Try.underlying32 Try.zeroValue3 rfl Try.sizeOf3 (par2 (v0 := I (pickI (((tpX l i)).tdiv 26) 3)) (v1 := I ((pickI (((tpX l i)).tdiv 78) 9) - 4)) rfl rfl) rfl hS67o18 (RdVs.cons (Rd.int.2 ⟨rfl, by constructor <;> omega⟩) (RdVs.cons (Rd.int.2 ⟨rfl, by constructor <;> omega⟩) (RdVs.nil))) (by decide) (by decide) (fun v67o20 H67o20 hS67o20 hxx hvv67o20 => ?_)
            replace hS67o20 : St H0 NoB (fun b => S b ∧ b < H0.size) [rowE 3 v67o20 ([pickI (((tpX l i)).tdiv 26) 3, (pickI (((tpX l i)).tdiv 78) 9) - 4] : List Int), rowE 34 v67o12 ([(LRow.mk ([1 - (2 * (pickI ((tpX l i)) 2))]) 1 ((pickI (((tpX l i)).tdiv 2) 13) - 6))] : List LRow), (tpE v67o6 l i), rowE 25 vo (topJs l i : List Jump), rdE v5 ([0] : List Int), rdE v8 ([6] : List Int), (tpSv29 v29 l), (tpSv47 v47 l), blkE g11 (.cells #[v5, v8, v29, vo, v47] 42), (tpZ g1), rdE vl (l : List Int)] H67o20 := hS67o20
            refine ⟨Ext.mono hxx (fun _ h => h.elim), ?_⟩
            refine wpR_n [21] (by kernel_rfl) ?_
            refine List.forall_mem_cons.2 ⟨?_, List.forall_mem_nil _⟩
            have hS67o21 : St H0 NoB (fun b => S b ∧ b < H0.size) [(tpA v67o20 l i), rowE 34 v67o12 ([(LRow.mk ([1 - (2 * (pickI ((tpX l i)) 2))]) 1 ((pickI (((tpX l i)).tdiv 2) 13) - 6))] : List LRow), (tpE v67o6 l i), rowE 25 vo (topJs l i : List Jump), rdE v5 ([0] : List Int), rdE v8 ([6] : List Int), (tpSv29 v29 l), (tpSv47 v47 l), blkE g11 (.cells #[v5, v8, v29, vo, v47] 42), (tpZ g1), rdE vl (l : List Int)] H67o20 := St.fin hS67o20
            refine exE rfl rfl ?_
            refine e_buildSlice (vs := [v67o20]) (xs := ([[pickI (((tpX l i)).tdiv 26) 3, (pickI (((tpX l i)).tdiv 78) 9) - 4]] : List (List Int))) rfl Try.underlying23 Try.zeroValue32 rfl Try.sizeOf32 (par1 (v0 := v67o20) rfl) rfl hS67o21 (RdVs.cons (hS67o21.rdS 0 rfl) (RdVs.nil)) (by decide) (by decide) (fun v67o21 H67o21 hS67o21x2 hxx hvv67o21 => ?_)
            replace hS67o21x2 : St H0 NoB (fun b => S b ∧ b < H0.size) [rowE 32 v67o21 ([[pickI (((tpX l i)).tdiv 26) 3, (pickI (((tpX l i)).tdiv 78) 9) - 4]] : List (List Int)), (tpA v67o20 l i), rowE 34 v67o12 ([(LRow.mk ([1 - (2 * (pickI ((tpX l i)) 2))]) 1 ((pickI (((tpX l i)).tdiv 2) 13) - 6))] : List LRow), (tpE v67o6 l i), rowE 25 vo (topJs l i : List Jump), rdE v5 ([0] : List Int), rdE v8 ([6] : List Int), (tpSv29 v29 l), (tpSv47 v47 l), blkE g11 (.cells #[v5, v8, v29, vo, v47] 42), (tpZ g1), rdE vl (l : List Int)] H67o21 := hS67o21x2
            refine ⟨Ext.mono hxx (fun _ h => h.elim), ?_⟩
            refine wpR_q 22 (by kernel_rfl) rfl (quietAt rfl rfl (q_build (v := Value.agg #[v67o12, v67o21]) rfl (par2 (v0 := v67o12) (v1 := v67o21) rfl rfl) ((hS67o21x2.rowl 2 rfl).slc (fun zz0 => ∀ w, (Instr.build 25 #[(0, zz0), (1, v67o21)]).run Try.prog w = .ok (Value.agg #[zz0, v67o21]) w) (fun a0 n0 c0 => ((hS67o21x2.rowl 0 rfl).slc (fun zz1 => ∀ w, (Instr.build 25 #[(0, (.slice a0 n0 c0)), (1, zz1)]).run Try.prog w = .ok (Value.agg #[(.slice a0 n0 c0), zz1]) w) (fun a1 n1 c1 => (fun w => by kernel_rfl))))))) ?_
            refine wpR_n [23] (by kernel_rfl) ?_
            refine List.forall_mem_cons.2 ⟨?_, List.forall_mem_nil _⟩
            have hS67o23 : St H0 NoB (fun b => S b ∧ b < H0.size) [(tpC v67o12 l i), rowE 32 v67o21 ([[pickI (((tpX l i)).tdiv 26) 3, (pickI (((tpX l i)).tdiv 78) 9) - 4]] : List (List Int)), (tpA v67o20 l i), (tpE v67o6 l i), rowE 25 vo (topJs l i : List Jump), rdE v5 ([0] : List Int), rdE v8 ([6] : List Int), (tpSv29 v29 l), (tpSv47 v47 l), blkE g11 (.cells #[v5, v8, v29, vo, v47] 42), (tpZ g1), rdE vl (l : List Int)] H67o21 := St.fin (hS67o21x2.front 2 rfl)
            have hS67o23x2 : St H0 NoB (fun b => S b ∧ b < H0.size) [(tpD v67o21 l i), (tpC v67o12 l i), (tpA v67o20 l i), (tpE v67o6 l i), rowE 25 vo (topJs l i : List Jump), rdE v5 ([0] : List Int), rdE v8 ([6] : List Int), (tpSv29 v29 l), (tpSv47 v47 l), blkE g11 (.cells #[v5, v8, v29, vo, v47] 42), (tpZ g1), rdE vl (l : List Int)] H67o21 := St.fin (hS67o23.front 1 rfl)
            refine exE rfl rfl ?_
            refine e_buildSlice (vs := [Value.agg #[v67o12, v67o21]]) (xs := ([(Jump.mk ([(LRow.mk ([1 - (2 * (pickI ((tpX l i)) 2))]) 1 ((pickI (((tpX l i)).tdiv 2) 13) - 6))]) ([[pickI (((tpX l i)).tdiv 26) 3, (pickI (((tpX l i)).tdiv 78) 9) - 4]]))] : List Jump)) rfl Try.underlying40 Try.zeroValue25 rfl Try.sizeOf25 (par1 (v0 := Value.agg #[v67o12, v67o21]) rfl) rfl hS67o23x2 (RdVs.cons (Rd.jump.2 ⟨_, _, rfl, (hS67o23x2.rdS 1 rfl), (hS67o23x2.rdS 0 rfl)⟩) (RdVs.nil)) (by decide) (by decide) (fun v67o23 H67o23 hS67o23x3 hxx hvv67o23 => ?_)
            replace hS67o23x3 : St H0 NoB (fun b => S b ∧ b < H0.size) [rowE 25 v67o23 ([(Jump.mk ([(LRow.mk ([1 - (2 * (pickI ((tpX l i)) 2))]) 1 ((pickI (((tpX l i)).tdiv 2) 13) - 6))]) ([[pickI (((tpX l i)).tdiv 26) 3, (pickI (((tpX l i)).tdiv 78) 9) - 4]]))] : List Jump), (tpD v67o21 l i), (tpC v67o12 l i), (tpA v67o20 l i), (tpE v67o6 l i), rowE 25 vo (topJs l i : List Jump), rdE v5 ([0] : List Int), rdE v8 ([6] : List Int), (tpSv29 v29 l), (tpSv47 v47 l), blkE g11 (.cells #[v5, v8, v29, vo, v47] 42), (tpZ g1), rdE vl (l : List Int)] H67o23 := hS67o23x3
            refine ⟨Ext.mono hxx (fun _ h => h.elim), ?_⟩
            refine wpR_n [24] (by kernel_rfl) ?_
            refine List.forall_mem_cons.2 ⟨?_, List.forall_mem_nil _⟩
            have hS67o24 : St H0 NoB (fun b => S b ∧ b < H0.size) [(tpB v67o23 l i), (tpD v67o21 l i), (tpC v67o12 l i), (tpA v67o20 l i), (tpE v67o6 l i), rowE 25 vo (topJs l i : List Jump), rdE v5 ([0] : List Int), rdE v8 ([6] : List Int), (tpSv29 v29 l), (tpSv47 v47 l), blkE g11 (.cells #[v5, v8, v29, vo, v47] 42), (tpZ g1), rdE vl (l : List Int)] H67o23 := St.fin hS67o23x3
            have hS67o24x2 : St H0 NoB (fun b => S b ∧ b < H0.size) [rowE 25 vo (topJs l i : List Jump), (tpB v67o23 l i), (tpD v67o21 l i), (tpC v67o12 l i), (tpA v67o20 l i), (tpE v67o6 l i), rdE v5 ([0] : List Int), rdE v8 ([6] : List Int), (tpSv29 v29 l), (tpSv47 v47 l), blkE g11 (.cells #[v5, v8, v29, vo, v47] 42), (tpZ g1), rdE vl (l : List Int)] H67o23 := (hS67o24.front 5 rfl)
            refine exE rfl rfl ?_
            refine e_append rfl Try.underlying40 em_Jump_25_TopL1 rfl rfl hS67o24x2 (hS67o24x2.rdS 1 rfl) (fun _ h => h) (by have hb : GoT.bytes Jump = 48 := rfl; have hbl : (topJs l i).length = i := (by simp [topJs]); simp [hb, hbl]; omega) (by decide) (fun v67o24 H67o24 hS67o24x3 hxx => ?_)
            replace hS67o24x3 : St H0 NoB (fun b => S b ∧ b < H0.size) [rowE 25 v67o24 ((topJs l i) ++ ([(Jump.mk ([(LRow.mk ([1 - (2 * (pickI ((tpX l i)) 2))]) 1 ((pickI (((tpX l i)).tdiv 2) 13) - 6))]) ([[pickI (((tpX l i)).tdiv 26) 3, (pickI (((tpX l i)).tdiv 78) 9) - 4]]))]) : List Jump), (tpB v67o23 l i), (tpD v67o21 l i), (tpC v67o12 l i), (tpA v67o20 l i), (tpE v67o6 l i), rdE v5 ([0] : List Int), rdE v8 ([6] : List Int), (tpSv29 v29 l), (tpSv47 v47 l), blkE g11 (.cells #[v5, v8, v29, vo, v47] 42), (tpZ g1), rdE vl (l : List Int)] H67o24 := hS67o24x3
            have hS67o24x4 : St H0 NoB (fun b => S b ∧ b < H0.size) [rowE 25 v67o24 (topJs l (i + 1) : List Jump), (tpB v67o23 l i), (tpD v67o21 l i), (tpC v67o12 l i), (tpA v67o20 l i), (tpE v67o6 l i), rdE v5 ([0] : List Int), rdE v8 ([6] : List Int), (tpSv29 v29 l), (tpSv47 v47 l), blkE g11 (.cells #[v5, v8, v29, vo, v47] 42), (tpZ g1), rdE vl (l : List Int)] H67o24 := by rw [show (topJs l (i + 1)) = ((topJs l i) ++ ([(Jump.mk ([(LRow.mk ([1 - (2 * (pickI ((tpX l i)) 2))]) 1 ((pickI (((tpX l i)).tdiv 2) 13) - 6))]) ([[pickI (((tpX l i)).tdiv 26) 3, (pickI (((tpX l i)).tdiv 78) 9) - 4]]))])) from (by rw [topJs_next]; rfl)]; exact hS67o24x3
            refine ⟨Ext.mono hxx (labS_of 0 rfl (fun _ _ => trivial)), ?_⟩
            refine wpR_q 25 (by kernel_rfl) rfl (quietAt rfl rfl (q_fieldAddr rfl Try.underlying42 rfl Try.sizeOf40 a66_3)) ?_
            refine wpR_n [26] (by kernel_rfl) ?_
            refine List.forall_mem_cons.2 ⟨?_, List.forall_mem_nil _⟩
            refine exE rfl rfl ?_
            refine e_storeBlk (v := v67o24) rfl rfl rfl (oneCell_rdL (hS67o24x4.rowl 0 rfl)) Try.sizeOf40 (by show _ < 5; decide) (hS67o24x4.front 10 rfl) (fun H67o26 hS67o26 hxx => ?_)
            replace hS67o26 : St H0 NoB (fun b => S b ∧ b < H0.size) [blkE g11 (.cells #[v5, v8, v29, v67o24, v47] 42), rowE 25 v67o24 (topJs l (i + 1) : List Jump), (tpB v67o23 l i), (tpD v67o21 l i), (tpC v67o12 l i), (tpA v67o20 l i), (tpE v67o6 l i), rdE v5 ([0] : List Int), rdE v8 ([6] : List Int), (tpSv29 v29 l), (tpSv47 v47 l), (tpZ g1), rdE vl (l : List Int)] H67o26 := hS67o26
            refine ⟨Ext.mono hxx (labS_of 1 rfl (fun _ _ => trivial)), ?_⟩
            refine wpR_end (by kernel_rfl) ?_
            exact ⟨v67o24, y67o3, y67o9, y67o15, y67o18, a66_0, a66_2, a66_3, a66_4, (hS67o26.drop (List.Sublist.cons_cons _ (List.Sublist.cons_cons _ (List.Sublist.cons _ (List.Sublist.cons _ (List.Sublist.cons _ (List.Sublist.cons _ (List.Sublist.cons _ (List.Sublist.cons_cons _ (List.Sublist.cons_cons _ (List.Sublist.cons_cons _ (List.Sublist.cons_cons _ (List.Sublist.cons_cons _ (List.Sublist.cons_cons _ (List.Sublist.slnil)))))))))))))))⟩
          · refine exE rfl rfl ?_
            refine e_call rfl Try.call20 (arr2 (v0 := I (((tpX l i)).tdiv 78)) (v1 := I (9)) rfl rfl) (Picked (((tpX l i)).tdiv 78) 9 (by omega)) ?_
            rintro _ H67o18 ⟨hxx, rfl, y67o18⟩
            have hS67o18 : St H0 NoB (fun b => S b ∧ b < H0.size) [rowE 3 v67o6 ([1 - (2 * (pickI ((tpX l i)) 2))] : List Int), rowE 25 vo (topJs l i : List Jump), rdE v5 ([0] : List Int), rdE v8 ([6] : List Int), (tpSv29 v29 l), (tpSv47 v47 l), blkE g11 (.cells #[v5, v8, v29, vo, v47] 42), (tpZ g1), rdE vl (l : List Int)] H67o18 := hS67o15.ext hxx
            refine ⟨Ext.mono hxx (fun _ h => h.elim), ?_⟩
            refine wpR_q 19 (by kernel_rfl) rfl (quietAt rfl rfl (q_sub rfl rfl rfl (by constructor <;> omega))) ?_
            refine wpR_n [12, 20] (by kernel_rfl) ?_
            refine List.forall_mem_cons.2 ⟨?_, List.forall_mem_cons.2 ⟨?_, List.forall_mem_nil _⟩⟩
            · have hS67o12 : St H0 NoB (fun b => S b ∧ b < H0.size) [(tpE v67o6 l i), rowE 25 vo (topJs l i : List Jump), rdE v5 ([0] : List Int), rdE v8 ([6] : List Int), (tpSv29 v29 l), (tpSv47 v47 l), blkE g11 (.cells #[v5, v8, v29, vo, v47] 42), (tpZ g1), rdE vl (l : List Int)] H67o18 := St.fin hS67o18
              refine exE rfl rfl ?_
              refine e_buildSlice (vs := [Value.agg #[v67o6, I (1), I ((pickI (((tpX l i)).tdiv 2) 13) - 6)]]) (xs := ([(LRow.mk ([1 - (2 * (pickI ((tpX l i)) 2))]) 1 ((pickI (((tpX l i)).tdiv 2) 13) - 6))] : List LRow)) rfl Try.underlying22 Try.zeroValue34 rfl Try.sizeOf34 (par1 (v0 := Value.agg #[v67o6, I (1), I ((pickI (((tpX l i)).tdiv 2) 13) - 6)]) rfl) rfl hS67o12 (RdVs.cons (Rd.lRow.2 ⟨_, rfl, (hS67o12.rdS 0 rfl), (by first | assumption | (constructor <;> (dsimp only; omega)) | (constructor <;> omega)), (by first | assumption | (constructor <;> (dsimp only; omega)) | (constructor <;> omega))⟩) (RdVs.nil)) (by decide) (by decide) (fun v67o12 H67o12 hS67o12x2 hxx hvv67o12 => ?_)
              replace hS67o12x2 : St H0 NoB (fun b => S b ∧ b < H0.size) [rowE 34 v67o12 ([(LRow.mk ([1 - (2 * (pickI ((tpX l i)) 2))]) 1 ((pickI (((tpX l i)).tdiv 2) 13) - 6))] : List LRow), (tpE v67o6 l i), rowE 25 vo (topJs l i : List Jump), rdE v5 ([0] : List Int), rdE v8 ([6] : List Int), (tpSv29 v29 l), (tpSv47 v47 l), blkE g11 (.cells #[v5, v8, v29, vo, v47] 42), (tpZ g1), rdE vl (l : List Int)] H67o12 := hS67o12x2
              refine ⟨Ext.mono hxx (fun _ h => h.elim), ?_⟩
              refine wpR_n [20] (by kernel_rfl) ?_
              refine List.forall_mem_cons.2 ⟨?_, List.forall_mem_nil _⟩
              refine exE rfl rfl ?_
              refine e_buildSlice (vs := [I (pickI (((tpX l i)).tdiv 26) 3), I ((pickI (((tpX l i)).tdiv 78) 9) - 4)]) (xs := ([pickI (((tpX l i)).tdiv 26) 3, (pickI (((tpX l i)).tdiv 78) 9) - 4] : List Int)) rfl Try.underlying32 Try.zeroValue3 rfl Try.sizeOf3 (par2 (v0 := I (pickI (((tpX l i)).tdiv 26) 3)) (v1 := I ((pickI (((tpX l i)).tdiv 78) 9) - 4)) rfl rfl) rfl hS67o12x2 (RdVs.cons (Rd.int.2 ⟨rfl, by constructor <;> omega⟩) (RdVs.cons (Rd.int.2 ⟨rfl, by constructor <;> omega⟩) (RdVs.nil))) (by decide) (by decide) (fun v67o20 H67o20 hS67o20 hxx hvv67o20 => ?_)
              replace hS67o20 : St H0 NoB (fun b => S b ∧ b < H0.size) [rowE 3 v67o20 ([pickI (((tpX l i)).tdiv 26) 3, (pickI (((tpX l i)).tdiv 78) 9) - 4] : List Int), rowE 34 v67o12 ([(LRow.mk ([1 - (2 * (pickI ((tpX l i)) 2))]) 1 ((pickI (((tpX l i)).tdiv 2) 13) - 6))] : List LRow), (tpE v67o6 l i), rowE 25 vo (topJs l i : List Jump), rdE v5 ([0] : List Int), rdE v8 ([6] : List Int), (tpSv29 v29 l), (tpSv47 v47 l), blkE g11 (.cells #[v5, v8, v29, vo, v47] 42), (tpZ g1), rdE vl (l : List Int)] H67o20 := hS67o20
              refine ⟨Ext.mono hxx (fun _ h => h.elim), ?_⟩
              refine wpR_n [21] (by kernel_rfl) ?_
              refine List.forall_mem_cons.2 ⟨?_, List.forall_mem_nil _⟩
              have hS67o21 : St H0 NoB (fun b => S b ∧ b < H0.size) [(tpA v67o20 l i), rowE 34 v67o12 ([(LRow.mk ([1 - (2 * (pickI ((tpX l i)) 2))]) 1 ((pickI (((tpX l i)).tdiv 2) 13) - 6))] : List LRow), (tpE v67o6 l i), rowE 25 vo (topJs l i : List Jump), rdE v5 ([0] : List Int), rdE v8 ([6] : List Int), (tpSv29 v29 l), (tpSv47 v47 l), blkE g11 (.cells #[v5, v8, v29, vo, v47] 42), (tpZ g1), rdE vl (l : List Int)] H67o20 := St.fin hS67o20
              refine exE rfl rfl ?_
              refine e_buildSlice (vs := [v67o20]) (xs := ([[pickI (((tpX l i)).tdiv 26) 3, (pickI (((tpX l i)).tdiv 78) 9) - 4]] : List (List Int))) rfl Try.underlying23 Try.zeroValue32 rfl Try.sizeOf32 (par1 (v0 := v67o20) rfl) rfl hS67o21 (RdVs.cons (hS67o21.rdS 0 rfl) (RdVs.nil)) (by decide) (by decide) (fun v67o21 H67o21 hS67o21x2 hxx hvv67o21 => ?_)
              replace hS67o21x2 : St H0 NoB (fun b => S b ∧ b < H0.size) [rowE 32 v67o21 ([[pickI (((tpX l i)).tdiv 26) 3, (pickI (((tpX l i)).tdiv 78) 9) - 4]] : List (List Int)), (tpA v67o20 l i), rowE 34 v67o12 ([(LRow.mk ([1 - (2 * (pickI ((tpX l i)) 2))]) 1 ((pickI (((tpX l i)).tdiv 2) 13) - 6))] : List LRow), (tpE v67o6 l i), rowE 25 vo (topJs l i : List Jump), rdE v5 ([0] : List Int), rdE v8 ([6] : List Int), (tpSv29 v29 l), (tpSv47 v47 l), blkE g11 (.cells #[v5, v8, v29, vo, v47] 42), (tpZ g1), rdE vl (l : List Int)] H67o21 := hS67o21x2
              refine ⟨Ext.mono hxx (fun _ h => h.elim), ?_⟩
              refine wpR_q 22 (by kernel_rfl) rfl (quietAt rfl rfl (q_build (v := Value.agg #[v67o12, v67o21]) rfl (par2 (v0 := v67o12) (v1 := v67o21) rfl rfl) ((hS67o21x2.rowl 2 rfl).slc (fun zz0 => ∀ w, (Instr.build 25 #[(0, zz0), (1, v67o21)]).run Try.prog w = .ok (Value.agg #[zz0, v67o21]) w) (fun a0 n0 c0 => ((hS67o21x2.rowl 0 rfl).slc (fun zz1 => ∀ w, (Instr.build 25 #[(0, (.slice a0 n0 c0)), (1, zz1)]).run Try.prog w = .ok (Value.agg #[(.slice a0 n0 c0), zz1]) w) (fun a1 n1 c1 => (fun w => by kernel_rfl))))))) ?_
              refine wpR_n [23] (by kernel_rfl) ?_
              refine List.forall_mem_cons.2 ⟨?_, List.forall_mem_nil _⟩
              have hS67o23 : St H0 NoB (fun b => S b ∧ b < H0.size) [(tpC v67o12 l i), rowE 32 v67o21 ([[pickI (((tpX l i)).tdiv 26) 3, (pickI (((tpX l i)).tdiv 78) 9) - 4]] : List (List Int)), (tpA v67o20 l i), (tpE v67o6 l i), rowE 25 vo (topJs l i : List Jump), rdE v5 ([0] : List Int), rdE v8 ([6] : List Int), (tpSv29 v29 l), (tpSv47 v47 l), blkE g11 (.cells #[v5, v8, v29, vo, v47] 42), (tpZ g1), rdE vl (l : List Int)] H67o21 := St.fin (hS67o21x2.front 2 rfl)
              have hS67o23x2 : St H0 NoB (fun b => S b ∧ b < H0.size) [(tpD v67o21 l i), (tpC v67o12 l i), (tpA v67o20 l i), (tpE v67o6 l i), rowE 25 vo (topJs l i : List Jump), rdE v5 ([0] : List Int), rdE v8 ([6] : List Int), (tpSv29 v29 l), (tpSv47 v47 l), blkE g11 (.cells #[v5, v8, v29, vo, v47] 42), (tpZ g1), rdE vl (l : List Int)] H67o21 := St.fin (hS67o23.front 1 rfl)
              refine exE rfl rfl ?_
              refine e_buildSlice (vs := [Value.agg #[v67o12, v67o21]]) (xs := ([(Jump.mk ([(LRow.mk ([1 - (2 * (pickI ((tpX l i)) 2))]) 1 ((pickI (((tpX l i)).tdiv 2) 13) - 6))]) ([[pickI (((tpX l i)).tdiv 26) 3, (pickI (((tpX l i)).tdiv 78) 9) - 4]]))] : List Jump)) rfl Try.underlying40 Try.zeroValue25 rfl Try.sizeOf25 (par1 (v0 := Value.agg #[v67o12, v67o21]) rfl) rfl hS67o23x2 (RdVs.cons (Rd.jump.2 ⟨_, _, rfl, (hS67o23x2.rdS 1 rfl), (hS67o23x2.rdS 0 rfl)⟩) (RdVs.nil)) (by decide) (by decide) (fun v67o23 H67o23 hS67o23x3 hxx hvv67o23 => ?_)
              replace hS67o23x3 : St H0 NoB (fun b => S b ∧ b < H0.size) [rowE 25 v67o23 ([(Jump.mk ([(LRow.mk ([1 - (2 * (pickI ((tpX l i)) 2))]) 1 ((pickI (((tpX l i)).tdiv 2) 13) - 6))]) ([[pickI (((tpX l i)).tdiv 26) 3, (pickI (((tpX l i)).tdiv 78) 9) - 4]]))] : List Jump), (tpD v67o21 l i), (tpC v67o12 l i), (tpA v67o20 l i), (tpE v67o6 l i), rowE 25 vo (topJs l i : List Jump), rdE v5 ([0] : List Int), rdE v8 ([6] : List Int), (tpSv29 v29 l), (tpSv47 v47 l), blkE g11 (.cells #[v5, v8, v29, vo, v47] 42), (tpZ g1), rdE vl (l : List Int)] H67o23 := hS67o23x3
              refine ⟨Ext.mono hxx (fun _ h => h.elim), ?_⟩
              refine wpR_n [24] (by kernel_rfl) ?_
              refine List.forall_mem_cons.2 ⟨?_, List.forall_mem_nil _⟩
              have hS67o24 : St H0 NoB (fun b => S b ∧ b < H0.size) [(tpB v67o23 l i), (tpD v67o21 l i), (tpC v67o12 l i), (tpA v67o20 l i), (tpE v67o6 l i), rowE 25 vo (topJs l i : List Jump), rdE v5 ([0] : List Int), rdE v8 ([6] : List Int), (tpSv29 v29 l), (tpSv47 v47 l), blkE g11 (.cells #[v5, v8, v29, vo, v47] 42), (tpZ g1), rdE vl (l : List Int)] H67o23 := St.fin hS67o23x3
              have hS67o24x2 : St H0 NoB (fun b => S b ∧ b < H0.size) [rowE 25 vo (topJs l i : List Jump), (tpB v67o23 l i), (tpD v67o21 l i), (tpC v67o12 l i), (tpA v67o20 l i), (tpE v67o6 l i), rdE v5 ([0] : List Int), rdE v8 ([6] : List Int), (tpSv29 v29 l), (tpSv47 v47 l), blkE g11 (.cells #[v5, v8, v29, vo, v47] 42), (tpZ g1), rdE vl (l : List Int)] H67o23 := (hS67o24.front 5 rfl)
              refine exE rfl rfl ?_
              refine e_append rfl Try.underlying40 em_Jump_25_TopL1 rfl rfl hS67o24x2 (hS67o24x2.rdS 1 rfl) (fun _ h => h) (by have hb : GoT.bytes Jump = 48 := rfl; have hbl : (topJs l i).length = i := (by simp [topJs]); simp [hb, hbl]; omega) (by decide) (fun v67o24 H67o24 hS67o24x3 hxx => ?_)
              replace hS67o24x3 : St H0 NoB (fun b => S b ∧ b < H0.size) [rowE 25 v67o24 ((topJs l i) ++ ([(Jump.mk ([(LRow.mk ([1 - (2 * (pickI ((tpX l i)) 2))]) 1 ((pickI (((tpX l i)).tdiv 2) 13) - 6))]) ([[pickI (((tpX l i)).tdiv 26) 3, (pickI (((tpX l i)).tdiv 78) 9) - 4]]))]) : List Jump), (tpB v67o23 l i), (tpD v67o21 l i), (tpC v67o12 l i), (tpA v67o20 l i), (tpE v67o6 l i), rdE v5 ([0] : List Int), rdE v8 ([6] : List Int), (tpSv29 v29 l), (tpSv47 v47 l), blkE g11 (.cells #[v5, v8, v29, vo, v47] 42), (tpZ g1), rdE vl (l : List Int)] H67o24 := hS67o24x3
              have hS67o24x4 : St H0 NoB (fun b => S b ∧ b < H0.size) [rowE 25 v67o24 (topJs l (i + 1) : List Jump), (tpB v67o23 l i), (tpD v67o21 l i), (tpC v67o12 l i), (tpA v67o20 l i), (tpE v67o6 l i), rdE v5 ([0] : List Int), rdE v8 ([6] : List Int), (tpSv29 v29 l), (tpSv47 v47 l), blkE g11 (.cells #[v5, v8, v29, vo, v47] 42), (tpZ g1), rdE vl (l : List Int)] H67o24 := by rw [show (topJs l (i + 1)) = ((topJs l i) ++ ([(Jump.mk ([(LRow.mk ([1 - (2 * (pickI ((tpX l i)) 2))]) 1 ((pickI (((tpX l i)).tdiv 2) 13) - 6))]) ([[pickI (((tpX l i)).tdiv 26) 3, (pickI (((tpX l i)).tdiv 78) 9) - 4]]))])) from (by rw [topJs_next]; rfl)]; exact hS67o24x3
              refine ⟨Ext.mono hxx (labS_of 0 rfl (fun _ _ => trivial)), ?_⟩
              refine wpR_q 25 (by kernel_rfl) rfl (quietAt rfl rfl (q_fieldAddr rfl Try.underlying42 rfl Try.sizeOf40 a66_3)) ?_
              refine wpR_n [26] (by kernel_rfl) ?_
              refine List.forall_mem_cons.2 ⟨?_, List.forall_mem_nil _⟩
              refine exE rfl rfl ?_
              refine e_storeBlk (v := v67o24) rfl rfl rfl (oneCell_rdL (hS67o24x4.rowl 0 rfl)) Try.sizeOf40 (by show _ < 5; decide) (hS67o24x4.front 10 rfl) (fun H67o26 hS67o26 hxx => ?_)
              replace hS67o26 : St H0 NoB (fun b => S b ∧ b < H0.size) [blkE g11 (.cells #[v5, v8, v29, v67o24, v47] 42), rowE 25 v67o24 (topJs l (i + 1) : List Jump), (tpB v67o23 l i), (tpD v67o21 l i), (tpC v67o12 l i), (tpA v67o20 l i), (tpE v67o6 l i), rdE v5 ([0] : List Int), rdE v8 ([6] : List Int), (tpSv29 v29 l), (tpSv47 v47 l), (tpZ g1), rdE vl (l : List Int)] H67o26 := hS67o26
              refine ⟨Ext.mono hxx (labS_of 1 rfl (fun _ _ => trivial)), ?_⟩
              refine wpR_end (by kernel_rfl) ?_
              exact ⟨v67o24, y67o3, y67o9, y67o15, y67o18, a66_0, a66_2, a66_3, a66_4, (hS67o26.drop (List.Sublist.cons_cons _ (List.Sublist.cons_cons _ (List.Sublist.cons _ (List.Sublist.cons _ (List.Sublist.cons _ (List.Sublist.cons _ (List.Sublist.cons _ (List.Sublist.cons_cons _ (List.Sublist.cons_cons _ (List.Sublist.cons_cons _ (List.Sublist.cons_cons _ (List.Sublist.cons_cons _ (List.Sublist.cons_cons _ (List.Sublist.slnil)))))))))))))))⟩
            · refine exE rfl rfl ?_
              refine e_buildSlice (vs := [I (pickI (((tpX l i)).tdiv 26) 3), I ((pickI (((tpX l i)).tdiv 78) 9) - 4)]) (xs := ([pickI (((tpX l i)).tdiv 26) 3, (pickI (((tpX l i)).tdiv 78) 9) - 4] : List Int)) rfl Try.underlying32 Try.zeroValue3 rfl Try.sizeOf3 (par2 (v0 := I (pickI (((tpX l i)).tdiv 26) 3)) (v1 := I ((pickI (((tpX l i)).tdiv 78) 9) - 4)) rfl rfl) rfl hS67o18 (RdVs.cons (Rd.int.2 ⟨rfl, by constructor <;> omega⟩) (RdVs.cons (Rd.int.2 ⟨rfl, by constructor <;> omega⟩) (RdVs.nil))) (by decide) (by decide) (fun v67o20 H67o20 hS67o20 hxx hvv67o20 => ?_)
              replace hS67o20 : St H0 NoB (fun b => S b ∧ b < H0.size) [rowE 3 v67o20 ([pickI (((tpX l i)).tdiv 26) 3, (pickI (((tpX l i)).tdiv 78) 9) - 4] : List Int), rowE 3 v67o6 ([1 - (2 * (pickI ((tpX l i)) 2))] : List Int), rowE 25 vo (topJs l i : List Jump), rdE v5 ([0] : List Int), rdE v8 ([6] : List Int), (tpSv29 v29 l), (tpSv47 v47 l), blkE g11 (.cells #[v5, v8, v29, vo, v47] 42), (tpZ g1), rdE vl (l : List Int)] H67o20 := hS67o20
              refine ⟨Ext.mono hxx (fun _ h => h.elim), ?_⟩
              refine wpR_n [12, 21] (by kernel_rfl) ?_
              refine List.forall_mem_cons.2 ⟨?_, List.forall_mem_cons.2 ⟨?_, List.forall_mem_nil _⟩⟩
              · have hS67o12 : St H0 NoB (fun b => S b ∧ b < H0.size) [(tpE v67o6 l i), rowE 3 v67o20 ([pickI (((tpX l i)).tdiv 26) 3, (pickI (((tpX l i)).tdiv 78) 9) - 4] : List Int), rowE 25 vo (topJs l i : List Jump), rdE v5 ([0] : List Int), rdE v8 ([6] : List Int), (tpSv29 v29 l), (tpSv47 v47 l), blkE g11 (.cells #[v5, v8, v29, vo, v47] 42), (tpZ g1), rdE vl (l : List Int)] H67o20 := St.fin (hS67o20.front 1 rfl)
                refine exE rfl rfl ?_
                refine e_buildSlice (vs := [Value.agg #[v67o6, I (1), I ((pickI (((tpX l i)).tdiv 2) 13) - 6)]]) (xs := ([(LRow.mk ([1 - (2 * (pickI ((tpX l i)) 2))]) 1 ((pickI (((tpX l i)).tdiv 2) 13) - 6))] : List LRow)) rfl Try.underlying22 Try.zeroValue34 rfl Try.sizeOf34 (par1 (v0 := Value.agg #[v67o6, I (1), I ((pickI (((tpX l i)).tdiv 2) 13) - 6)]) rfl) rfl hS67o12 (RdVs.cons (Rd.lRow.2 ⟨_, rfl, (hS67o12.rdS 0 rfl), (by first | assumption | (constructor <;> (dsimp only; omega)) | (constructor <;> omega)), (by first | assumption | (constructor <;> (dsimp only; omega)) | (constructor <;> omega))⟩) (RdVs.nil)) (by decide) (by decide) (fun v67o12 H67o12 hS67o12x2 hxx hvv67o12 => ?_)
                replace hS67o12x2 : St H0 NoB (fun b => S b ∧ b < H0.size) [rowE 34 v67o12 ([(LRow.mk ([1 - (2 * (pickI ((tpX l i)) 2))]) 1 ((pickI (((tpX l i)).tdiv 2) 13) - 6))] : List LRow), (tpE v67o6 l i), rowE 3 v67o20 ([pickI (((tpX l i)).tdiv 26) 3, (pickI (((tpX l i)).tdiv 78) 9) - 4] : List Int), rowE 25 vo (topJs l i : List Jump), rdE v5 ([0] : List Int), rdE v8 ([6] : List Int), (tpSv29 v29 l), (tpSv47 v47 l), blkE g11 (.cells #[v5, v8, v29, vo, v47] 42), (tpZ g1), rdE vl (l : List Int)] H67o12 := hS67o12x2
                refine ⟨Ext.mono hxx (fun _ h => h.elim), ?_⟩
                refine wpR_n [21] (by kernel_rfl) ?_
                refine List.forall_mem_cons.2 ⟨?_, List.forall_mem_nil _⟩
                have hS67o21 : St H0 NoB (fun b => S b ∧ b < H0.size) [(tpA v67o20 l i), rowE 34 v67o12 ([(LRow.mk ([1 - (2 * (pickI ((tpX l i)) 2))]) 1 ((pickI (((tpX l i)).tdiv 2) 13) - 6))] : List LRow), (tpE v67o6 l i), rowE 25 vo (topJs l i : List Jump), rdE v5 ([0] : List Int), rdE v8 ([6] : List Int), (tpSv29 v29 l), (tpSv47 v47 l), blkE g11 (.cells #[v5, v8, v29, vo, v47] 42), (tpZ g1), rdE vl (l : List Int)] H67o12 := St.fin (hS67o12x2.front 2 rfl)
                refine exE rfl rfl ?_
                refine e_buildSlice (vs := [v67o20]) (xs := ([[pickI (((tpX l i)).tdiv 26) 3, (pickI (((tpX l i)).tdiv 78) 9) - 4]] : List (List Int))) rfl Try.underlying23 Try.zeroValue32 rfl Try.sizeOf32 (par1 (v0 := v67o20) rfl) rfl hS67o21 (RdVs.cons (hS67o21.rdS 0 rfl) (RdVs.nil)) (by decide) (by decide) (fun v67o21 H67o21 hS67o21x2 hxx hvv67o21 => ?_)
                replace hS67o21x2 : St H0 NoB (fun b => S b ∧ b < H0.size) [rowE 32 v67o21 ([[pickI (((tpX l i)).tdiv 26) 3, (pickI (((tpX l i)).tdiv 78) 9) - 4]] : List (List Int)), (tpA v67o20 l i), rowE 34 v67o12 ([(LRow.mk ([1 - (2 * (pickI ((tpX l i)) 2))]) 1 ((pickI (((tpX l i)).tdiv 2) 13) - 6))] : List LRow), (tpE v67o6 l i), rowE 25 vo (topJs l i : List Jump), rdE v5 ([0] : List Int), rdE v8 ([6] : List Int), (tpSv29 v29 l), (tpSv47 v47 l), blkE g11 (.cells #[v5, v8, v29, vo, v47] 42), (tpZ g1), rdE vl (l : List Int)] H67o21 := hS67o21x2
                refine ⟨Ext.mono hxx (fun _ h => h.elim), ?_⟩
                refine wpR_q 22 (by kernel_rfl) rfl (quietAt rfl rfl (q_build (v := Value.agg #[v67o12, v67o21]) rfl (par2 (v0 := v67o12) (v1 := v67o21) rfl rfl) ((hS67o21x2.rowl 2 rfl).slc (fun zz0 => ∀ w, (Instr.build 25 #[(0, zz0), (1, v67o21)]).run Try.prog w = .ok (Value.agg #[zz0, v67o21]) w) (fun a0 n0 c0 => ((hS67o21x2.rowl 0 rfl).slc (fun zz1 => ∀ w, (Instr.build 25 #[(0, (.slice a0 n0 c0)), (1, zz1)]).run Try.prog w = .ok (Value.agg #[(.slice a0 n0 c0), zz1]) w) (fun a1 n1 c1 => (fun w => by kernel_rfl))))))) ?_
                refine wpR_n [23] (by kernel_rfl) ?_
                refine List.forall_mem_cons.2 ⟨?_, List.forall_mem_nil _⟩
                have hS67o23 : St H0 NoB (fun b => S b ∧ b < H0.size) [(tpC v67o12 l i), rowE 32 v67o21 ([[pickI (((tpX l i)).tdiv 26) 3, (pickI (((tpX l i)).tdiv 78) 9) - 4]] : List (List Int)), (tpA v67o20 l i), (tpE v67o6 l i), rowE 25 vo (topJs l i : List Jump), rdE v5 ([0] : List Int), rdE v8 ([6] : List Int), (tpSv29 v29 l), (tpSv47 v47 l), blkE g11 (.cells #[v5, v8, v29, vo, v47] 42), (tpZ g1), rdE vl (l : List Int)] H67o21 := St.fin (hS67o21x2.front 2 rfl)
                have hS67o23x2 : St H0 NoB (fun b => S b ∧ b < H0.size) [(tpD v67o21 l i), (tpC v67o12 l i), (tpA v67o20 l i), (tpE v67o6 l i), rowE 25 vo (topJs l i : List Jump), rdE v5 ([0] : List Int), rdE v8 ([6] : List Int), (tpSv29 v29 l), (tpSv47 v47 l), blkE g11 (.cells #[v5, v8, v29, vo, v47] 42), (tpZ g1), rdE vl (l : List Int)] H67o21 := St.fin (hS67o23.front 1 rfl)
                refine exE rfl rfl ?_
                refine e_buildSlice (vs := [Value.agg #[v67o12, v67o21]]) (xs := ([(Jump.mk ([(LRow.mk ([1 - (2 * (pickI ((tpX l i)) 2))]) 1 ((pickI (((tpX l i)).tdiv 2) 13) - 6))]) ([[pickI (((tpX l i)).tdiv 26) 3, (pickI (((tpX l i)).tdiv 78) 9) - 4]]))] : List Jump)) rfl Try.underlying40 Try.zeroValue25 rfl Try.sizeOf25 (par1 (v0 := Value.agg #[v67o12, v67o21]) rfl) rfl hS67o23x2 (RdVs.cons (Rd.jump.2 ⟨_, _, rfl, (hS67o23x2.rdS 1 rfl), (hS67o23x2.rdS 0 rfl)⟩) (RdVs.nil)) (by decide) (by decide) (fun v67o23 H67o23 hS67o23x3 hxx hvv67o23 => ?_)
                replace hS67o23x3 : St H0 NoB (fun b => S b ∧ b < H0.size) [rowE 25 v67o23 ([(Jump.mk ([(LRow.mk ([1 - (2 * (pickI ((tpX l i)) 2))]) 1 ((pickI (((tpX l i)).tdiv 2) 13) - 6))]) ([[pickI (((tpX l i)).tdiv 26) 3, (pickI (((tpX l i)).tdiv 78) 9) - 4]]))] : List Jump), (tpD v67o21 l i), (tpC v67o12 l i), (tpA v67o20 l i), (tpE v67o6 l i), rowE 25 vo (topJs l i : List Jump), rdE v5 ([0] : List Int), rdE v8 ([6] : List Int), (tpSv29 v29 l), (tpSv47 v47 l), blkE g11 (.cells #[v5, v8, v29, vo, v47] 42), (tpZ g1), rdE vl (l : List Int)] H67o23 := hS67o23x3
                refine ⟨Ext.mono hxx (fun _ h => h.elim), ?_⟩
                refine wpR_n [24] (by kernel_rfl) ?_
                refine List.forall_mem_cons.2 ⟨?_, List.forall_mem_nil _⟩
                have hS67o24 : St H0 NoB (fun b => S b ∧ b < H0.size) [(tpB v67o23 l i), (tpD v67o21 l i), (tpC v67o12 l i), (tpA v67o20 l i), (tpE v67o6 l i), rowE 25 vo (topJs l i : List Jump), rdE v5 ([0] : List Int), rdE v8 ([6] : List Int), (tpSv29 v29 l), (tpSv47 v47 l), blkE g11 (.cells #[v5, v8, v29, vo, v47] 42), (tpZ g1), rdE vl (l : List Int)] H67o23 := St.fin hS67o23x3
                have hS67o24x2 : St H0 NoB (fun b => S b ∧ b < H0.size) [rowE 25 vo (topJs l i : List Jump), (tpB v67o23 l i), (tpD v67o21 l i), (tpC v67o12 l i), (tpA v67o20 l i), (tpE v67o6 l i), rdE v5 ([0] : List Int), rdE v8 ([6] : List Int), (tpSv29 v29 l), (tpSv47 v47 l), blkE g11 (.cells #[v5, v8, v29, vo, v47] 42), (tpZ g1), rdE vl (l : List Int)] H67o23 := (hS67o24.front 5 rfl)
                refine exE rfl rfl ?_
                refine e_append rfl Try.underlying40 em_Jump_25_TopL1 rfl rfl hS67o24x2 (hS67o24x2.rdS 1 rfl) (fun _ h => h) (by have hb : GoT.bytes Jump = 48 := rfl; have hbl : (topJs l i).length = i := (by simp [topJs]); simp [hb, hbl]; omega) (by decide) (fun v67o24 H67o24 hS67o24x3 hxx => ?_)
                replace hS67o24x3 : St H0 NoB (fun b => S b ∧ b < H0.size) [rowE 25 v67o24 ((topJs l i) ++ ([(Jump.mk ([(LRow.mk ([1 - (2 * (pickI ((tpX l i)) 2))]) 1 ((pickI (((tpX l i)).tdiv 2) 13) - 6))]) ([[pickI (((tpX l i)).tdiv 26) 3, (pickI (((tpX l i)).tdiv 78) 9) - 4]]))]) : List Jump), (tpB v67o23 l i), (tpD v67o21 l i), (tpC v67o12 l i), (tpA v67o20 l i), (tpE v67o6 l i), rdE v5 ([0] : List Int), rdE v8 ([6] : List Int), (tpSv29 v29 l), (tpSv47 v47 l), blkE g11 (.cells #[v5, v8, v29, vo, v47] 42), (tpZ g1), rdE vl (l : List Int)] H67o24 := hS67o24x3
                have hS67o24x4 : St H0 NoB (fun b => S b ∧ b < H0.size) [rowE 25 v67o24 (topJs l (i + 1) : List Jump), (tpB v67o23 l i), (tpD v67o21 l i), (tpC v67o12 l i), (tpA v67o20 l i), (tpE v67o6 l i), rdE v5 ([0] : List Int), rdE v8 ([6] : List Int), (tpSv29 v29 l), (tpSv47 v47 l), blkE g11 (.cells #[v5, v8, v29, vo, v47] 42), (tpZ g1), rdE vl (l : List Int)] H67o24 := by rw [show (topJs l (i + 1)) = ((topJs l i) ++ ([(Jump.mk ([(LRow.mk ([1 - (2 * (pickI ((tpX l i)) 2))]) 1 ((pickI (((tpX l i)).tdiv 2) 13) - 6))]) ([[pickI (((tpX l i)).tdiv 26) 3, (pickI (((tpX l i)).tdiv 78) 9) - 4]]))])) from (by rw [topJs_next]; rfl)]; exact hS67o24x3
                refine ⟨Ext.mono hxx (labS_of 0 rfl (fun _ _ => trivial)), ?_⟩
                refine wpR_q 25 (by kernel_rfl) rfl (quietAt rfl rfl (q_fieldAddr rfl Try.underlying42 rfl Try.sizeOf40 a66_3)) ?_
                refine wpR_n [26] (by kernel_rfl) ?_
                refine List.forall_mem_cons.2 ⟨?_, List.forall_mem_nil _⟩
                refine exE rfl rfl ?_
                refine e_storeBlk (v := v67o24) rfl rfl rfl (oneCell_rdL (hS67o24x4.rowl 0 rfl)) Try.sizeOf40 (by show _ < 5; decide) (hS67o24x4.front 10 rfl) (fun H67o26 hS67o26 hxx => ?_)
                replace hS67o26 : St H0 NoB (fun b => S b ∧ b < H0.size) [blkE g11 (.cells #[v5, v8, v29, v67o24, v47] 42), rowE 25 v67o24 (topJs l (i + 1) : List Jump), (tpB v67o23 l i), (tpD v67o21 l i), (tpC v67o12 l i), (tpA v67o20 l i), (tpE v67o6 l i), rdE v5 ([0] : List Int), rdE v8 ([6] : List Int), (tpSv29 v29 l), (tpSv47 v47 l), (tpZ g1), rdE vl (l : List Int)] H67o26 := hS67o26
                refine ⟨Ext.mono hxx (labS_of 1 rfl (fun _ _ => trivial)), ?_⟩
                refine wpR_end (by kernel_rfl) ?_
                exact ⟨v67o24, y67o3, y67o9, y67o15, y67o18, a66_0, a66_2, a66_3, a66_4, (hS67o26.drop (List.Sublist.cons_cons _ (List.Sublist.cons_cons _ (List.Sublist.cons _ (List.Sublist.cons _ (List.Sublist.cons _ (List.Sublist.cons _ (List.Sublist.cons _ (List.Sublist.cons_cons _ (List.Sublist.cons_cons _ (List.Sublist.cons_cons _ (List.Sublist.cons_cons _ (List.Sublist.cons_cons _ (List.Sublist.cons_cons _ (List.Sublist.slnil)))))))))))))))⟩
              · have hS67o21 : St H0 NoB (fun b => S b ∧ b < H0.size) [(tpA v67o20 l i), rowE 3 v67o6 ([1 - (2 * (pickI ((tpX l i)) 2))] : List Int), rowE 25 vo (topJs l i : List Jump), rdE v5 ([0] : List Int), rdE v8 ([6] : List Int), (tpSv29 v29 l), (tpSv47 v47 l), blkE g11 (.cells #[v5, v8, v29, vo, v47] 42), (tpZ g1), rdE vl (l : List Int)] H67o20 := St.fin hS67o20
                refine exE rfl rfl ?_
                refine e_buildSlice (vs := [v67o20]) (xs := ([[pickI (((tpX l i)).tdiv 26) 3, (pickI (((tpX l i)).tdiv 78) 9) - 4]] : List (List Int))) rfl Try.underlying23 Try.zeroValue32 rfl Try.sizeOf32 (par1 (v0 := v67o20) rfl) rfl hS67o21 (RdVs.cons (hS67o21.rdS 0 rfl) (RdVs.nil)) (by decide) (by decide) (fun v67o21 H67o21 hS67o21x2 hxx hvv67o21 => ?_)
                replace hS67o21x2 : St H0 NoB (fun b => S b ∧ b < H0.size) [rowE 32 v67o21 ([[pickI (((tpX l i)).tdiv 26) 3, (pickI (((tpX l i)).tdiv 78) 9) - 4]] : List (List Int)), (tpA v67o20 l i), rowE 3 v67o6 ([1 - (2 * (pickI ((tpX l i)) 2))] : List Int), rowE 25 vo (topJs l i : List Jump), rdE v5 ([0] : List Int), rdE v8 ([6] : List Int), (tpSv29 v29 l), (tpSv47 v47 l), blkE g11 (.cells #[v5, v8, v29, vo, v47] 42), (tpZ g1), rdE vl (l : List Int)] H67o21 := hS67o21x2
                refine ⟨Ext.mono hxx (fun _ h => h.elim), ?_⟩
                refine wpR_n [12] (by kernel_rfl) ?_
                refine List.forall_mem_cons.2 ⟨?_, List.forall_mem_nil _⟩
                have hS67o12 : St H0 NoB (fun b => S b ∧ b < H0.size) [(tpE v67o6 l i), rowE 32 v67o21 ([[pickI (((tpX l i)).tdiv 26) 3, (pickI (((tpX l i)).tdiv 78) 9) - 4]] : List (List Int)), (tpA v67o20 l i), rowE 25 vo (topJs l i : List Jump), rdE v5 ([0] : List Int), rdE v8 ([6] : List Int), (tpSv29 v29 l), (tpSv47 v47 l), blkE g11 (.cells #[v5, v8, v29, vo, v47] 42), (tpZ g1), rdE vl (l : List Int)] H67o21 := St.fin (hS67o21x2.front 2 rfl)
                refine exE rfl rfl ?_
                refine e_buildSlice (vs := [Value.agg #[v67o6, I (1), I ((pickI (((tpX l i)).tdiv 2) 13) - 6)]]) (xs := ([(LRow.mk ([1 - (2 * (pickI ((tpX l i)) 2))]) 1 ((pickI (((tpX l i)).tdiv 2) 13) - 6))] : List LRow)) rfl Try.underlying22 Try.zeroValue34 rfl Try.sizeOf34 (par1 (v0 := Value.agg #[v67o6, I (1), I ((pickI (((tpX l i)).tdiv 2) 13) - 6)]) rfl) rfl hS67o12 (RdVs.cons (Rd.lRow.2 ⟨_, rfl, (hS67o12.rdS 0 rfl), (by first | assumption | (constructor <;> (dsimp only; omega)) | (constructor <;> omega)), (by first | assumption | (constructor <;> (dsimp only; omega)) | (constructor <;> omega))⟩) (RdVs.nil)) (by decide) (by decide) (fun v67o12 H67o12 hS67o12x2 hxx hvv67o12 => ?_)
                replace hS67o12x2 : St H0 NoB (fun b => S b ∧ b < H0.size) [rowE 34 v67o12 ([(LRow.mk ([1 - (2 * (pickI ((tpX l i)) 2))]) 1 ((pickI (((tpX l i)).tdiv 2) 13) - 6))] : List LRow), (tpE v67o6 l i), rowE 32 v67o21 ([[pickI (((tpX l i)).tdiv 26) 3, (pickI (((tpX l i)).tdiv 78) 9) - 4]] : List (List Int)), (tpA v67o20 l i), rowE 25 vo (topJs l i : List Jump), rdE v5 ([0] : List Int), rdE v8 ([6] : List Int), (tpSv29 v29 l), (tpSv47 v47 l), blkE g11 (.cells #[v5, v8, v29, vo, v47] 42), (tpZ g1), rdE vl (l : List Int)] H67o12 := hS67o12x2
                refine ⟨Ext.mono hxx (fun _ h => h.elim), ?_⟩
                refine wpR_q 22 (by kernel_rfl) rfl (quietAt rfl rfl (q_build (v := Value.agg #[v67o12, v67o21]) rfl (par2 (v0 := v67o12) (v1 := v67o21) rfl rfl) ((hS67o12x2.rowl 0 rfl).slc (fun zz0 => ∀ w, (Instr.build 25 #[(0, zz0), (1, v67o21)]).run Try.prog w = .ok (Value.agg #[zz0, v67o21]) w) (fun a0 n0 c0 => ((hS67o12x2.rowl 2 rfl).slc (fun zz1 => ∀ w, (Instr.build 25 #[(0, (.slice a0 n0 c0)), (1, zz1)]).run Try.prog w = .ok (Value.agg #[(.slice a0 n0 c0), zz1]) w) (fun a1 n1 c1 => (fun w => by kernel_rfl))))))) ?_
                refine wpR_n [23] (by kernel_rfl) ?_
                refine List.forall_mem_cons.2 ⟨?_, List.forall_mem_nil _⟩
                have hS67o23 : St H0 NoB (fun b => S b ∧ b < H0.size) [(tpC v67o12 l i), (tpE v67o6 l i), rowE 32 v67o21 ([[pickI (((tpX l i)).tdiv 26) 3, (pickI (((tpX l i)).tdiv 78) 9) - 4]] : List (List Int)), (tpA v67o20 l i), rowE 25 vo (topJs l i : List Jump), rdE v5 ([0] : List Int), rdE v8 ([6] : List Int), (tpSv29 v29 l), (tpSv47 v47 l), blkE g11 (.cells #[v5, v8, v29, vo, v47] 42), (tpZ g1), rdE vl (l : List Int)] H67o12 := St.fin hS67o12x2
                have hS67o23x2 : St H0 NoB (fun b => S b ∧ b < H0.size) [(tpD v67o21 l i), (tpC v67o12 l i), (tpE v67o6 l i), (tpA v67o20 l i), rowE 25 vo (topJs l i : List Jump), rdE v5 ([0] : List Int), rdE v8 ([6] : List Int), (tpSv29 v29 l), (tpSv47 v47 l), blkE g11 (.cells #[v5, v8, v29, vo, v47] 42), (tpZ g1), rdE vl (l : List Int)] H67o12 := St.fin (hS67o23.front 2 rfl)
                refine exE rfl rfl ?_
                refine e_buildSlice (vs := [Value.agg #[v67o12, v67o21]]) (xs := ([(Jump.mk ([(LRow.mk ([1 - (2 * (pickI ((tpX l i)) 2))]) 1 ((pickI (((tpX l i)).tdiv 2) 13) - 6))]) ([[pickI (((tpX l i)).tdiv 26) 3, (pickI (((tpX l i)).tdiv 78) 9) - 4]]))] : List Jump)) rfl Try.underlying40 Try.zeroValue25 rfl Try.sizeOf25 (par1 (v0 := Value.agg #[v67o12, v67o21]) rfl) rfl hS67o23x2 (RdVs.cons (Rd.jump.2 ⟨_, _, rfl, (hS67o23x2.rdS 1 rfl), (hS67o23x2.rdS 0 rfl)⟩) (RdVs.nil)) (by decide) (by decide) (fun v67o23 H67o23 hS67o23x3 hxx hvv67o23 => ?_)
                replace hS67o23x3 : St H0 NoB (fun b => S b ∧ b < H0.size) [rowE 25 v67o23 ([(Jump.mk ([(LRow.mk ([1 - (2 * (pickI ((tpX l i)) 2))]) 1 ((pickI (((tpX l i)).tdiv 2) 13) - 6))]) ([[pickI (((tpX l i)).tdiv 26) 3, (pickI (((tpX l i)).tdiv 78) 9) - 4]]))] : List Jump), (tpD v67o21 l i), (tpC v67o12 l i), (tpE v67o6 l i), (tpA v67o20 l i), rowE 25 vo (topJs l i : List Jump), rdE v5 ([0] : List Int), rdE v8 ([6] : List Int), (tpSv29 v29 l), (tpSv47 v47 l), blkE g11 (.cells #[v5, v8, v29, vo, v47] 42), (tpZ g1), rdE vl (l : List Int)] H67o23 := hS67o23x3
                refine ⟨Ext.mono hxx (fun _ h => h.elim), ?_⟩
                refine wpR_n [24] (by kernel_rfl) ?_
                refine List.forall_mem_cons.2 ⟨?_, List.forall_mem_nil _⟩
                have hS67o24 : St H0 NoB (fun b => S b ∧ b < H0.size) [(tpB v67o23 l i), (tpD v67o21 l i), (tpC v67o12 l i), (tpE v67o6 l i), (tpA v67o20 l i), rowE 25 vo (topJs l i : List Jump), rdE v5 ([0] : List Int), rdE v8 ([6] : List Int), (tpSv29 v29 l), (tpSv47 v47 l), blkE g11 (.cells #[v5, v8, v29, vo, v47] 42), (tpZ g1), rdE vl (l : List Int)] H67o23 := St.fin hS67o23x3
                have hS67o24x2 : St H0 NoB (fun b => S b ∧ b < H0.size) [rowE 25 vo (topJs l i : List Jump), (tpB v67o23 l i), (tpD v67o21 l i), (tpC v67o12 l i), (tpE v67o6 l i), (tpA v67o20 l i), rdE v5 ([0] : List Int), rdE v8 ([6] : List Int), (tpSv29 v29 l), (tpSv47 v47 l), blkE g11 (.cells #[v5, v8, v29, vo, v47] 42), (tpZ g1), rdE vl (l : List Int)] H67o23 := (hS67o24.front 5 rfl)
                refine exE rfl rfl ?_
                refine e_append rfl Try.underlying40 em_Jump_25_TopL1 rfl rfl hS67o24x2 (hS67o24x2.rdS 1 rfl) (fun _ h => h) (by have hb : GoT.bytes Jump = 48 := rfl; have hbl : (topJs l i).length = i := (by simp [topJs]); simp [hb, hbl]; omega) (by decide) (fun v67o24 H67o24 hS67o24x3 hxx => ?_)
                replace hS67o24x3 : St H0 NoB (fun b => S b ∧ b < H0.size) [rowE 25 v67o24 ((topJs l i) ++ ([(Jump.mk ([(LRow.mk ([1 - (2 * (pickI ((tpX l i)) 2))]) 1 ((pickI (((tpX l i)).tdiv 2) 13) - 6))]) ([[pickI (((tpX l i)).tdiv 26) 3, (pickI (((tpX l i)).tdiv 78) 9) - 4]]))]) : List Jump), (tpB v67o23 l i), (tpD v67o21 l i), (tpC v67o12 l i), (tpE v67o6 l i), (tpA v67o20 l i), rdE v5 ([0] : List Int), rdE v8 ([6] : List Int), (tpSv29 v29 l), (tpSv47 v47 l), blkE g11 (.cells #[v5, v8, v29, vo, v47] 42), (tpZ g1), rdE vl (l : List Int)] H67o24 := hS67o24x3
                have hS67o24x4 : St H0 NoB (fun b => S b ∧ b < H0.size) [rowE 25 v67o24 (topJs l (i + 1) : List Jump), (tpB v67o23 l i), (tpD v67o21 l i), (tpC v67o12 l i), (tpE v67o6 l i), (tpA v67o20 l i), rdE v5 ([0] : List Int), rdE v8 ([6] : List Int), (tpSv29 v29 l), (tpSv47 v47 l), blkE g11 (.cells #[v5, v8, v29, vo, v47] 42), (tpZ g1), rdE vl (l : List Int)] H67o24 := by rw [show (topJs l (i + 1)) = ((topJs l i) ++ ([(Jump.mk ([(LRow.mk ([1 - (2 * (pickI ((tpX l i)) 2))]) 1 ((pickI (((tpX l i)).tdiv 2) 13) - 6))]) ([[pickI (((tpX l i)).tdiv 26) 3, (pickI (((tpX l i)).tdiv 78) 9) - 4]]))])) from (by rw [topJs_next]; rfl)]; exact hS67o24x3
                refine ⟨Ext.mono hxx (labS_of 0 rfl (fun _ _ => trivial)), ?_⟩
                refine wpR_q 25 (by kernel_rfl) rfl (quietAt rfl rfl (q_fieldAddr rfl Try.underlying42 rfl Try.sizeOf40 a66_3)) ?_
                refine wpR_n [26] (by kernel_rfl) ?_
                refine List.forall_mem_cons.2 ⟨?_, List.forall_mem_nil _⟩
                refine exE rfl rfl ?_
                refine e_storeBlk (v := v67o24) rfl rfl rfl (oneCell_rdL (hS67o24x4.rowl 0 rfl)) Try.sizeOf40 (by show _ < 5; decide) (hS67o24x4.front 10 rfl) (fun H67o26 hS67o26 hxx => ?_)
                replace hS67o26 : St H0 NoB (fun b => S b ∧ b < H0.size) [blkE g11 (.cells #[v5, v8, v29, v67o24, v47] 42), rowE 25 v67o24 (topJs l (i + 1) : List Jump), (tpB v67o23 l i), (tpD v67o21 l i), (tpC v67o12 l i), (tpE v67o6 l i), (tpA v67o20 l i), rdE v5 ([0] : List Int), rdE v8 ([6] : List Int), (tpSv29 v29 l), (tpSv47 v47 l), (tpZ g1), rdE vl (l : List Int)] H67o26 := hS67o26
                refine ⟨Ext.mono hxx (labS_of 1 rfl (fun _ _ => trivial)), ?_⟩
                refine wpR_end (by kernel_rfl) ?_
                exact ⟨v67o24, y67o3, y67o9, y67o15, y67o18, a66_0, a66_2, a66_3, a66_4, (hS67o26.drop (List.Sublist.cons_cons _ (List.Sublist.cons_cons _ (List.Sublist.cons _ (List.Sublist.cons _ (List.Sublist.cons _ (List.Sublist.cons _ (List.Sublist.cons _ (List.Sublist.cons_cons _ (List.Sublist.cons_cons _ (List.Sublist.cons_cons _ (List.Sublist.cons_cons _ (List.Sublist.cons_cons _ (List.Sublist.cons_cons _ (List.Sublist.slnil)))))))))))))))⟩
      · refine exE rfl rfl ?_
        refine e_call rfl Try.call20 (arr2 (v0 := I (((tpX l i)).tdiv 26)) (v1 := I (3)) rfl rfl) (Picked (((tpX l i)).tdiv 26) 3 (by omega)) ?_
        rintro _ H67o15 ⟨hxx, rfl, y67o15⟩
        have hS67o15 : St H0 NoB (fun b => S b ∧ b < H0.size) [rowE 25 vo (topJs l i : List Jump), rdE v5 ([0] : List Int), rdE v8 ([6] : List Int), (tpSv29 v29 l), (tpSv47 v47 l), blkE g11 (.cells #[v5, v8, v29, vo, v47] 42), (tpZ g1), rdE vl (l : List Int)] H67o15 := hS67o9.ext hxx
        refine ⟨Ext.mono hxx (fun _ h => h.elim), ?_⟩
        refine wpR_n [6, 18] (by kernel_rfl) ?_
        refine List.forall_mem_cons.2 ⟨?_, List.forall_mem_cons.2 ⟨?_, List.forall_mem_nil _⟩⟩
        · refine exE rfl rfl ?_
          refine e_buildSlice (vs := [I (1 - (2 * (pickI ((tpX l i)) 2)))]) (xs := ([1 - (2 * (pickI ((tpX l i)) 2))] : List Int)) rfl Try.underlying32 Try.zeroValue3 rfl Try.sizeOf3 (par1 (v0 := I (1 - (2 * (pickI ((tpX l i)) 2)))) rfl) rfl hS67o15 (RdVs.cons (Rd.int.2 ⟨rfl, by constructor <;> omega⟩) (RdVs.nil)) (by decide) (by decide) (fun v67o6 H67o6 hS67o6 hxx hvv67o6 => ?_)
          replace hS67o6 : St H0 NoB (fun b => S b ∧ b < H0.size) [rowE 3 v67o6 ([1 - (2 * (pickI ((tpX l i)) 2))] : List Int), rowE 25 vo (topJs l i : List Jump), rdE v5 ([0] : List Int), rdE v8 ([6] : List Int), (tpSv29 v29 l), (tpSv47 v47 l), blkE g11 (.cells #[v5, v8, v29, vo, v47] 42), (tpZ g1), rdE vl (l : List Int)] H67o6 := hS67o6
          refine ⟨Ext.mono hxx (fun _ h => h.elim), ?_⟩
          refine wpR_q 11 (by kernel_rfl) rfl (quietAt rfl rfl (q_build (v := Value.agg #[v67o6, I (1), I ((pickI (((tpX l i)).tdiv 2) 13) - 6)]) rfl (par3 (v0 := v67o6) (v1 := I (1)) (v2 := I ((pickI (((tpX l i)).tdiv 2) 13) - 6)) rfl rfl rfl) ((hS67o6.rowl 0 rfl).slc (fun zz0 => ∀ w, (Instr.build 34 #[(0, zz0), (1, I (1)), (2, I ((pickI (((tpX l i)).tdiv 2) 13) - 6))]).run Try.prog w = .ok (Value.agg #[zz0, I (1), I ((pickI (((tpX l i)).tdiv 2) 13) - 6)]) w) (fun a0 n0 c0 => (fun w => by kernel_rfl))))) ?_
          refine wpR_n [12, 18] (by kernel_rfl) ?_
          refine List.forall_mem_cons.2 ⟨?_, List.forall_mem_cons.2 ⟨?_, List.forall_mem_nil _⟩⟩
          · have hS67o12 : St H0 NoB (fun b => S b ∧ b < H0.size) [(tpE v67o6 l i), rowE 25 vo (topJs l i : List Jump), rdE v5 ([0] : List Int), rdE v8 ([6] : List Int), (tpSv29 v29 l), (tpSv47 v47 l), blkE g11 (.cells #[v5, v8, v29, vo, v47] 42), (tpZ g1), rdE vl (l : List Int)] H67o6 := St.fin hS67o6
            refine exE rfl rfl ?_
            refine e_buildSlice (vs := [Value.agg #[v67o6, I (1), I ((pickI (((tpX l i)).tdiv 2) 13) - 6)]]) (xs := ([(LRow.mk ([1 - (2 * (pickI ((tpX l i)) 2))]) 1 ((pickI (((tpX l i)).tdiv 2) 13) - 6))] : List LRow)) rfl Try.underlying22 Try.zeroValue34 rfl Try.sizeOf34 (par1 (v0 := Value.agg #[v67o6, I (1), I ((pickI (((tpX l i)).tdiv 2) 13) - 6)]) rfl) rfl hS67o12 (RdVs.cons (Rd.lRow.2 ⟨_, rfl, (hS67o12.rdS 0 rfl), (by first | assumption | (constructor <;> (dsimp only; omega)) | (constructor <;> omega)), (by first | assumption | (constructor <;> (dsimp only; omega)) | (constructor <;> omega))⟩) (RdVs.nil)) (by decide) (by decide) (fun v67o12 H67o12 hS67o12x2 hxx hvv67o12 => ?_)
            replace hS67o12x2 : St H0 NoB (fun b => S b ∧ b < H0.size) [rowE 34 v67o12 ([(LRow.mk ([1 - (2 * (pickI ((tpX l i)) 2))]) 1 ((pickI (((tpX l i)).tdiv 2) 13) - 6))] : List LRow), (tpE v67o6 l i), rowE 25 vo (topJs l i : List Jump), rdE v5 ([0] : List Int), rdE v8 ([6] : List Int), (tpSv29 v29 l), (tpSv47 v47 l), blkE g11 (.cells #[v5, v8, v29, vo, v47] 42), (tpZ g1), rdE vl (l : List Int)] H67o12 := hS67o12x2
            refine ⟨Ext.mono hxx (fun _ h => h.elim), ?_⟩
            refine wpR_n [18] (by kernel_rfl) ?_
            refine List.forall_mem_cons.2 ⟨?_, List.forall_mem_nil _⟩
            refine exE rfl rfl ?_
            refine e_call rfl Try.call20 (arr2 (v0 := I (((tpX l i)).tdiv 78)) (v1 := I (9)) rfl rfl) (Picked (((tpX l i)).tdiv 78) 9 (by omega)) ?_
            rintro _ H67o18 ⟨hxx, rfl, y67o18⟩
            have hS67o18 : St H0 NoB (fun b => S b ∧ b < H0.size) [rowE 34 v67o12 ([(LRow.mk ([1 - (2 * (pickI ((tpX l i)) 2))]) 1 ((pickI (((tpX l i)).tdiv 2) 13) - 6))] : List LRow), (tpE v67o6 l i), rowE 25 vo (topJs l i : List Jump), rdE v5 ([0] : List Int), rdE v8 ([6] : List Int), (tpSv29 v29 l), (tpSv47 v47 l), blkE g11 (.cells #[v5, v8, v29, vo, v47] 42), (tpZ g1), rdE vl (l : List Int)] H67o18 := hS67o12x2.ext hxx
            refine ⟨Ext.mono hxx (fun _ h => h.elim), ?_⟩
            refine wpR_q 19 (by kernel_rfl) rfl (quietAt rfl rfl (q_sub rfl rfl rfl (by constructor <;> omega))) ?_
            refine wpR_n [20] (by kernel_rfl) ?_
            refine List.forall_mem_cons.2 ⟨?_, List.forall_mem_nil _⟩
            refine exE rfl rfl ?_
            refine e_buildSlice (vs := [I (pickI (((tpX l i)).tdiv 26) 3), I ((pickI (((tpX l i)).tdiv 78) 9) - 4)]) (xs := ([pickI (((tpX l i)).tdiv 26) 3, (pickI (((tpX l i)).tdiv 78) 9) - 4] : List Int)) rfl Try.underlying32 Try.zeroValue3 rfl Try.sizeOf3 (par2 (v0 := I (pickI (((tpX l i)).tdiv 26) 3)) (v1 := I ((pickI (((tpX l i)).tdiv 78) 9) - 4)) rfl rfl) rfl hS67o18 (RdVs.cons (Rd.int.2 ⟨rfl, by constructor <;> omega⟩) (RdVs.cons (Rd.int.2 ⟨rfl, by constructor <;> omega⟩) (RdVs.nil))) (by decide) (by decide) (fun v67o20 H67o20 hS67o20 hxx hvv67o20 => ?_)
            replace hS67o20 : St H0 NoB (fun b => S b ∧ b < H0.size) [rowE 3 v67o20 ([pickI (((tpX l i)).tdiv 26) 3, (pickI (((tpX l i)).tdiv 78) 9) - 4] : List Int), rowE 34 v67o12 ([(LRow.mk ([1 - (2 * (pickI ((tpX l i)) 2))]) 1 ((pickI (((tpX l i)).tdiv 2) 13) - 6))] : List LRow), (tpE v67o6 l i), rowE 25 vo (topJs l i : List Jump), rdE v5 ([0] : List Int), rdE v8 ([6] : List Int), (tpSv29 v29 l), (tpSv47 v47 l), blkE g11 (.cells #[v5, v8, v29, vo, v47] 42), (tpZ g1), rdE vl (l : List Int)] H67o20 := hS67o20
            refine ⟨Ext.mono hxx (fun _ h => h.elim), ?_⟩
            refine wpR_n [21] (by kernel_rfl) ?_
            refine List.forall_mem_cons.2 ⟨?_, List.forall_mem_nil _⟩
            have hS67o21 : St H0 NoB (fun b => S b ∧ b < H0.size) [(tpA v67o20 l i), rowE 34 v67o12 ([(LRow.mk ([1 - (2 * (pickI ((tpX l i)) 2))]) 1 ((pickI (((tpX l i)).tdiv 2) 13) - 6))] : List LRow), (tpE v67o6 l i), rowE 25 vo (topJs l i : List Jump), rdE v5 ([0] : List Int), rdE v8 ([6] : List Int), (tpSv29 v29 l), (tpSv47 v47 l), blkE g11 (.cells #[v5, v8, v29, vo, v47] 42), (tpZ g1), rdE vl (l : List Int)] H67o20 := St.fin hS67o20
            refine exE rfl rfl ?_
            refine e_buildSlice (vs := [v67o20]) (xs := ([[pickI (((tpX l i)).tdiv 26) 3, (pickI (((tpX l i)).tdiv 78) 9) - 4]] : List (List Int))) rfl Try.underlying23 Try.zeroValue32 rfl Try.sizeOf32 (par1 (v0 := v67o20) rfl) rfl hS67o21 (RdVs.cons (hS67o21.rdS 0 rfl) (RdVs.nil)) (by decide) (by decide) (fun v67o21 H67o21 hS67o21x2 hxx hvv67o21 => ?_)
            replace hS67o21x2 : St H0 NoB (fun b => S b ∧ b < H0.size) [rowE 32 v67o21 ([[pickI (((tpX l i)).tdiv 26) 3, (pickI (((tpX l i)).tdiv 78) 9) - 4]] : List (List Int)), (tpA v67o20 l i), rowE 34 v67o12 ([(LRow.mk ([1 - (2 * (pickI ((tpX l i)) 2))]) 1 ((pickI (((tpX l i)).tdiv 2) 13) - 6))] : List LRow), (tpE v67o6 l i), rowE 25 vo (topJs l i : List Jump), rdE v5 ([0] : List Int), rdE v8 ([6] : List Int), (tpSv29 v29 l), (tpSv47 v47 l), blkE g11 (.cells #[v5, v8, v29, vo, v47] 42), (tpZ g1), rdE vl (l : List Int)] H67o21 := hS67o21x2
            refine ⟨Ext.mono hxx (fun _ h => h.elim), ?_⟩
            refine wpR_q 22 (by kernel_rfl) rfl (quietAt rfl rfl (q_build (v := Value.agg #[v67o12, v67o21]) rfl (par2 (v0 := v67o12) (v1 := v67o21) rfl rfl) ((hS67o21x2.rowl 2 rfl).slc (fun zz0 => ∀ w, (Instr.build 25 #[(0, zz0), (1, v67o21)]).run Try.prog w = .ok (Value.agg #[zz0, v67o21]) w) (fun a0 n0 c0 => ((hS67o21x2.rowl 0 rfl).slc (fun zz1 => ∀ w, (Instr.build 25 #[(0, (.slice a0 n0 c0)), (1, zz1)]).run Try.prog w = .ok (Value.agg #[(.slice a0 n0 c0), zz1]) w) (fun a1 n1 c1 => (fun w => by kernel_rfl))))))) ?_
            refine wpR_n [23] (by kernel_rfl) ?_
            refine List.forall_mem_cons.2 ⟨?_, List.forall_mem_nil _⟩
            have hS67o23 : St H0 NoB (fun b => S b ∧ b < H0.size) [(tpC v67o12 l i), rowE 32 v67o21 ([[pickI (((tpX l i)).tdiv 26) 3, (pickI (((tpX l i)).tdiv 78) 9) - 4]] : List (List Int)), (tpA v67o20 l i), (tpE v67o6 l i), rowE 25 vo (topJs l i : List Jump), rdE v5 ([0] : List Int), rdE v8 ([6] : List Int), (tpSv29 v29 l), (tpSv47 v47 l), blkE g11 (.cells #[v5, v8, v29, vo, v47] 42), (tpZ g1), rdE vl (l : List Int)] H67o21 := St.fin (hS67o21x2.front 2 rfl)
            have hS67o23x2 : St H0 NoB (fun b => S b ∧ b < H0.size) [(tpD v67o21 l i), (tpC v67o12 l i), (tpA v67o20 l i), (tpE v67o6 l i), rowE 25 vo (topJs l i : List Jump), rdE v5 ([0] : List Int), rdE v8 ([6] : List Int), (tpSv29 v29 l), (tpSv47 v47 l), blkE g11 (.cells #[v5, v8, v29, vo, v47] 42), (tpZ g1), rdE vl (l : List Int)] H67o21 := St.fin (hS67o23.front 1 rfl)
            refine exE rfl rfl ?_
            refine e_buildSlice (vs := [Value.agg #[v67o12, v67o21]]) (xs := ([(Jump.mk ([(LRow.mk ([1 - (2 * (pickI ((tpX l i)) 2))]) 1 ((pickI (((tpX l i)).tdiv 2) 13) - 6))]) ([[pickI (((tpX l i)).tdiv 26) 3, (pickI (((tpX l i)).tdiv 78) 9) - 4]]))] : List Jump)) rfl Try.underlying40 Try.zeroValue25 rfl Try.sizeOf25 (par1 (v0 := Value.agg #[v67o12, v67o21]) rfl) rfl hS67o23x2 (RdVs.cons (Rd.jump.2 ⟨_, _, rfl, (hS67o23x2.rdS 1 rfl), (hS67o23x2.rdS 0 rfl)⟩) (RdVs.nil)) (by decide) (by decide) (fun v67o23 H67o23 hS67o23x3 hxx hvv67o23 => ?_)
            replace hS67o23x3 : St H0 NoB (fun b => S b ∧ b < H0.size) [rowE 25 v67o23 ([(Jump.mk ([(LRow.mk ([1 - (2 * (pickI ((tpX l i)) 2))]) 1 ((pickI (((tpX l i)).tdiv 2) 13) - 6))]) ([[pickI (((tpX l i)).tdiv 26) 3, (pickI (((tpX l i)).tdiv 78) 9) - 4]]))] : List Jump), (tpD v67o21 l i), (tpC v67o12 l i), (tpA v67o20 l i), (tpE v67o6 l i), rowE 25 vo (topJs l i : List Jump), rdE v5 ([0] : List Int), rdE v8 ([6] : List Int), (tpSv29 v29 l), (tpSv47 v47 l), blkE g11 (.cells #[v5, v8, v29, vo, v47] 42), (tpZ g1), rdE vl (l : List Int)] H67o23 := hS67o23x3
            refine ⟨Ext.mono hxx (fun _ h => h.elim), ?_⟩
            refine wpR_n [24] (by kernel_rfl) ?_
            refine List.forall_mem_cons.2 ⟨?_, List.forall_mem_nil _⟩
            have hS67o24 : St H0 NoB (fun b => S b ∧ b < H0.size) [(tpB v67o23 l i), (tpD v67o21 l i), (tpC v67o12 l i), (tpA v67o20 l i), (tpE v67o6 l i), rowE 25 vo (topJs l i : List Jump), rdE v5 ([0] : List Int), rdE v8 ([6] : List Int), (tpSv29 v29 l), (tpSv47 v47 l), blkE g11 (.cells #[v5, v8, v29, vo, v47] 42), (tpZ g1), rdE vl (l : List Int)] H67o23 := St.fin hS67o23x3
            have hS67o24x2 : St H0 NoB (fun b => S b ∧ b < H0.size) [rowE 25 vo (topJs l i : List Jump), (tpB v67o23 l i), (tpD v67o21 l i), (tpC v67o12 l i), (tpA v67o20 l i), (tpE v67o6 l i), rdE v5 ([0] : List Int), rdE v8 ([6] : List Int), (tpSv29 v29 l), (tpSv47 v47 l), blkE g11 (.cells #[v5, v8, v29, vo, v47] 42), (tpZ g1), rdE vl (l : List Int)] H67o23 := (hS67o24.front 5 rfl)
            refine exE rfl rfl ?_
            refine e_append rfl Try.underlying40 em_Jump_25_TopL1 rfl rfl hS67o24x2 (hS67o24x2.rdS 1 rfl) (fun _ h => h) (by have hb : GoT.bytes Jump = 48 := rfl; have hbl : (topJs l i).length = i := (by simp [topJs]); simp [hb, hbl]; omega) (by decide) (fun v67o24 H67o24 hS67o24x3 hxx => ?_)
            replace hS67o24x3 : St H0 NoB (fun b => S b ∧ b < H0.size) [rowE 25 v67o24 ((topJs l i) ++ ([(Jump.mk ([(LRow.mk ([1 - (2 * (pickI ((tpX l i)) 2))]) 1 ((pickI (((tpX l i)).tdiv 2) 13) - 6))]) ([[pickI (((tpX l i)).tdiv 26) 3, (pickI (((tpX l i)).tdiv 78) 9) - 4]]))]) : List Jump), (tpB v67o23 l i), (tpD v67o21 l i), (tpC v67o12 l i), (tpA v67o20 l i), (tpE v67o6 l i), rdE v5 ([0] : List Int), rdE v8 ([6] : List Int), (tpSv29 v29 l), (tpSv47 v47 l), blkE g11 (.cells #[v5, v8, v29, vo, v47] 42), (tpZ g1), rdE vl (l : List Int)] H67o24 := hS67o24x3
            have hS67o24x4 : St H0 NoB (fun b => S b ∧ b < H0.size) [rowE 25 v67o24 (topJs l (i + 1) : List Jump), (tpB v67o23 l i), (tpD v67o21 l i), (tpC v67o12 l i), (tpA v67o20 l i), (tpE v67o6 l i), rdE v5 ([0] : List Int), rdE v8 ([6] : List Int), (tpSv29 v29 l), (tpSv47 v47 l), blkE g11 (.cells #[v5, v8, v29, vo, v47] 42), (tpZ g1), rdE vl (l : List Int)] H67o24 := by rw [show (topJs l (i + 1)) = ((topJs l i) ++ ([(Jump.mk ([(LRow.mk ([1 - (2 * (pickI ((tpX l i)) 2))]) 1 ((pickI (((tpX l i)).tdiv 2) 13) - 6))]) ([[pickI (((tpX l i)).tdiv 26) 3, (pickI (((tpX l i)).tdiv 78) 9) - 4]]))])) from (by rw [topJs_next]; rfl)]; exact hS67o24x3
            refine ⟨Ext.mono hxx (labS_of 0 rfl (fun _ _ => trivial)), ?_⟩
            refine wpR_q 25 (by kernel_rfl) rfl (quietAt rfl rfl (q_fieldAddr rfl Try.underlying42 rfl Try.sizeOf40 a66_3)) ?_
            refine wpR_n [26] (by kernel_rfl) ?_
            refine List.forall_mem_cons.2 ⟨?_, List.forall_mem_nil _⟩
            refine exE rfl rfl ?_
            refine e_storeBlk (v := v67o24) rfl rfl rfl (oneCell_rdL (hS67o24x4.rowl 0 rfl)) Try.sizeOf40 (by show _ < 5; decide) (hS67o24x4.front 10 rfl) (fun H67o26 hS67o26 hxx => ?_)
            replace hS67o26 : St H0 NoB (fun b => S b ∧ b < H0.size) [blkE g11 (.cells #[v5, v8, v29, v67o24, v47] 42), rowE 25 v67o24 (topJs l (i + 1) : List Jump), (tpB v67o23 l i), (tpD v67o21 l i), (tpC v67o12 l i), (tpA v67o20 l i), (tpE v67o6 l i), rdE v5 ([0] : List Int), rdE v8 ([6] : List Int), (tpSv29 v29 l), (tpSv47 v47 l), (tpZ g1), rdE vl (l : List Int)] H67o26 := hS67o26
            refine ⟨Ext.mono hxx (labS_of 1 rfl (fun _ _ => trivial)), ?_⟩
            refine wpR_end (by kernel_rfl) ?_
            exact ⟨v67o24, y67o3, y67o9, y67o15, y67o18, a66_0, a66_2, a66_3, a66_4, (hS67o26.drop (List.Sublist.cons_cons _ (List.Sublist.cons_cons _ (List.Sublist.cons _ (List.Sublist.cons _ (List.Sublist.cons _ (List.Sublist.cons _ (List.Sublist.cons _ (List.Sublist.cons_cons _ (List.Sublist.cons_cons _ (List.Sublist.cons_cons _ (List.Sublist.cons_cons _ (List.Sublist.cons_cons _ (List.Sublist.cons_cons _ (List.Sublist.slnil)))))))))))))))⟩
          · refine exE rfl rfl ?_
            refine e_call rfl Try.call20 (arr2 (v0 := I (((tpX l i)).tdiv 78)) (v1 := I (9)) rfl rfl) (Picked (((tpX l i)).tdiv 78) 9 (by omega)) ?_
            rintro _ H67o18 ⟨hxx, rfl, y67o18⟩
            have hS67o18 : St H0 NoB (fun b => S b ∧ b < H0.size) [rowE 3 v67o6 ([1 - (2 * (pickI ((tpX l i)) 2))] : List Int), rowE 25 vo (topJs l i : List Jump), rdE v5 ([0] : List Int), rdE v8 ([6] : List Int), (tpSv29 v29 l), (tpSv47 v47 l), blkE g11 (.cells #[v5, v8, v29, vo, v47] 42), (tpZ g1), rdE vl (l : List Int)] H67o18 := hS67o6.ext hxx
            refine ⟨Ext.mono hxx (fun _ h => h.elim), ?_⟩
            refine wpR_q 19 (by kernel_rfl) rfl (quietAt rfl rfl (q_sub rfl rfl rfl (by constructor <;> omega))) ?_
            refine wpR_n [12, 20] (by kernel_rfl) ?_
            refine List.forall_mem_cons.2 ⟨?_, List.forall_mem_cons.2 ⟨?_, List.forall_mem_nil _⟩⟩
            · have hS67o12 : St H0 NoB (fun b => S b ∧ b < H0.size) [(tpE v67o6 l i), rowE 25 vo (topJs l i : List Jump), rdE v5 ([0] : List Int), rdE v8 ([6] : List Int), (tpSv29 v29 l), (tpSv47 v47 l), blkE g11 (.cells #[v5, v8, v29, vo, v47] 42), (tpZ g1), rdE vl (l : List Int)] H67o18 := St.fin hS67o18
              refine exE rfl rfl ?_
              refine e_buildSlice (vs := [Value.agg #[v67o6, I (1), I ((pickI (((tpX l i)).tdiv 2) 13) - 6)]]) (xs := ([(LRow.mk ([1 - (2 * (pickI ((tpX l i)) 2))]) 1 ((pickI (((tpX l i)).tdiv 2) 13) - 6))] : List LRow)) rfl Try.underlying22 Try.zeroValue34 rfl Try.sizeOf34 (par1 (v0 := Value.agg #[v67o6, I (1), I ((pickI (((tpX l i)).tdiv 2) 13) - 6)]) rfl) rfl hS67o12 (RdVs.cons (Rd.lRow.2 ⟨_, rfl, (hS67o12.rdS 0 rfl), (by first | assumption | (constructor <;> (dsimp only; omega)) | (constructor <;> omega)), (by first | assumption | (constructor <;> (dsimp only; omega)) | (constructor <;> omega))⟩) (RdVs.nil)) (by decide) (by decide) (fun v67o12 H67o12 hS67o12x2 hxx hvv67o12 => ?_)
              replace hS67o12x2 : St H0 NoB (fun b => S b ∧ b < H0.size) [rowE 34 v67o12 ([(LRow.mk ([1 - (2 * (pickI ((tpX l i)) 2))]) 1 ((pickI (((tpX l i)).tdiv 2) 13) - 6))] : List LRow), (tpE v67o6 l i), rowE 25 vo (topJs l i : List Jump), rdE v5 ([0] : List Int), rdE v8 ([6] : List Int), (tpSv29 v29 l), (tpSv47 v47 l), blkE g11 (.cells #[v5, v8, v29, vo, v47] 42), (tpZ g1), rdE vl (l : List Int)] H67o12 := hS67o12x2
              refine ⟨Ext.mono hxx (fun _ h => h.elim), ?_⟩
              refine wpR_n [20] (by kernel_rfl) ?_
              refine List.forall_mem_cons.2 ⟨?_, List.forall_mem_nil _⟩
              refine exE rfl rfl ?_
              refine e_buildSlice (vs := [I (pickI (((tpX l i)).tdiv 26) 3), I ((pickI (((tpX l i)).tdiv 78) 9) - 4)]) (xs := ([pickI (((tpX l i)).tdiv 26) 3, (pickI (((tpX l i)).tdiv 78) 9) - 4] : List Int)) rfl Try.underlying32 Try.zeroValue3 rfl Try.sizeOf3 (par2 (v0 := I (pickI (((tpX l i)).tdiv 26) 3)) (v1 := I ((pickI (((tpX l i)).tdiv 78) 9) - 4)) rfl rfl) rfl hS67o12x2 (RdVs.cons (Rd.int.2 ⟨rfl, by constructor <;> omega⟩) (RdVs.cons (Rd.int.2 ⟨rfl, by constructor <;> omega⟩) (RdVs.nil))) (by decide) (by decide) (fun v67o20 H67o20 hS67o20 hxx hvv67o20 => ?_)
              replace hS67o20 : St H0 NoB (fun b => S b ∧ b < H0.size) [rowE 3 v67o20 ([pickI (((tpX l i)).tdiv 26) 3, (pickI (((tpX l i)).tdiv 78) 9) - 4] : List Int), rowE 34 v67o12 ([(LRow.mk ([1 - (2 * (pickI ((tpX l i)) 2))]) 1 ((pickI (((tpX l i)).tdiv 2) 13) - 6))] : List LRow), (tpE v67o6 l i), rowE 25 vo (topJs l i : List Jump), rdE v5 ([0] : List Int), rdE v8 ([6] : List Int), (tpSv29 v29 l), (tpSv47 v47 l), blkE g11 (.cells #[v5, v8, v29, vo, v47] 42), (tpZ g1), rdE vl (l : List Int)] H67o20 := hS67o20
              refine ⟨Ext.mono hxx (fun _ h => h.elim), ?_⟩
              refine wpR_n [21] (by kernel_rfl) ?_
              refine List.forall_mem_cons.2 ⟨?_, List.forall_mem_nil _⟩
              have hS67o21 : St H0 NoB (fun b => S b ∧ b < H0.size) [(tpA v67o20 l i), rowE 34 v67o12 ([(LRow.mk ([1 - (2 * (pickI ((tpX l i)) 2))]) 1 ((pickI (((tpX l i)).tdiv 2) 13) - 6))] : List LRow), (tpE v67o6 l i), rowE 25 vo (topJs l i : List Jump), rdE v5 ([0] : List Int), rdE v8 ([6] : List Int), (tpSv29 v29 l), (tpSv47 v47 l), blkE g11 (.cells #[v5, v8, v29, vo, v47] 42), (tpZ g1), rdE vl (l : List Int)] H67o20 := St.fin hS67o20
              refine exE rfl rfl ?_
              refine e_buildSlice (vs := [v67o20]) (xs := ([[pickI (((tpX l i)).tdiv 26) 3, (pickI (((tpX l i)).tdiv 78) 9) - 4]] : List (List Int))) rfl Try.underlying23 Try.zeroValue32 rfl Try.sizeOf32 (par1 (v0 := v67o20) rfl) rfl hS67o21 (RdVs.cons (hS67o21.rdS 0 rfl) (RdVs.nil)) (by decide) (by decide) (fun v67o21 H67o21 hS67o21x2 hxx hvv67o21 => ?_)
              replace hS67o21x2 : St H0 NoB (fun b => S b ∧ b < H0.size) [rowE 32 v67o21 ([[pickI (((tpX l i)).tdiv 26) 3, (pickI (((tpX l i)).tdiv 78) 9) - 4]] : List (List Int)), (tpA v67o20 l i), rowE 34 v67o12 ([(LRow.mk ([1 - (2 * (pickI ((tpX l i)) 2))]) 1 ((pickI (((tpX l i)).tdiv 2) 13) - 6))] : List LRow), (tpE v67o6 l i), rowE 25 vo (topJs l i : List Jump), rdE v5 ([0] : List Int), rdE v8 ([6] : List Int), (tpSv29 v29 l), (tpSv47 v47 l), blkE g11 (.cells #[v5, v8, v29, vo, v47] 42), (tpZ g1), rdE vl (l : List Int)] H67o21 := hS67o21x2
              refine ⟨Ext.mono hxx (fun _ h => h.elim), ?_⟩
              refine wpR_q 22 (by kernel_rfl) rfl (quietAt rfl rfl (q_build (v := Value.agg #[v67o12, v67o21]) rfl (par2 (v0 := v67o12) (v1 := v67o21) rfl rfl) ((hS67o21x2.rowl 2 rfl).slc (fun zz0 => ∀ w, (Instr.build 25 #[(0, zz0), (1, v67o21)]).run Try.prog w = .ok (Value.agg #[zz0, v67o21]) w) (fun a0 n0 c0 => ((hS67o21x2.rowl 0 rfl).slc (fun zz1 => ∀ w, (Instr.build 25 #[(0, (.slice a0 n0 c0)), (1, zz1)]).run Try.prog w = .ok (Value.agg #[(.slice a0 n0 c0), zz1]) w) (fun a1 n1 c1 => (fun w => by kernel_rfl))))))) ?_
              refine wpR_n [23] (by kernel_rfl) ?_
              refine List.forall_mem_cons.2 ⟨?_, List.forall_mem_nil _⟩
              have hS67o23 : St H0 NoB (fun b => S b ∧ b < H0.size) [(tpC v67o12 l i), rowE 32 v67o21 ([[pickI (((tpX l i)).tdiv 26) 3, (pickI (((tpX l i)).tdiv 78) 9) - 4]] : List (List Int)), (tpA v67o20 l i), (tpE v67o6 l i), rowE 25 vo (topJs l i : List Jump), rdE v5 ([0] : List Int), rdE v8 ([6] : List Int), (tpSv29 v29 l), (tpSv47 v47 l), blkE g11 (.cells #[v5, v8, v29, vo, v47] 42), (tpZ g1), rdE vl (l : List Int)] H67o21 := St.fin (hS67o21x2.front 2 rfl)
              have hS67o23x2 : St H0 NoB (fun b => S b ∧ b < H0.size) [(tpD v67o21 l i), (tpC v67o12 l i), (tpA v67o20 l i), (tpE v67o6 l i), rowE 25 vo (topJs l i : List Jump), rdE v5 ([0] : List Int), rdE v8 ([6] : List Int), (tpSv29 v29 l), (tpSv47 v47 l), blkE g11 (.cells #[v5, v8, v29, vo, v47] 42), (tpZ g1), rdE vl (l : List Int)] H67o21 := St.fin (hS67o23.front 1 rfl)
              refine exE rfl rfl ?_
              refine e_buildSlice (vs := [Value.agg #[v67o12, v67o21]]) (xs := ([(Jump.mk ([(LRow.mk ([1 - (2 * (pickI ((tpX l i)) 2))]) 1 ((pickI (((tpX l i)).tdiv 2) 13) - 6))]) ([[pickI (((tpX l i)).tdiv 26) 3, (pickI (((tpX l i)).tdiv 78) 9) - 4]]))] : List Jump)) rfl Try.underlying40 Try.zeroValue25 rfl Try.sizeOf25 (par1 (v0 := Value.agg #[v67o12, v67o21]) rfl) rfl hS67o23x2 (RdVs.cons (Rd.jump.2 ⟨_, _, rfl, (hS67o23x2.rdS 1 rfl), (hS67o23x2.rdS 0 rfl)⟩) (RdVs.nil)) (by decide) (by decide) (fun v67o23 H67o23 hS67o23x3 hxx hvv67o23 => ?_)
              replace hS67o23x3 : St H0 NoB (fun b => S b ∧ b < H0.size) [rowE 25 v67o23 ([(Jump.mk ([(LRow.mk ([1 - (2 * (pickI ((tpX l i)) 2))]) 1 ((pickI (((tpX l i)).tdiv 2) 13) - 6))]) ([[pickI (((tpX l i)).tdiv 26) 3, (pickI (((tpX l i)).tdiv 78) 9) - 4]]))] : List Jump), (tpD v67o21 l i), (tpC v67o12 l i), (tpA v67o20 l i), (tpE v67o6 l i), rowE 25 vo (topJs l i : List Jump), rdE v5 ([0] : List Int), rdE v8 ([6] : List Int), (tpSv29 v29 l), (tpSv47 v47 l), blkE g11 (.cells #[v5, v8, v29, vo, v47] 42), (tpZ g1), rdE vl (l : List Int)] H67o23 := hS67o23x3
              refine ⟨Ext.mono hxx (fun _ h => h.elim), ?_⟩
              refine wpR_n [24] (by kernel_rfl) ?_
              refine List.forall_mem_cons.2 ⟨?_, List.forall_mem_nil _⟩
              have hS67o24 : St H0 NoB (fun b => S b ∧ b < H0.size) [(tpB v67o23 l i), (tpD v67o21 l i), (tpC v67o12 l i), (tpA v67o20 l i), (tpE v67o6 l i), rowE 25 vo (topJs l i : List Jump), rdE v5 ([0] : List Int), rdE v8 ([6] : List Int), (tpSv29 v29 l), (tpSv47 v47 l), blkE g11 (.cells #[v5, v8, v29, vo, v47] 42), (tpZ g1), rdE vl (l : List Int)] H67o23 := St.fin hS67o23x3
              have hS67o24x2 : St H0 NoB (fun b => S b ∧ b < H0.size) [rowE 25 vo (topJs l i : List Jump), (tpB v67o23 l i), (tpD v67o21 l i), (tpC v67o12 l i), (tpA v67o20 l i), (tpE v67o6 l i), rdE v5 ([0] : List Int), rdE v8 ([6] : List Int), (tpSv29 v29 l), (tpSv47 v47 l), blkE g11 (.cells #[v5, v8, v29, vo, v47] 42), (tpZ g1), rdE vl (l : List Int)] H67o23 := (hS67o24.front 5 rfl)
              refine exE rfl rfl ?_
              refine e_append rfl Try.underlying40 em_Jump_25_TopL1 rfl rfl hS67o24x2 (hS67o24x2.rdS 1 rfl) (fun _ h => h) (by have hb : GoT.bytes Jump = 48 := rfl; have hbl : (topJs l i).length = i := (by simp [topJs]); simp [hb, hbl]; omega) (by decide) (fun v67o24 H67o24 hS67o24x3 hxx => ?_)
              replace hS67o24x3 : St H0 NoB (fun b => S b ∧ b < H0.size) [rowE 25 v67o24 ((topJs l i) ++ ([(Jump.mk ([(LRow.mk ([1 - (2 * (pickI ((tpX l i)) 2))]) 1 ((pickI (((tpX l i)).tdiv 2) 13) - 6))]) ([[pickI (((tpX l i)).tdiv 26) 3, (pickI (((tpX l i)).tdiv 78) 9) - 4]]))]) : List Jump), (tpB v67o23 l i), (tpD v67o21 l i), (tpC v67o12 l i), (tpA v67o20 l i), (tpE v67o6 l i), rdE v5 ([0] : List Int), rdE v8 ([6] : List Int), (tpSv29 v29 l), (tpSv47 v47 l), blkE g11 (.cells #[v5, v8, v29, vo, v47] 42), (tpZ g1), rdE vl (l : List Int)] H67o24 := hS67o24x3
              have hS67o24x4 : St H0 NoB (fun b => S b ∧ b < H0.size) [rowE 25 v67o24 (topJs l (i + 1) : List Jump), (tpB v67o23 l i), (tpD v67o21 l i), (tpC v67o12 l i), (tpA v67o20 l i), (tpE v67o6 l i), rdE v5 ([0] : List Int), rdE v8 ([6] : List Int), (tpSv29 v29 l), (tpSv47 v47 l), blkE g11 (.cells #[v5, v8, v29, vo, v47] 42), (tpZ g1), rdE vl (l : List Int)] H67o24 := by rw [show (topJs l (i + 1)) = ((topJs l i) ++ ([(Jump.mk ([(LRow.mk ([1 - (2 * (pickI ((tpX l i)) 2))]) 1 ((pickI (((tpX l i)).tdiv 2) 13) - 6))]) ([[pickI (((tpX l i)).tdiv 26) 3, (pickI (((tpX l i)).tdiv 78) 9) - 4]]))])) from (by rw [topJs_next]; rfl)]; exact hS67o24x3
              refine ⟨Ext.mono hxx (labS_of 0 rfl (fun _ _ => trivial)), ?_⟩
              refine wpR_q 25 (by kernel_rfl) rfl (quietAt rfl rfl (q_fieldAddr rfl Try.underlying42 rfl Try.sizeOf40 a66_3)) ?_
              refine wpR_n [26] (by kernel_rfl) ?_
              refine List.forall_mem_cons.2 ⟨?_, List.forall_mem_nil _⟩
              refine exE rfl rfl ?_
              refine e_storeBlk (v := v67o24) rfl rfl rfl (oneCell_rdL (hS67o24x4.rowl 0 rfl)) Try.sizeOf40 (by show _ < 5; decide) (hS67o24x4.front 10 rfl) (fun H67o26 hS67o26 hxx => ?_)
              replace hS67o26 : St H0 NoB (fun b => S b ∧ b < H0.size) [blkE g11 (.cells #[v5, v8, v29, v67o24, v47] 42), rowE 25 v67o24 (topJs l (i + 1) : List Jump), (tpB v67o23 l i), (tpD v67o21 l i), (tpC v67o12 l i), (tpA v67o20 l i), (tpE v67o6 l i), rdE v5 ([0] : List Int), rdE v8 ([6] : List Int), (tpSv29 v29 l), (tpSv47 v47 l), (tpZ g1), rdE vl (l : List Int)] H67o26 := hS67o26
              refine ⟨Ext.mono hxx (labS_of 1 rfl (fun _ _ => trivial)), ?_⟩
              refine wpR_end (by kernel_rfl) ?_
              exact ⟨v67o24, y67o3, y67o9, y67o15, y67o18, a66_0, a66_2, a66_3, a66_4, (hS67o26.drop (List.Sublist.cons_cons _ (List.Sublist.cons_cons _ (List.Sublist.cons _ (List.Sublist.cons _ (List.Sublist.cons _ (List.Sublist.cons _ (List.Sublist.cons _ (List.Sublist.cons_cons _ (List.Sublist.cons_cons _ (List.Sublist.cons_cons _ (List.Sublist.cons_cons _ (List.Sublist.cons_cons _ (List.Sublist.cons_cons _ (List.Sublist.slnil)))))))))))))))⟩
            · refine exE rfl rfl ?_
              refine e_buildSlice (vs := [I (pickI (((tpX l i)).tdiv 26) 3), I ((pickI (((tpX l i)).tdiv 78) 9) - 4)]) (xs := ([pickI (((tpX l i)).tdiv 26) 3, (pickI (((tpX l i)).tdiv 78) 9) - 4] : List Int)) rfl Try.underlying32 Try.zeroValue3 rfl Try.sizeOf3 (par2 (v0 := I (pickI (((tpX l i)).tdiv 26) 3)) (v1 := I ((pickI (((tpX l i)).tdiv 78) 9) - 4)) rfl rfl) rfl hS67o18 (RdVs.cons (Rd.int.2 ⟨rfl, by constructor <;> omega⟩) (RdVs.cons (Rd.int.2 ⟨rfl, by constructor <;> omega⟩) (RdVs.nil))) (by decide) (by decide) (fun v67o20 H67o20 hS67o20 hxx hvv67o20 => ?_)
              replace hS67o20 : St H0 NoB (fun b => S b ∧ b < H0.size) [rowE 3 v67o20 ([pickI (((tpX l i)).tdiv 26) 3, (pickI (((tpX l i)).tdiv 78) 9) - 4] : List Int), rowE 3 v67o6 ([1 - (2 * (pickI ((tpX l i)) 2))] : List Int), rowE 25 vo (topJs l i : List Jump), rdE v5 ([0] : List Int), rdE v8 ([6] : List Int), (tpSv29 v29 l), (tpSv47 v47 l), blkE g11 (.cells #[v5, v8, v29, vo, v47] 42), (tpZ g1), rdE vl (l : List Int)] H67o20 := hS67o20
              refine ⟨Ext.mono hxx (fun _ h => h.elim), ?_⟩
              refine wpR_n [12, 21] (by kernel_rfl) ?_
              refine List.forall_mem_cons.2 ⟨?_, List.forall_mem_cons.2 ⟨?_, List.forall_mem_nil _⟩⟩
              · have hS67o12 : St H0 NoB (fun b => S b ∧ b < H0.size) [(tpE v67o6 l i), rowE 3 v67o20 ([pickI (((tpX l i)).tdiv 26) 3, (pickI (((tpX l i)).tdiv 78) 9) - 4] : List Int), rowE 25 vo (topJs l i : List Jump), rdE v5 ([0] : List Int), rdE v8 ([6] : List Int), (tpSv29 v29 l), (tpSv47 v47 l), blkE g11 (.cells #[v5, v8, v29, vo, v47] 42), (tpZ g1), rdE vl (l : List Int)] H67o20 := St.fin (hS67o20.front 1 rfl)
                refine exE rfl rfl ?_
                refine e_buildSlice (vs := [Value.agg #[v67o6, I (1), I ((pickI (((tpX l i)).tdiv 2) 13) - 6)]]) (xs := ([(LRow.mk ([1 - (2 * (pickI ((tpX l i)) 2))]) 1 ((pickI (((tpX l i)).tdiv 2) 13) - 6))] : List LRow)) rfl Try.underlying22 Try.zeroValue34 rfl Try.sizeOf34 (par1 (v0 := Value.agg #[v67o6, I (1), I ((pickI (((tpX l i)).tdiv 2) 13) - 6)]) rfl) rfl hS67o12 (RdVs.cons (Rd.lRow.2 ⟨_, rfl, (hS67o12.rdS 0 rfl), (by first | assumption | (constructor <;> (dsimp only; omega)) | (constructor <;> omega)), (by first | assumption | (constructor <;> (dsimp only; omega)) | (constructor <;> omega))⟩) (RdVs.nil)) (by decide) (by decide) (fun v67o12 H67o12 hS67o12x2 hxx hvv67o12 => ?_)
                replace hS67o12x2 : St H0 NoB (fun b => S b ∧ b < H0.size) [rowE 34 v67o12 ([(LRow.mk ([1 - (2 * (pickI ((tpX l i)) 2))]) 1 ((pickI (((tpX l i)).tdiv 2) 13) - 6))] : List LRow), (tpE v67o6 l i), rowE 3 v67o20 ([pickI (((tpX l i)).tdiv 26) 3, (pickI (((tpX l i)).tdiv 78) 9) - 4] : List Int), rowE 25 vo (topJs l i : List Jump), rdE v5 ([0] : List Int), rdE v8 ([6] : List Int), (tpSv29 v29 l), (tpSv47 v47 l), blkE g11 (.cells #[v5, v8, v29, vo, v47] 42), (tpZ g1), rdE vl (l : List Int)] H67o12 := hS67o12x2
                refine ⟨Ext.mono hxx (fun _ h => h.elim), ?_⟩
                refine wpR_n [21] (by kernel_rfl) ?_
                refine List.forall_mem_cons.2 ⟨?_, List.forall_mem_nil _⟩
                have hS67o21 : St H0 NoB (fun b => S b ∧ b < H0.size) [(tpA v67o20 l i), rowE 34 v67o12 ([(LRow.mk ([1 - (2 * (pickI ((tpX l i)) 2))]) 1 ((pickI (((tpX l i)).tdiv 2) 13) - 6))] : List LRow), (tpE v67o6 l i), rowE 25 vo (topJs l i : List Jump), rdE v5 ([0] : List Int), rdE v8 ([6] : List Int), (tpSv29 v29 l), (tpSv47 v47 l), blkE g11 (.cells #[v5, v8, v29, vo, v47] 42), (tpZ g1), rdE vl (l : List Int)] H67o12 := St.fin (hS67o12x2.front 2 rfl)
                refine exE rfl rfl ?_
                refine e_buildSlice (vs := [v67o20]) (xs := ([[pickI (((tpX l i)).tdiv 26) 3, (pickI (((tpX l i)).tdiv 78) 9) - 4]] : List (List Int))) rfl Try.underlying23 Try.zeroValue32 rfl Try.sizeOf32 (par1 (v0 := v67o20) rfl) rfl hS67o21 (RdVs.cons (hS67o21.rdS 0 rfl) (RdVs.nil)) (by decide) (by decide) (fun v67o21 H67o21 hS67o21x2 hxx hvv67o21 => ?_)
                replace hS67o21x2 : St H0 NoB (fun b => S b ∧ b < H0.size) [rowE 32 v67o21 ([[pickI (((tpX l i)).tdiv 26) 3, (pickI (((tpX l i)).tdiv 78) 9) - 4]] : List (List Int)), (tpA v67o20 l i), rowE 34 v67o12 ([(LRow.mk ([1 - (2 * (pickI ((tpX l i)) 2))]) 1 ((pickI (((tpX l i)).tdiv 2) 13) - 6))] : List LRow), (tpE v67o6 l i), rowE 25 vo (topJs l i : List Jump), rdE v5 ([0] : List Int), rdE v8 ([6] : List Int), (tpSv29 v29 l), (tpSv47 v47 l), blkE g11 (.cells #[v5, v8, v29, vo, v47] 42), (tpZ g1), rdE vl (l : List Int)] H67o21 := hS67o21x2
                refine ⟨Ext.mono hxx (fun _ h => h.elim), ?_⟩
                refine wpR_q 22 (by kernel_rfl) rfl (quietAt rfl rfl (q_build (v := Value.agg #[v67o12, v67o21]) rfl (par2 (v0 := v67o12) (v1 := v67o21) rfl rfl) ((hS67o21x2.rowl 2 rfl).slc (fun zz0 => ∀ w, (Instr.build 25 #[(0, zz0), (1, v67o21)]).run Try.prog w = .ok (Value.agg #[zz0, v67o21]) w) (fun a0 n0 c0 => ((hS67o21x2.rowl 0 rfl).slc (fun zz1 => ∀ w, (Instr.build 25 #[(0, (.slice a0 n0 c0)), (1, zz1)]).run Try.prog w = .ok (Value.agg #[(.slice a0 n0 c0), zz1]) w) (fun a1 n1 c1 => (fun w => by kernel_rfl))))))) ?_
                refine wpR_n [23] (by kernel_rfl) ?_
                refine List.forall_mem_cons.2 ⟨?_, List.forall_mem_nil _⟩
                have hS67o23 : St H0 NoB (fun b => S b ∧ b < H0.size) [(tpC v67o12 l i), rowE 32 v67o21 ([[pickI (((tpX l i)).tdiv 26) 3, (pickI (((tpX l i)).tdiv 78) 9) - 4]] : List (List Int)), (tpA v67o20 l i), (tpE v67o6 l i), rowE 25 vo (topJs l i : List Jump), rdE v5 ([0] : List Int), rdE v8 ([6] : List Int), (tpSv29 v29 l), (tpSv47 v47 l), blkE g11 (.cells #[v5, v8, v29, vo, v47] 42), (tpZ g1), rdE vl (l : List Int)] H67o21 := St.fin (hS67o21x2.front 2 rfl)
                have hS67o23x2 : St H0 NoB (fun b => S b ∧ b < H0.size) [(tpD v67o21 l i), (tpC v67o12 l i), (tpA v67o20 l i), (tpE v67o6 l i), rowE 25 vo (topJs l i : List Jump), rdE v5 ([0] : List Int), rdE v8 ([6] : List Int), (tpSv29 v29 l), (tpSv47 v47 l), blkE g11 (.cells #[v5, v8, v29, vo, v47] 42), (tpZ g1), rdE vl (l : List Int)] H67o21 := St.fin (hS67o23.front 1 rfl)
                refine exE rfl rfl ?_
                refine e_buildSlice (vs := [Value.agg #[v67o12, v67o21]]) (xs := ([(Jump.mk ([(LRow.mk ([1 - (2 * (pickI ((tpX l i)) 2))]) 1 ((pickI (((tpX l i)).tdiv 2) 13) - 6))]) ([[pickI (((tpX l i)).tdiv 26) 3, (pickI (((tpX l i)).tdiv 78) 9) - 4]]))] : List Jump)) rfl Try.underlying40 Try.zeroValue25 rfl Try.sizeOf25 (par1 (v0 := Value.agg #[v67o12, v67o21]) rfl) rfl hS67o23x2 (RdVs.cons (Rd.jump.2 ⟨_, _, rfl, (hS67o23x2.rdS 1 rfl), (hS67o23x2.rdS 0 rfl)⟩) (RdVs.nil)) (by decide) (by decide) (fun v67o23 H67o23 hS67o23x3 hxx hvv67o23 => ?_)
                replace hS67o23x3 : St H0 NoB (fun b => S b ∧ b < H0.size) [rowE 25 v67o23 ([(Jump.mk ([(LRow.mk ([1 - (2 * (pickI ((tpX l i)) 2))]) 1 ((pickI (((tpX l i)).tdiv 2) 13) - 6))]) ([[pickI (((tpX l i)).tdiv 26) 3, (pickI (((tpX l i)).tdiv 78) 9) - 4]]))] : List Jump), (tpD v67o21 l i), (tpC v67o12 l i), (tpA v67o20 l i), (tpE v67o6 l i), rowE 25 vo (topJs l i : List Jump), rdE v5 ([0] : List Int), rdE v8 ([6] : List Int), (tpSv29 v29 l), (tpSv47 v47 l), blkE g11 (.cells #[v5, v8, v29, vo, v47] 42), (tpZ g1), rdE vl (l : List Int)] H67o23 := hS67o23x3
                refine ⟨Ext.mono hxx (fun _ h => h.elim), ?_⟩
                refine wpR_n [24] (by kernel_rfl) ?_
                refine List.forall_mem_cons.2 ⟨?_, List.forall_mem_nil _⟩
                have hS67o24 : St H0 NoB (fun b => S b ∧ b < H0.size) [(tpB v67o23 l i), (tpD v67o21 l i), (tpC v67o12 l i), (tpA v67o20 l i), (tpE v67o6 l i), rowE 25 vo (topJs l i : List Jump), rdE v5 ([0] : List Int), rdE v8 ([6] : List Int), (tpSv29 v29 l), (tpSv47 v47 l), blkE g11 (.cells #[v5, v8, v29, vo, v47] 42), (tpZ g1), rdE vl (l : List Int)] H67o23 := St.fin hS67o23x3
                have hS67o24x2 : St H0 NoB (fun b => S b ∧ b < H0.size) [rowE 25 vo (topJs l i : List Jump), (tpB v67o23 l i), (tpD v67o21 l i), (tpC v67o12 l i), (tpA v67o20 l i), (tpE v67o6 l i), rdE v5 ([0] : List Int), rdE v8 ([6] : List Int), (tpSv29 v29 l), (tpSv47 v47 l), blkE g11 (.cells #[v5, v8, v29, vo, v47] 42), (tpZ g1), rdE vl (l : List Int)] H67o23 := (hS67o24.front 5 rfl)
                refine exE rfl rfl ?_
                refine e_append rfl Try.underlying40 em_Jump_25_TopL1 rfl rfl hS67o24x2 (hS67o24x2.rdS 1 rfl) (fun _ h => h) (by have hb : GoT.bytes Jump = 48 := rfl; have hbl : (topJs l i).length = i := (by simp [topJs]); simp [hb, hbl]; omega) (by decide) (fun v67o24 H67o24 hS67o24x3 hxx => ?_)
                replace hS67o24x3 : St H0 NoB (fun b => S b ∧ b < H0.size) [rowE 25 v67o24 ((topJs l i) ++ ([(Jump.mk ([(LRow.mk ([1 - (2 * (pickI ((tpX l i)) 2))]) 1 ((pickI (((tpX l i)).tdiv 2) 13) - 6))]) ([[pickI (((tpX l i)).tdiv 26) 3, (pickI (((tpX l i)).tdiv 78) 9) - 4]]))]) : List Jump), (tpB v67o23 l i), (tpD v67o21 l i), (tpC v67o12 l i), (tpA v67o20 l i), (tpE v67o6 l i), rdE v5 ([0] : List Int), rdE v8 ([6] : List Int), (tpSv29 v29 l), (tpSv47 v47 l), blkE g11 (.cells #[v5, v8, v29, vo, v47] 42), (tpZ g1), rdE vl (l : List Int)] H67o24 := hS67o24x3
                have hS67o24x4 : St H0 NoB (fun b => S b ∧ b < H0.size) [rowE 25 v67o24 (topJs l (i + 1) : List Jump), (tpB v67o23 l i), (tpD v67o21 l i), (tpC v67o12 l i), (tpA v67o20 l i), (tpE v67o6 l i), rdE v5 ([0] : List Int), rdE v8 ([6] : List Int), (tpSv29 v29 l), (tpSv47 v47 l), blkE g11 (.cells #[v5, v8, v29, vo, v47] 42), (tpZ g1), rdE vl (l : List Int)] H67o24 := by rw [show (topJs l (i + 1)) = ((topJs l i) ++ ([(Jump.mk ([(LRow.mk ([1 - (2 * (pickI ((tpX l i)) 2))]) 1 ((pickI (((tpX l i)).tdiv 2) 13) - 6))]) ([[pickI (((tpX l i)).tdiv 26) 3, (pickI (((tpX l i)).tdiv 78) 9) - 4]]))])) from (by rw [topJs_next]; rfl)]; exact hS67o24x3
                refine ⟨Ext.mono hxx (labS_of 0 rfl (fun _ _ => trivial)), ?_⟩
                refine wpR_q 25 (by kernel_rfl) rfl (quietAt rfl rfl (q_fieldAddr rfl Try.underlying42 rfl Try.sizeOf40 a66_3)) ?_
                refine wpR_n [26] (by kernel_rfl) ?_
                refine List.forall_mem_cons.2 ⟨?_, List.forall_mem_nil _⟩
                refine exE rfl rfl ?_
                refine e_storeBlk (v := v67o24) rfl rfl rfl (oneCell_rdL (hS67o24x4.rowl 0 rfl)) Try.sizeOf40 (by show _ < 5; decide) (hS67o24x4.front 10 rfl) (fun H67o26 hS67o26 hxx => ?_)
                replace hS67o26 : St H0 NoB (fun b => S b ∧ b < H0.size) [blkE g11 (.cells #[v5, v8, v29, v67o24, v47] 42), rowE 25 v67o24 (topJs l (i + 1) : List Jump), (tpB v67o23 l i), (tpD v67o21 l i), (tpC v67o12 l i), (tpA v67o20 l i), (tpE v67o6 l i), rdE v5 ([0] : List Int), rdE v8 ([6] : List Int), (tpSv29 v29 l), (tpSv47 v47 l), (tpZ g1), rdE vl (l : List Int)] H67o26 := hS67o26
                refine ⟨Ext.mono hxx (labS_of 1 rfl (fun _ _ => trivial)), ?_⟩
                refine wpR_end (by kernel_rfl) ?_
                exact ⟨v67o24, y67o3, y67o9, y67o15, y67o18, a66_0, a66_2, a66_3, a66_4, (hS67o26.drop (List.Sublist.cons_cons _ (List.Sublist.cons_cons _ (List.Sublist.cons _ (List.Sublist.cons _ (List.Sublist.cons _ (List.Sublist.cons _ (List.Sublist.cons _ (List.Sublist.cons_cons _ (List.Sublist.cons_cons _ (List.Sublist.cons_cons _ (List.Sublist.cons_cons _ (List.Sublist.cons_cons _ (List.Sublist.cons_cons _ (List.Sublist.slnil)))))))))))))))⟩
              · have hS67o21 : St H0 NoB (fun b => S b ∧ b < H0.size) [(tpA v67o20 l i), rowE 3 v67o6 ([1 - (2 * (pickI ((tpX l i)) 2))] : List Int), rowE 25 vo (topJs l i : List Jump), rdE v5 ([0] : List Int), rdE v8 ([6] : List Int), (tpSv29 v29 l), (tpSv47 v47 l), blkE g11 (.cells #[v5, v8, v29, vo, v47] 42), (tpZ g1), rdE vl (l : List Int)] H67o20 := St.fin hS67o20
                refine exE rfl rfl ?_
                refine e_buildSlice (vs := [v67o20]) (xs := ([[pickI (((tpX l i)).tdiv 26) 3, (pickI (((tpX l i)).tdiv 78) 9) - 4]] : List (List Int))) rfl Try.underlying23 Try.zeroValue32 rfl Try.sizeOf32 (par1 (v0 := v67o20) rfl) rfl hS67o21 (RdVs.cons (hS67o21.rdS 0 rfl) (RdVs.nil)) (by decide) (by decide) (fun v67o21 H67o21 hS67o21x2 hxx hvv67o21 => ?_)
                replace hS67o21x2 : St H0 NoB (fun b => S b ∧ b < H0.size) [rowE 32 v67o21 ([[pickI (((tpX l i)).tdiv 26) 3, (pickI (((tpX l i)).tdiv 78) 9) - 4]] : List (List Int)), (tpA v67o20 l i), rowE 3 v67o6 ([1 - (2 * (pickI ((tpX l i)) 2))] : List Int), rowE 25 vo (topJs l i : List Jump), rdE v5 ([0] : List Int), rdE v8 ([6] : List Int), (tpSv29 v29 l), (tpSv47 v47 l), blkE g11 (.cells #[v5, v8, v29, vo, v47] 42), (tpZ g1), rdE vl (l : List Int)] H67o21 := hS67o21x2
                refine ⟨Ext.mono hxx (fun _ h => h.elim), ?_⟩
                refine wpR_n [12] (by kernel_rfl) ?_
                refine List.forall_mem_cons.2 ⟨?_, List.forall_mem_nil _⟩
                have hS67o12 : St H0 NoB (fun b => S b ∧ b < H0.size) [(tpE v67o6 l i), rowE 32 v67o21 ([[pickI (((tpX l i)).tdiv 26) 3, (pickI (((tpX l i)).tdiv 78) 9) - 4]] : List (List Int)), (tpA v67o20 l i), rowE 25 vo (topJs l i : List Jump), rdE v5 ([0] : List Int), rdE v8 ([6] : List Int), (tpSv29 v29 l), (tpSv47 v47 l), blkE g11 (.cells #[v5, v8, v29, vo, v47] 42), (tpZ g1), rdE vl (l : List Int)] H67o21 := St.fin (hS67o21x2.front 2 rfl)
                refine exE rfl rfl ?_
                refine e_buildSlice (vs := [Value.agg #[v67o6, I (1), I ((pickI (((tpX l i)).tdiv 2) 13) - 6)]]) (xs := ([(LRow.mk ([1 - (2 * (pickI ((tpX l i)) 2))]) 1 ((pickI (((tpX l i)).tdiv 2) 13) - 6))] : List LRow)) rfl Try.underlying22 Try.zeroValue34 rfl Try.sizeOf34 (par1 (v0 := Value.agg #[v67o6, I (1), I ((pickI (((tpX l i)).tdiv 2) 13) - 6)]) rfl) rfl hS67o12 (RdVs.cons (Rd.lRow.2 ⟨_, rfl, (hS67o12.rdS 0 rfl), (by first | assumption | (constructor <;> (dsimp only; omega)) | (constructor <;> omega)), (by first | assumption | (constructor <;> (dsimp only; omega)) | (constructor <;> omega))⟩) (RdVs.nil)) (by decide) (by decide) (fun v67o12 H67o12 hS67o12x2 hxx hvv67o12 => ?_)
                replace hS67o12x2 : St H0 NoB (fun b => S b ∧ b < H0.size) [rowE 34 v67o12 ([(LRow.mk ([1 - (2 * (pickI ((tpX l i)) 2))]) 1 ((pickI (((tpX l i)).tdiv 2) 13) - 6))] : List LRow), (tpE v67o6 l i), rowE 32 v67o21 ([[pickI (((tpX l i)).tdiv 26) 3, (pickI (((tpX l i)).tdiv 78) 9) - 4]] : List (List Int)), (tpA v67o20 l i), rowE 25 vo (topJs l i : List Jump), rdE v5 ([0] : List Int), rdE v8 ([6] : List Int), (tpSv29 v29 l), (tpSv47 v47 l), blkE g11 (.cells #[v5, v8, v29, vo, v47] 42), (tpZ g1), rdE vl (l : List Int)] H67o12 := hS67o12x2
                refine ⟨Ext.mono hxx (fun _ h => h.elim), ?_⟩
                refine wpR_q 22 (by kernel_rfl) rfl (quietAt rfl rfl (q_build (v := Value.agg #[v67o12, v67o21]) rfl (par2 (v0 := v67o12) (v1 := v67o21) rfl rfl) ((hS67o12x2.rowl 0 rfl).slc (fun zz0 => ∀ w, (Instr.build 25 #[(0, zz0), (1, v67o21)]).run Try.prog w = .ok (Value.agg #[zz0, v67o21]) w) (fun a0 n0 c0 => ((hS67o12x2.rowl 2 rfl).slc (fun zz1 => ∀ w, (Instr.build 25 #[(0, (.slice a0 n0 c0)), (1, zz1)]).run Try.prog w = .ok (Value.agg #[(.slice a0 n0 c0), zz1]) w) (fun a1 n1 c1 => (fun w => by kernel_rfl))))))) ?_
                refine wpR_n [23] (by kernel_rfl) ?_
                refine List.forall_mem_cons.2 ⟨?_, List.forall_mem_nil _⟩
                have hS67o23 : St H0 NoB (fun b => S b ∧ b < H0.size) [(tpC v67o12 l i), (tpE v67o6 l i), rowE 32 v67o21 ([[pickI (((tpX l i)).tdiv 26) 3, (pickI (((tpX l i)).tdiv 78) 9) - 4]] : List (List Int)), (tpA v67o20 l i), rowE 25 vo (topJs l i : List Jump), rdE v5 ([0] : List Int), rdE v8 ([6] : List Int), (tpSv29 v29 l), (tpSv47 v47 l), blkE g11 (.cells #[v5, v8, v29, vo, v47] 42), (tpZ g1), rdE vl (l : List Int)] H67o12 := St.fin hS67o12x2
                have hS67o23x2 : St H0 NoB (fun b => S b ∧ b < H0.size) [(tpD v67o21 l i), (tpC v67o12 l i), (tpE v67o6 l i), (tpA v67o20 l i), rowE 25 vo (topJs l i : List Jump), rdE v5 ([0] : List Int), rdE v8 ([6] : List Int), (tpSv29 v29 l), (tpSv47 v47 l), blkE g11 (.cells #[v5, v8, v29, vo, v47] 42), (tpZ g1), rdE vl (l : List Int)] H67o12 := St.fin (hS67o23.front 2 rfl)
                refine exE rfl rfl ?_
                refine e_buildSlice (vs := [Value.agg #[v67o12, v67o21]]) (xs := ([(Jump.mk ([(LRow.mk ([1 - (2 * (pickI ((tpX l i)) 2))]) 1 ((pickI (((tpX l i)).tdiv 2) 13) - 6))]) ([[pickI (((tpX l i)).tdiv 26) 3, (pickI (((tpX l i)).tdiv 78) 9) - 4]]))] : List Jump)) rfl Try.underlying40 Try.zeroValue25 rfl Try.sizeOf25 (par1 (v0 := Value.agg #[v67o12, v67o21]) rfl) rfl hS67o23x2 (RdVs.cons (Rd.jump.2 ⟨_, _, rfl, (hS67o23x2.rdS 1 rfl), (hS67o23x2.rdS 0 rfl)⟩) (RdVs.nil)) (by decide) (by decide) (fun v67o23 H67o23 hS67o23x3 hxx hvv67o23 => ?_)
                replace hS67o23x3 : St H0 NoB (fun b => S b ∧ b < H0.size) [rowE 25 v67o23 ([(Jump.mk ([(LRow.mk ([1 - (2 * (pickI ((tpX l i)) 2))]) 1 ((pickI (((tpX l i)).tdiv 2) 13) - 6))]) ([[pickI (((tpX l i)).tdiv 26) 3, (pickI (((tpX l i)).tdiv 78) 9) - 4]]))] : List Jump), (tpD v67o21 l i), (tpC v67o12 l i), (tpE v67o6 l i), (tpA v67o20 l i), rowE 25 vo (topJs l i : List Jump), rdE v5 ([0] : List Int), rdE v8 ([6] : List Int), (tpSv29 v29 l), (tpSv47 v47 l), blkE g11 (.cells #[v5, v8, v29, vo, v47] 42), (tpZ g1), rdE vl (l : List Int)] H67o23 := hS67o23x3
                refine ⟨Ext.mono hxx (fun _ h => h.elim), ?_⟩
                refine wpR_n [24] (by kernel_rfl) ?_
                refine List.forall_mem_cons.2 ⟨?_, List.forall_mem_nil _⟩
                have hS67o24 : St H0 NoB (fun b => S b ∧ b < H0.size) [(tpB v67o23 l i), (tpD v67o21 l i), (tpC v67o12 l i), (tpE v67o6 l i), (tpA v67o20 l i), rowE 25 vo (topJs l i : List Jump), rdE v5 ([0] : List Int), rdE v8 ([6] : List Int), (tpSv29 v29 l), (tpSv47 v47 l), blkE g11 (.cells #[v5, v8, v29, vo, v47] 42), (tpZ g1), rdE vl (l : List Int)] H67o23 := St.fin hS67o23x3
                have hS67o24x2 : St H0 NoB (fun b => S b ∧ b < H0.size) [rowE 25 vo (topJs l i : List Jump), (tpB v67o23 l i), (tpD v67o21 l i), (tpC v67o12 l i), (tpE v67o6 l i), (tpA v67o20 l i), rdE v5 ([0] : List Int), rdE v8 ([6] : List Int), (tpSv29 v29 l), (tpSv47 v47 l), blkE g11 (.cells #[v5, v8, v29, vo, v47] 42), (tpZ g1), rdE vl (l : List Int)] H67o23 := (hS67o24.front 5 rfl)
                refine exE rfl rfl ?_
                refine e_append rfl Try.underlying40 em_Jump_25_TopL1 rfl rfl hS67o24x2 (hS67o24x2.rdS 1 rfl) (fun _ h => h) (by have hb : GoT.bytes Jump = 48 := rfl; have hbl : (topJs l i).length = i := (by simp [topJs]); simp [hb, hbl]; omega) (by decide) (fun v67o24 H67o24 hS67o24x3 hxx => ?_)
                replace hS67o24x3 : St H0 NoB (fun b => S b ∧ b < H0.size) [rowE 25 v67o24 ((topJs l i) ++ ([(Jump.mk ([(LRow.mk ([1 - (2 * (pickI ((tpX l i)) 2))]) 1 ((pickI (((tpX l i)).tdiv 2) 13) - 6))]) ([[pickI (((tpX l i)).tdiv 26) 3, (pickI (((tpX l i)).tdiv 78) 9) - 4]]))]) : List Jump), (tpB v67o23 l i), (tpD v67o21 l i), (tpC v67o12 l i), (tpE v67o6 l i), (tpA v67o20 l i), rdE v5 ([0] : List Int), rdE v8 ([6] : List Int), (tpSv29 v29 l), (tpSv47 v47 l), blkE g11 (.cells #[v5, v8, v29, vo, v47] 42), (tpZ g1), rdE vl (l : List Int)] H67o24 := hS67o24x3
                have hS67o24x4 : St H0 NoB (fun b => S b ∧ b < H0.size) [rowE 25 v67o24 (topJs l (i + 1) : List Jump), (tpB v67o23 l i), (tpD v67o21 l i), (tpC v67o12 l i), (tpE v67o6 l i), (tpA v67o20 l i), rdE v5 ([0] : List Int), rdE v8 ([6] : List Int), (tpSv29 v29 l), (tpSv47 v47 l), blkE g11 (.cells #[v5, v8, v29, vo, v47] 42), (tpZ g1), rdE vl (l : List Int)] H67o24 := by rw [show (topJs l (i + 1)) = ((topJs l i) ++ ([(Jump.mk ([(LRow.mk ([1 - (2 * (pickI ((tpX l i)) 2))]) 1 ((pickI (((tpX l i)).tdiv 2) 13) - 6))]) ([[pickI (((tpX l i)).tdiv 26) 3, (pickI (((tpX l i)).tdiv 78) 9) - 4]]))])) from (by rw [topJs_next]; rfl)]; exact hS67o24x3
                refine ⟨Ext.mono hxx (labS_of 0 rfl (fun _ _ => trivial)), ?_⟩
                refine wpR_q 25 (by kernel_rfl) rfl (quietAt rfl rfl (q_fieldAddr rfl Try.underlying42 rfl Try.sizeOf40 a66_3)) ?_
                refine wpR_n [26] (by kernel_rfl) ?_
                refine List.forall_mem_cons.2 ⟨?_, List.forall_mem_nil _⟩
                refine exE rfl rfl ?_
                refine e_storeBlk (v := v67o24) rfl rfl rfl (oneCell_rdL (hS67o24x4.rowl 0 rfl)) Try.sizeOf40 (by show _ < 5; decide) (hS67o24x4.front 10 rfl) (fun H67o26 hS67o26 hxx => ?_)
                replace hS67o26 : St H0 NoB (fun b => S b ∧ b < H0.size) [blkE g11 (.cells #[v5, v8, v29, v67o24, v47] 42), rowE 25 v67o24 (topJs l (i + 1) : List Jump), (tpB v67o23 l i), (tpD v67o21 l i), (tpC v67o12 l i), (tpE v67o6 l i), (tpA v67o20 l i), rdE v5 ([0] : List Int), rdE v8 ([6] : List Int), (tpSv29 v29 l), (tpSv47 v47 l), (tpZ g1), rdE vl (l : List Int)] H67o26 := hS67o26
                refine ⟨Ext.mono hxx (labS_of 1 rfl (fun _ _ => trivial)), ?_⟩
                refine wpR_end (by kernel_rfl) ?_
                exact ⟨v67o24, y67o3, y67o9, y67o15, y67o18, a66_0, a66_2, a66_3, a66_4, (hS67o26.drop (List.Sublist.cons_cons _ (List.Sublist.cons_cons _ (List.Sublist.cons _ (List.Sublist.cons _ (List.Sublist.cons _ (List.Sublist.cons _ (List.Sublist.cons _ (List.Sublist.cons_cons _ (List.Sublist.cons_cons _ (List.Sublist.cons_cons _ (List.Sublist.cons_cons _ (List.Sublist.cons_cons _ (List.Sublist.cons_cons _ (List.Sublist.slnil)))))))))))))))⟩
        · refine exE rfl rfl ?_
          refine e_call rfl Try.call20 (arr2 (v0 := I (((tpX l i)).tdiv 78)) (v1 := I (9)) rfl rfl) (Picked (((tpX l i)).tdiv 78) 9 (by omega)) ?_
          rintro _ H67o18 ⟨hxx, rfl, y67o18⟩
          have hS67o18 : St H0 NoB (fun b => S b ∧ b < H0.size) [rowE 25 vo (topJs l i : List Jump), rdE v5 ([0] : List Int), rdE v8 ([6] : List Int), (tpSv29 v29 l), (tpSv47 v47 l), blkE g11 (.cells #[v5, v8, v29, vo, v47] 42), (tpZ g1), rdE vl (l : List Int)] H67o18 := hS67o15.ext hxx
          refine ⟨Ext.mono hxx (fun _ h => h.elim), ?_⟩
          refine wpR_q 19 (by kernel_rfl) rfl (quietAt rfl rfl (q_sub rfl rfl rfl (by constructor <;> omega))) ?_
          refine wpR_n [6, 20] (by kernel_rfl) ?_
          refine List.forall_mem_cons.2 ⟨?_, List.forall_mem_cons.2 ⟨?_, List.forall_mem_nil _⟩⟩
          · refine exE rfl rfl ?_
            refine e_buildSlice (vs := [I (1 - (2 * (pickI ((tpX l i)) 2)))]) (xs := ([1 - (2 * (pickI ((tpX l i)) 2))] : List Int)) rfl Try.underlying32 Try.zeroValue3 rfl Try.sizeOf3 (par1 (v0 := I (1 - (2 * (pickI ((tpX l i)) 2)))) rfl) rfl hS67o18 (RdVs.cons (Rd.int.2 ⟨rfl, by constructor <;> omega⟩) (RdVs.nil)) (by decide) (by decide) (fun v67o6 H67o6 hS67o6 hxx hvv67o6 => ?_)
            replace hS67o6 : St H0 NoB (fun b => S b ∧ b < H0.size) [rowE 3 v67o6 ([1 - (2 * (pickI ((tpX l i)) 2))] : List Int), rowE 25 vo (topJs l i : List Jump), rdE v5 ([0] : List Int), rdE v8 ([6] : List Int), (tpSv29 v29 l), (tpSv47 v47 l), blkE g11 (.cells #[v5, v8, v29, vo, v47] 42), (tpZ g1), rdE vl (l : List Int)] H67o6 := hS67o6
            refine ⟨Ext.mono hxx (fun _ h => h.elim), ?_⟩
            refine wpR_q 11 (by kernel_rfl) rfl (quietAt rfl rfl (q_build (v := Value.agg #[v67o6, I (1), I ((pickI (((tpX l i)).tdiv 2) 13) - 6)]) rfl (par3 (v0 := v67o6) (v1 := I (1)) (v2 := I ((pickI (((tpX l i)).tdiv 2) 13) - 6)) rfl rfl rfl) ((hS67o6.rowl 0 rfl).slc (fun zz0 => ∀ w, (Instr.build 34 #[(0, zz0), (1, I (1)), (2, I ((pickI (((tpX l i)).tdiv 2) 13) - 6))]).run Try.prog w = .ok (Value.agg #[zz0, I (1), I ((pickI (((tpX l i)).tdiv 2) 13) - 6)]) w) (fun a0 n0 c0 => (fun w => by kernel_rfl))))) ?_
            refine wpR_n [12, 20] (by kernel_rfl) ?_
            refine List.forall_mem_cons.2 ⟨?_, List.forall_mem_cons.2 ⟨?_, List.forall_mem_nil _⟩⟩
            · have hS67o12 : St H0 NoB (fun b => S b ∧ b < H0.size) [(tpE v67o6 l i), rowE 25 vo (topJs l i : List Jump), rdE v5 ([0] : List Int), rdE v8 ([6] : List Int), (tpSv29 v29 l), (tpSv47 v47 l), blkE g11 (.cells #[v5, v8, v29, vo, v47] 42), (tpZ g1), rdE vl (l : List Int)] H67o6 := St.fin hS67o6
              refine exE rfl rfl ?_
              refine e_buildSlice (vs := [Value.agg #[v67o6, I (1), I ((pickI (((tpX l i)).tdiv 2) 13) - 6)]]) (xs := ([(LRow.mk ([1 - (2 * (pickI ((tpX l i)) 2))]) 1 ((pickI (((tpX l i)).tdiv 2) 13) - 6))] : List LRow)) rfl Try.underlying22 Try.zeroValue34 rfl Try.sizeOf34 (par1 (v0 := Value.agg #[v67o6, I (1), I ((pickI (((tpX l i)).tdiv 2) 13) - 6)]) rfl) rfl hS67o12 (RdVs.cons (Rd.lRow.2 ⟨_, rfl, (hS67o12.rdS 0 rfl), (by first | assumption | (constructor <;> (dsimp only; omega)) | (constructor <;> omega)), (by first | assumption | (constructor <;> (dsimp only; omega)) | (constructor <;> omega))⟩) (RdVs.nil)) (by decide) (by decide) (fun v67o12 H67o12 hS67o12x2 hxx hvv67o12 => ?_)
              replace hS67o12x2 : St H0 NoB (fun b => S b ∧ b < H0.size) [rowE 34 v67o12 ([(LRow.mk ([1 - (2 * (pickI ((tpX l i)) 2))]) 1 ((pickI (((tpX l i)).tdiv 2) 13) - 6))] : List LRow), (tpE v67o6 l i), rowE 25 vo (topJs l i : List Jump), rdE v5 ([0] : List Int), rdE v8 ([6] : List Int), (tpSv29 v29 l), (tpSv47 v47 l), blkE g11 (.cells #[v5, v8, v29, vo, v47] 42), (tpZ g1), rdE vl (l : List Int)] H67o12 := hS67o12x2
              refine ⟨Ext.mono hxx (fun _ h => h.elim), ?_⟩
              refine wpR_n [20] (by kernel_rfl) ?_
              refine List.forall_mem_cons.2 ⟨?_, List.forall_mem_nil _⟩
              refine exE rfl rfl ?_
              refine e_buildSlice (vs := [I (pickI (((tpX l i)).tdiv 26) 3), I ((pickI (((tpX l i)).tdiv 78) 9) - 4)]) (xs := ([pickI (((tpX l i)).tdiv 26) 3, (pickI (((tpX l i)).tdiv 78) 9) - 4] : List Int)) rfl Try.underlying32 Try.zeroValue3 rfl Try.sizeOf3 (par2 (v0 := I (pickI (((tpX l i)).tdiv 26) 3)) (v1 := I ((pickI (((tpX l i)).tdiv 78) 9) - 4)) rfl rfl) rfl hS67o12x2 (RdVs.cons (Rd.int.2 ⟨rfl, by constructor <;> omega⟩) (RdVs.cons (Rd.int.2 ⟨rfl, by constructor <;> omega⟩) (RdVs.nil))) (by decide) (by decide) (fun v67o20 H67o20 hS67o20 hxx hvv67o20 => ?_)
              replace hS67o20 : St H0 NoB (fun b => S b ∧ b < H0.size) [rowE 3 v67o20 ([pickI (((tpX l i)).tdiv 26) 3, (pickI (((tpX l i)).tdiv 78) 9) - 4] : List Int), rowE 34 v67o12 ([(LRow.mk ([1 - (2 * (pickI ((tpX l i)) 2))]) 1 ((pickI (((tpX l i)).tdiv 2) 13) - 6))] : List LRow), (tpE v67o6 l i), rowE 25 vo (topJs l i : List Jump), rdE v5 ([0] : List Int), rdE v8 ([6] : List Int), (tpSv29 v29 l), (tpSv47 v47 l), blkE g11 (.cells #[v5, v8, v29, vo, v47] 42), (tpZ g1), rdE vl (l : List Int)] H67o20 := hS67o20
              refine ⟨Ext.mono hxx (fun _ h => h.elim), ?_⟩
              refine wpR_n [21] (by kernel_rfl) ?_
              refine List.forall_mem_cons.2 ⟨?_, List.forall_mem_nil _⟩
              have hS67o21 : St H0 NoB (fun b => S b ∧ b < H0.size) [(tpA v67o20 l i), rowE 34 v67o12 ([(LRow.mk ([1 - (2 * (pickI ((tpX l i)) 2))]) 1 ((pickI (((tpX l i)).tdiv 2) 13) - 6))] : List LRow), (tpE v67o6 l i), rowE 25 vo (topJs l i : List Jump), rdE v5 ([0] : List Int), rdE v8 ([6] : List Int), (tpSv29 v29 l), (tpSv47 v47 l), blkE g11 (.cells #[v5, v8, v29, vo, v47] 42), (tpZ g1), rdE vl (l : List Int)] H67o20 := St.fin hS67o20
              refine exE rfl rfl ?_
              refine e_buildSlice (vs := [v67o20]) (xs := ([[pickI (((tpX l i)).tdiv 26) 3, (pickI (((tpX l i)).tdiv 78) 9) - 4]] : List (List Int))) rfl Try.underlying23 Try.zeroValue32 rfl Try.sizeOf32 (par1 (v0 := v67o20) rfl) rfl hS67o21 (RdVs.cons (hS67o21.rdS 0 rfl) (RdVs.nil)) (by decide) (by decide) (fun v67o21 H67o21 hS67o21x2 hxx hvv67o21 => ?_)
              replace hS67o21x2 : St H0 NoB (fun b => S b ∧ b < H0.size) [rowE 32 v67o21 ([[pickI (((tpX l i)).tdiv 26) 3, (pickI (((tpX l i)).tdiv 78) 9) - 4]] : List (List Int)), (tpA v67o20 l i), rowE 34 v67o12 ([(LRow.mk ([1 - (2 * (pickI ((tpX l i)) 2))]) 1 ((pickI (((tpX l i)).tdiv 2) 13) - 6))] : List LRow), (tpE v67o6 l i), rowE 25 vo (topJs l i : List Jump), rdE v5 ([0] : List Int), rdE v8 ([6] : List Int), (tpSv29 v29 l), (tpSv47 v47 l), blkE g11 (.cells #[v5, v8, v29, vo, v47] 42), (tpZ g1), rdE vl (l : List Int)] H67o21 := hS67o21x2
              refine ⟨Ext.mono hxx (fun _ h => h.elim), ?_⟩
              refine wpR_q 22 (by kernel_rfl) rfl (quietAt rfl rfl (q_build (v := Value.agg #[v67o12, v67o21]) rfl (par2 (v0 := v67o12) (v1 := v67o21) rfl rfl) ((hS67o21x2.rowl 2 rfl).slc (fun zz0 => ∀ w, (Instr.build 25 #[(0, zz0), (1, v67o21)]).run Try.prog w = .ok (Value.agg #[zz0, v67o21]) w) (fun a0 n0 c0 => ((hS67o21x2.rowl 0 rfl).slc (fun zz1 => ∀ w, (Instr.build 25 #[(0, (.slice a0 n0 c0)), (1, zz1)]).run Try.prog w = .ok (Value.agg #[(.slice a0 n0 c0), zz1]) w) (fun a1 n1 c1 => (fun w => by kernel_rfl))))))) ?_
              refine wpR_n [23] (by kernel_rfl) ?_
              refine List.forall_mem_cons.2 ⟨?_, List.forall_mem_nil _⟩
              have hS67o23 : St H0 NoB (fun b => S b ∧ b < H0.size) [(tpC v67o12 l i), rowE 32 v67o21 ([[pickI (((tpX l i)).tdiv 26) 3, (pickI (((tpX l i)).tdiv 78) 9) - 4]] : List (List Int)), (tpA v67o20 l i), (tpE v67o6 l i), rowE 25 vo (topJs l i : List Jump), rdE v5 ([0] : List Int), rdE v8 ([6] : List Int), (tpSv29 v29 l), (tpSv47 v47 l), blkE g11 (.cells #[v5, v8, v29, vo, v47] 42), (tpZ g1), rdE vl (l : List Int)] H67o21 := St.fin (hS67o21x2.front 2 rfl)
              have hS67o23x2 : St H0 NoB (fun b => S b ∧ b < H0.size) [(tpD v67o21 l i), (tpC v67o12 l i), (tpA v67o20 l i), (tpE v67o6 l i), rowE 25 vo (topJs l i : List Jump), rdE v5 ([0] : List Int), rdE v8 ([6] : List Int), (tpSv29 v29 l), (tpSv47 v47 l), blkE g11 (.cells #[v5, v8, v29, vo, v47] 42), (tpZ g1), rdE vl (l : List Int)] H67o21 := St.fin (hS67o23.front 1 rfl)
              refine exE rfl rfl ?_
              refine e_buildSlice (vs := [Value.agg #[v67o12, v67o21]]) (xs := ([(Jump.mk ([(LRow.mk ([1 - (2 * (pickI ((tpX l i)) 2))]) 1 ((pickI (((tpX l i)).tdiv 2) 13) - 6))]) ([[pickI (((tpX l i)).tdiv 26) 3, (pickI (((tpX l i)).tdiv 78) 9) - 4]]))] : List Jump)) rfl Try.underlying40 Try.zeroValue25 rfl Try.sizeOf25 (par1 (v0 := Value.agg #[v67o12, v67o21]) rfl) rfl hS67o23x2 (RdVs.cons (Rd.jump.2 ⟨_, _, rfl, (hS67o23x2.rdS 1 rfl), (hS67o23x2.rdS 0 rfl)⟩) (RdVs.nil)) (by decide) (by decide) (fun v67o23 H67o23 hS67o23x3 hxx hvv67o23 => ?_)
              replace hS67o23x3 : St H0 NoB (fun b => S b ∧ b < H0.size) [rowE 25 v67o23 ([(Jump.mk ([(LRow.mk ([1 - (2 * (pickI ((tpX l i)) 2))]) 1 ((pickI (((tpX l i)).tdiv 2) 13) - 6))]) ([[pickI (((tpX l i)).tdiv 26) 3, (pickI (((tpX l i)).tdiv 78) 9) - 4]]))] : List Jump), (tpD v67o21 l i), (tpC v67o12 l i), (tpA v67o20 l i), (tpE v67o6 l i), rowE 25 vo (topJs l i : List Jump), rdE v5 ([0] : List Int), rdE v8 ([6] : List Int), (tpSv29 v29 l), (tpSv47 v47 l), blkE g11 (.cells #[v5, v8, v29, vo, v47] 42), (tpZ g1), rdE vl (l : List Int)] H67o23 := hS67o23x3
              refine ⟨Ext.mono hxx (fun _ h => h.elim), ?_⟩
              refine wpR_n [24] (by kernel_rfl) ?_
              refine List.forall_mem_cons.2 ⟨?_, List.forall_mem_nil _⟩
              have hS67o24 : St H0 NoB (fun b => S b ∧ b < H0.size) [(tpB v67o23 l i), (tpD v67o21 l i), (tpC v67o12 l i), (tpA v67o20 l i), (tpE v67o6 l i), rowE 25 vo (topJs l i : List Jump), rdE v5 ([0] : List Int), rdE v8 ([6] : List Int), (tpSv29 v29 l), (tpSv47 v47 l), blkE g11 (.cells #[v5, v8, v29, vo, v47] 42), (tpZ g1), rdE vl (l : List Int)] H67o23 := St.fin hS67o23x3
              have hS67o24x2 : St H0 NoB (fun b => S b ∧ b < H0.size) [rowE 25 vo (topJs l i : List Jump), (tpB v67o23 l i), (tpD v67o21 l i), (tpC v67o12 l i), (tpA v67o20 l i), (tpE v67o6 l i), rdE v5 ([0] : List Int), rdE v8 ([6] : List Int), (tpSv29 v29 l), (tpSv47 v47 l), blkE g11 (.cells #[v5, v8, v29, vo, v47] 42), (tpZ g1), rdE vl (l : List Int)] H67o23 := (hS67o24.front 5 rfl)
              refine exE rfl rfl ?_
              refine e_append rfl Try.underlying40 em_Jump_25_TopL1 rfl rfl hS67o24x2 (hS67o24x2.rdS 1 rfl) (fun _ h => h) (by have hb : GoT.bytes Jump = 48 := rfl; have hbl : (topJs l i).length = i := (by simp [topJs]); simp [hb, hbl]; omega) (by decide) (fun v67o24 H67o24 hS67o24x3 hxx => ?_)
              replace hS67o24x3 : St H0 NoB (fun b => S b ∧ b < H0.size) [rowE 25 v67o24 ((topJs l i) ++ ([(Jump.mk ([(LRow.mk ([1 - (2 * (pickI ((tpX l i)) 2))]) 1 ((pickI (((tpX l i)).tdiv 2) 13) - 6))]) ([[pickI (((tpX l i)).tdiv 26) 3, (pickI (((tpX l i)).tdiv 78) 9) - 4]]))]) : List Jump), (tpB v67o23 l i), (tpD v67o21 l i), (tpC v67o12 l i), (tpA v67o20 l i), (tpE v67o6 l i), rdE v5 ([0] : List Int), rdE v8 ([6] : List Int), (tpSv29 v29 l), (tpSv47 v47 l), blkE g11 (.cells #[v5, v8, v29, vo, v47] 42), (tpZ g1), rdE vl (l : List Int)] H67o24 := hS67o24x3
              have hS67o24x4 : St H0 NoB (fun b => S b ∧ b < H0.size) [rowE 25 v67o24 (topJs l (i + 1) : List Jump), (tpB v67o23 l i), (tpD v67o21 l i), (tpC v67o12 l i), (tpA v67o20 l i), (tpE v67o6 l i), rdE v5 ([0] : List Int), rdE v8 ([6] : List Int), (tpSv29 v29 l), (tpSv47 v47 l), blkE g11 (.cells #[v5, v8, v29, vo, v47] 42), (tpZ g1), rdE vl (l : List Int)] H67o24 := by rw [show (topJs l (i + 1)) = ((topJs l i) ++ ([(Jump.mk ([(LRow.mk ([1 - (2 * (pickI ((tpX l i)) 2))]) 1 ((pickI (((tpX l i)).tdiv 2) 13) - 6))]) ([[pickI (((tpX l i)).tdiv 26) 3, (pickI (((tpX l i)).tdiv 78) 9) - 4]]))])) from (by rw [topJs_next]; rfl)]; exact hS67o24x3
              refine ⟨Ext.mono hxx (labS_of 0 rfl (fun _ _ => trivial)), ?_⟩
              refine wpR_q 25 (by kernel_rfl) rfl (quietAt rfl rfl (q_fieldAddr rfl Try.underlying42 rfl Try.sizeOf40 a66_3)) ?_
              refine wpR_n [26] (by kernel_rfl) ?_
              refine List.forall_mem_cons.2 ⟨?_, List.forall_mem_nil _⟩
              refine exE rfl rfl ?_
              refine e_storeBlk (v := v67o24) rfl rfl rfl (oneCell_rdL (hS67o24x4.rowl 0 rfl)) Try.sizeOf40 (by show _ < 5; decide) (hS67o24x4.front 10 rfl) (fun H67o26 hS67o26 hxx => ?_)
              replace hS67o26 : St H0 NoB (fun b => S b ∧ b < H0.size) [blkE g11 (.cells #[v5, v8, v29, v67o24, v47] 42), rowE 25 v67o24 (topJs l (i + 1) : List Jump), (tpB v67o23 l i), (tpD v67o21 l i), (tpC v67o12 l i), (tpA v67o20 l i), (tpE v67o6 l i), rdE v5 ([0] : List Int), rdE v8 ([6] : List Int), (tpSv29 v29 l), (tpSv47 v47 l), (tpZ g1), rdE vl (l : List Int)] H67o26 := hS67o26
              refine ⟨Ext.mono hxx (labS_of 1 rfl (fun _ _ => trivial)), ?_⟩
              refine wpR_end (by kernel_rfl) ?_
              exact ⟨v67o24, y67o3, y67o9, y67o15, y67o18, a66_0, a66_2, a66_3, a66_4, (hS67o26.drop (List.Sublist.cons_cons _ (List.Sublist.cons_cons _ (List.Sublist.cons _ (List.Sublist.cons _ (List.Sublist.cons _ (List.Sublist.cons _ (List.Sublist.cons _ (List.Sublist.cons_cons _ (List.Sublist.cons_cons _ (List.Sublist.cons_cons _ (List.Sublist.cons_cons _ (List.Sublist.cons_cons _ (List.Sublist.cons_cons _ (List.Sublist.slnil)))))))))))))))⟩
            · refine exE rfl rfl ?_
              refine e_buildSlice (vs := [I (pickI (((tpX l i)).tdiv 26) 3), I ((pickI (((tpX l i)).tdiv 78) 9) - 4)]) (xs := ([pickI (((tpX l i)).tdiv 26) 3, (pickI (((tpX l i)).tdiv 78) 9) - 4] : List Int)) rfl Try.underlying32 Try.zeroValue3 rfl Try.sizeOf3 (par2 (v0 := I (pickI (((tpX l i)).tdiv 26) 3)) (v1 := I ((pickI (((tpX l i)).tdiv 78) 9) - 4)) rfl rfl) rfl hS67o6 (RdVs.cons (Rd.int.2 ⟨rfl, by constructor <;> omega⟩) (RdVs.cons (Rd.int.2 ⟨rfl, by constructor <;> omega⟩) (RdVs.nil))) (by decide) (by decide) (fun v67o20 H67o20 hS67o20 hxx hvv67o20 => ?_)
              replace hS67o20 : St H0 NoB (fun b => S b ∧ b < H0.size) [rowE 3 v67o20 ([pickI (((tpX l i)).tdiv 26) 3, (pickI (((tpX l i)).tdiv 78) 9) - 4] : List Int), rowE 3 v67o6 ([1 - (2 * (pickI ((tpX l i)) 2))] : List Int), rowE 25 vo (topJs l i : List Jump), rdE v5 ([0] : List Int), rdE v8 ([6] : List Int), (tpSv29 v29 l), (tpSv47 v47 l), blkE g11 (.cells #[v5, v8, v29, vo, v47] 42), (tpZ g1), rdE vl (l : List Int)] H67o20 := hS67o20
              refine ⟨Ext.mono hxx (fun _ h => h.elim), ?_⟩
              refine wpR_n [12, 21] (by kernel_rfl) ?_
              refine List.forall_mem_cons.2 ⟨?_, List.forall_mem_cons.2 ⟨?_, List.forall_mem_nil _⟩⟩
              · have hS67o12 : St H0 NoB (fun b => S b ∧ b < H0.size) [(tpE v67o6 l i), rowE 3 v67o20 ([pickI (((tpX l i)).tdiv 26) 3, (pickI (((tpX l i)).tdiv 78) 9) - 4] : List Int), rowE 25 vo (topJs l i : List Jump), rdE v5 ([0] : List Int), rdE v8 ([6] : List Int), (tpSv29 v29 l), (tpSv47 v47 l), blkE g11 (.cells #[v5, v8, v29, vo, v47] 42), (tpZ g1), rdE vl (l : List Int)] H67o20 := St.fin (hS67o20.front 1 rfl)
                refine exE rfl rfl ?_
                refine e_buildSlice (vs := [Value.agg #[v67o6, I (1), I ((pickI (((tpX l i)).tdiv 2) 13) - 6)]]) (xs := ([(LRow.mk ([1 - (2 * (pickI ((tpX l i)) 2))]) 1 ((pickI (((tpX l i)).tdiv 2) 13) - 6))] : List LRow)) rfl Try.underlying22 Try.zeroValue34 rfl Try.sizeOf34 (par1 (v0 := Value.agg #[v67o6, I (1), I ((pickI (((tpX l i)).tdiv 2) 13) - 6)]) rfl) rfl hS67o12 (RdVs.cons (Rd.lRow.2 ⟨_, rfl, (hS67o12.rdS 0 rfl), (by first | assumption | (constructor <;> (dsimp only; omega)) | (constructor <;> omega)), (by first | assumption | (constructor <;> (dsimp only; omega)) | (constructor <;> omega))⟩) (RdVs.nil)) (by decide) (by decide) (fun v67o12 H67o12 hS67o12x2 hxx hvv67o12 => ?_)
                replace hS67o12x2 : St H0 NoB (fun b => S b ∧ b < H0.size) [rowE 34 v67o12 ([(LRow.mk ([1 - (2 * (pickI ((tpX l i)) 2))]) 1 ((pickI (((tpX l i)).tdiv 2) 13) - 6))] : List LRow), (tpE v67o6 l i), rowE 3 v67o20 ([pickI (((tpX l i)).tdiv 26) 3, (pickI (((tpX l i)).tdiv 78) 9) - 4] : List Int), rowE 25 vo (topJs l i : List Jump), rdE v5 ([0] : List Int), rdE v8 ([6] : List Int), (tpSv29 v29 l), (tpSv47 v47 l), blkE g11 (.cells #[v5, v8, v29, vo, v47] 42), (tpZ g1), rdE vl (l : List Int)] H67o12 := hS67o12x2
                refine ⟨Ext.mono hxx (fun _ h => h.elim), ?_⟩
                refine wpR_n [21] (by kernel_rfl) ?_
                refine List.forall_mem_cons.2 ⟨?_, List.forall_mem_nil _⟩
                have hS67o21 : St H0 NoB (fun b => S b ∧ b < H0.size) [(tpA v67o20 l i), rowE 34 v67o12 ([(LRow.mk ([1 - (2 * (pickI ((tpX l i)) 2))]) 1 ((pickI (((tpX l i)).tdiv 2) 13) - 6))] : List LRow), (tpE v67o6 l i), rowE 25 vo (topJs l i : List Jump), rdE v5 ([0] : List Int), rdE v8 ([6] : List Int), (tpSv29 v29 l), (tpSv47 v47 l), blkE g11 (.cells #[v5, v8, v29, vo, v47] 42), (tpZ g1), rdE vl (l : List Int)] H67o12 := St.fin (hS67o12x2.front 2 rfl)
                refine exE rfl rfl ?_
                refine e_buildSlice (vs := [v67o20]) (xs := ([[pickI (((tpX l i)).tdiv 26) 3, (pickI (((tpX l i)).tdiv 78) 9) - 4]] : List (List Int))) rfl Try.underlying23 Try.zeroValue32 rfl Try.sizeOf32 (par1 (v0 := v67o20) rfl) rfl hS67o21 (RdVs.cons (hS67o21.rdS 0 rfl) (RdVs.nil)) (by decide) (by decide) (fun v67o21 H67o21 hS67o21x2 hxx hvv67o21 => ?_)
                replace hS67o21x2 : St H0 NoB (fun b => S b ∧ b < H0.size) [rowE 32 v67o21 ([[pickI (((tpX l i)).tdiv 26) 3, (pickI (((tpX l i)).tdiv 78) 9) - 4]] : List (List Int)), (tpA v67o20 l i), rowE 34 v67o12 ([(LRow.mk ([1 - (2 * (pickI ((tpX l i)) 2))]) 1 ((pickI (((tpX l i)).tdiv 2) 13) - 6))] : List LRow), (tpE v67o6 l i), rowE 25 vo (topJs l i : List Jump), rdE v5 ([0] : List Int), rdE v8 ([6] : List Int), (tpSv29 v29 l), (tpSv47 v47 l), blkE g11 (.cells #[v5, v8, v29, vo, v47] 42), (tpZ g1), rdE vl (l : List Int)] H67o21 := hS67o21x2
                refine ⟨Ext.mono hxx (fun _ h => h.elim), ?_⟩
                refine wpR_q 22 (by kernel_rfl) rfl (quietAt rfl rfl (q_build (v := Value.agg #[v67o12, v67o21]) rfl (par2 (v0 := v67o12) (v1 := v67o21) rfl rfl) ((hS67o21x2.rowl 2 rfl).slc (fun zz0 => ∀ w, (Instr.build 25 #[(0, zz0), (1, v67o21)]).run Try.prog w = .ok (Value.agg #[zz0, v67o21]) w) (fun a0 n0 c0 => ((hS67o21x2.rowl 0 rfl).slc (fun zz1 => ∀ w, (Instr.build 25 #[(0, (.slice a0 n0 c0)), (1, zz1)]).run Try.prog w = .ok (Value.agg #[(.slice a0 n0 c0), zz1]) w) (fun a1 n1 c1 => (fun w => by kernel_rfl))))))) ?_
                refine wpR_n [23] (by kernel_rfl) ?_
                refine List.forall_mem_cons.2 ⟨?_, List.forall_mem_nil _⟩
                have hS67o23 : St H0 NoB (fun b => S b ∧ b < H0.size) [(tpC v67o12 l i), rowE 32 v67o21 ([[pickI (((tpX l i)).tdiv 26) 3, (pickI (((tpX l i)).tdiv 78) 9) - 4]] : List (List Int)), (tpA v67o20 l i), (tpE v67o6 l i), rowE 25 vo (topJs l i : List Jump), rdE v5 ([0] : List Int), rdE v8 ([6] : List Int), (tpSv29 v29 l), (tpSv47 v47 l), blkE g11 (.cells #[v5, v8, v29, vo, v47] 42), (tpZ g1), rdE vl (l : List Int)] H67o21 := St.fin (hS67o21x2.front 2 rfl)
                have hS67o23x2 : St H0 NoB (fun b => S b ∧ b < H0.size) [(tpD v67o21 l i), (tpC v67o12 l i), (tpA v67o20 l i), (tpE v67o6 l i), rowE 25 vo (topJs l i : List Jump), rdE v5 ([0] : List Int), rdE v8 ([6] : List Int), (tpSv29 v29 l), (tpSv47 v47 l), blkE g11 (.cells #[v5, v8, v29, vo, v47] 42), (tpZ g1), rdE vl (l : List Int)] H67o21 := St.fin (hS67o23.front 1 rfl)
                refine exE rfl rfl ?_
                refine e_buildSlice (vs := [Value.agg #[v67o12, v67o21]]) (xs := ([(Jump.mk ([(LRow.mk ([1 - (2 * (pickI ((tpX l i)) 2))]) 1 ((pickI (((tpX l i)).tdiv 2) 13) - 6))]) ([[pickI (((tpX l i)).tdiv 26) 3, (pickI (((tpX l i)).tdiv 78) 9) - 4]]))] : List Jump)) rfl Try.underlying40 Try.zeroValue25 rfl Try.sizeOf25 (par1 (v0 := Value.agg #[v67o12, v67o21]) rfl) rfl hS67o23x2 (RdVs.cons (Rd.jump.2 ⟨_, _, rfl, (hS67o23x2.rdS 1 rfl), (hS67o23x2.rdS 0 rfl)⟩) (RdVs.nil)) (by decide) (by decide) (fun v67o23 H67o23 hS67o23x3 hxx hvv67o23 => ?_)
                replace hS67o23x3 : St H0 NoB (fun b => S b ∧ b < H0.size) [rowE 25 v67o23 ([(Jump.mk ([(LRow.mk ([1 - (2 * (pickI ((tpX l i)) 2))]) 1 ((pickI (((tpX l i)).tdiv 2) 13) - 6))]) ([[pickI (((tpX l i)).tdiv 26) 3, (pickI (((tpX l i)).tdiv 78) 9) - 4]]))] : List Jump), (tpD v67o21 l i), (tpC v67o12 l i), (tpA v67o20 l i), (tpE v67o6 l i), rowE 25 vo (topJs l i : List Jump), rdE v5 ([0] : List Int), rdE v8 ([6] : List Int), (tpSv29 v29 l), (tpSv47 v47 l), blkE g11 (.cells #[v5, v8, v29, vo, v47] 42), (tpZ g1), rdE vl (l : List Int)] H67o23 := hS67o23x3
                refine ⟨Ext.mono hxx (fun _ h => h.elim), ?_⟩
                refine wpR_n [24] (by kernel_rfl) ?_
                refine List.forall_mem_cons.2 ⟨?_, List.forall_mem_nil _⟩
                have hS67o24 : St H0 NoB (fun b => S b ∧ b < H0.size) [(tpB v67o23 l i), (tpD v67o21 l i), (tpC v67o12 l i), (tpA v67o20 l i), (tpE v67o6 l i), rowE 25 vo (topJs l i : List Jump), rdE v5 ([0] : List Int), rdE v8 ([6] : List Int), (tpSv29 v29 l), (tpSv47 v47 l), blkE g11 (.cells #[v5, v8, v29, vo, v47] 42), (tpZ g1), rdE vl (l : List Int)] H67o23 := St.fin hS67o23x3
                have hS67o24x2 : St H0 NoB (fun b => S b ∧ b < H0.size) [rowE 25 vo (topJs l i : List Jump), (tpB v67o23 l i), (tpD v67o21 l i), (tpC v67o12 l i), (tpA v67o20 l i), (tpE v67o6 l i), rdE v5 ([0] : List Int), rdE v8 ([6] : List Int), (tpSv29 v29 l), (tpSv47 v47 l), blkE g11 (.cells #[v5, v8, v29, vo, v47] 42), (tpZ g1), rdE vl (l : List Int)] H67o23 := (hS67o24.front 5 rfl)
                refine exE rfl rfl ?_
                refine e_append rfl Try.underlying40 em_Jump_25_TopL1 rfl rfl hS67o24x2 (hS67o24x2.rdS 1 rfl) (fun _ h => h) (by have hb : GoT.bytes Jump = 48 := rfl; have hbl : (topJs l i).length = i := (by simp [topJs]); simp [hb, hbl]; omega) (by decide) (fun v67o24 H67o24 hS67o24x3 hxx => ?_)
                replace hS67o24x3 : St H0 NoB (fun b => S b ∧ b < H0.size) [rowE 25 v67o24 ((topJs l i) ++ ([(Jump.mk ([(LRow.mk ([1 - (2 * (pickI ((tpX l i)) 2))]) 1 ((pickI (((tpX l i)).tdiv 2) 13) - 6))]) ([[pickI (((tpX l i)).tdiv 26) 3, (pickI (((tpX l i)).tdiv 78) 9) - 4]]))]) : List Jump), (tpB v67o23 l i), (tpD v67o21 l i), (tpC v67o12 l i), (tpA v67o20 l i), (tpE v67o6 l i), rdE v5 ([0] : List Int), rdE v8 ([6] : List Int), (tpSv29 v29 l), (tpSv47 v47 l), blkE g11 (.cells #[v5, v8, v29, vo, v47] 42), (tpZ g1), rdE vl (l : List Int)] H67o24 := hS67o24x3
                have hS67o24x4 : St H0 NoB (fun b => S b ∧ b < H0.size) [rowE 25 v67o24 (topJs l (i + 1) : List Jump), (tpB v67o23 l i), (tpD v67o21 l i), (tpC v67o12 l i), (tpA v67o20 l i), (tpE v67o6 l i), rdE v5 ([0] : List Int), rdE v8 ([6] : List Int), (tpSv29 v29 l), (tpSv47 v47 l), blkE g11 (.cells #[v5, v8, v29, vo, v47] 42), (tpZ g1), rdE vl (l : List Int)] H67o24 := by rw [show (topJs l (i + 1)) = ((topJs l i) ++ ([(Jump.mk ([(LRow.mk ([1 - (2 * (pickI ((tpX l i)) 2))]) 1 ((pickI (((tpX l i)).tdiv 2) 13) - 6))]) ([[pickI (((tpX l i)).tdiv 26) 3, (pickI (((tpX l i)).tdiv 78) 9) - 4]]))])) from (by rw [topJs_next]; rfl)]; exact hS67o24x3
                refine ⟨Ext.mono hxx (labS_of 0 rfl (fun _ _ => trivial)), ?_⟩
                refine wpR_q 25 (by kernel_rfl) rfl (quietAt rfl rfl (q_fieldAddr rfl Try.underlying42 rfl Try.sizeOf40 a66_3)) ?_
                refine wpR_n [26] (by kernel_rfl) ?_
                refine List.forall_mem_cons.2 ⟨?_, List.forall_mem_nil _⟩
                refine exE rfl rfl ?_
                refine e_storeBlk (v := v67o24) rfl rfl rfl (oneCell_rdL (hS67o24x4.rowl 0 rfl)) Try.sizeOf40 (by show _ < 5; decide) (hS67o24x4.front 10 rfl) (fun H67o26 hS67o26 hxx => ?_)
                replace hS67o26 : St H0 NoB (fun b => S b ∧ b < H0.size) [blkE g11 (.cells #[v5, v8, v29, v67o24, v47] 42), rowE 25 v67o24 (topJs l (i + 1) : List Jump), (tpB v67o23 l i), (tpD v67o21 l i), (tpC v67o12 l i), (tpA v67o20 l i), (tpE v67o6 l i), rdE v5 ([0] : List Int), rdE v8 ([6] : List Int), (tpSv29 v29 l), (tpSv47 v47 l), (tpZ g1), rdE vl (l : List Int)] H67o26 := hS67o26
                refine ⟨Ext.mono hxx (labS_of 1 rfl (fun _ _ => trivial)), ?_⟩
                refine wpR_end (by kernel_rfl) ?_
                exact ⟨v67o24, y67o3, y67o9, y67o15, y67o18, a66_0, a66_2, a66_3, a66_4, (hS67o26.drop (List.Sublist.cons_cons _ (List.Sublist.cons_cons _ (List.Sublist.cons _ (List.Sublist.cons _ (List.Sublist.cons _ (List.Sublist.cons _ (List.Sublist.cons _ (List.Sublist.cons_cons _ (List.Sublist.cons_cons _ (List.Sublist.cons_cons _ (List.Sublist.cons_cons _ (List.Sublist.cons_cons _ (List.Sublist.cons_cons _ (List.Sublist.slnil)))))))))))))))⟩
              · have hS67o21 : St H0 NoB (fun b => S b ∧ b < H0.size) [(tpA v67o20 l i), rowE 3 v67o6 ([1 - (2 * (pickI ((tpX l i)) 2))] : List Int), rowE 25 vo (topJs l i : List Jump), rdE v5 ([0] : List Int), rdE v8 ([6] : List Int), (tpSv29 v29 l), (tpSv47 v47 l), blkE g11 (.cells #[v5, v8, v29, vo, v47] 42), (tpZ g1), rdE vl (l : List Int)] H67o20 := St.fin hS67o20
                refine exE rfl rfl ?_
                refine e_buildSlice (vs := [v67o20]) (xs := ([[pickI (((tpX l i)).tdiv 26) 3, (pickI (((tpX l i)).tdiv 78) 9) - 4]] : List (List Int))) rfl Try.underlying23 Try.zeroValue32 rfl Try.sizeOf32 (par1 (v0 := v67o20) rfl) rfl hS67o21 (RdVs.cons (hS67o21.rdS 0 rfl) (RdVs.nil)) (by decide) (by decide) (fun v67o21 H67o21 hS67o21x2 hxx hvv67o21 => ?_)
                replace hS67o21x2 : St H0 NoB (fun b => S b ∧ b < H0.size) [rowE 32 v67o21 ([[pickI (((tpX l i)).tdiv 26) 3, (pickI (((tpX l i)).tdiv 78) 9) - 4]] : List (List Int)), (tpA v67o20 l i), rowE 3 v67o6 ([1 - (2 * (pickI ((tpX l i)) 2))] : List Int), rowE 25 vo (topJs l i : List Jump), rdE v5 ([0] : List Int), rdE v8 ([6] : List Int), (tpSv29 v29 l), (tpSv47 v47 l), blkE g11 (.cells #[v5, v8, v29, vo, v47] 42), (tpZ g1), rdE vl (l : List Int)] H67o21 := hS67o21x2
                refine ⟨Ext.mono hxx (fun _ h => h.elim), ?_⟩
                refine wpR_n [12] (by kernel_rfl) ?_
                refine List.forall_mem_cons.2 ⟨?_, List.forall_mem_nil _⟩
                have hS67o12 : St H0 NoB (fun b => S b ∧ b < H0.size) [(tpE v67o6 l i), rowE 32 v67o21 ([[pickI (((tpX l i)).tdiv 26) 3, (pickI (((tpX l i)).tdiv 78) 9) - 4]] : List (List Int)), (tpA v67o20 l i), rowE 25 vo (topJs l i : List Jump), rdE v5 ([0] : List Int), rdE v8 ([6] : List Int), (tpSv29 v29 l), (tpSv47 v47 l), blkE g11 (.cells #[v5, v8, v29, vo, v47] 42), (tpZ g1), rdE vl (l : List Int)] H67o21 := St.fin (hS67o21x2.front 2 rfl)
                refine exE rfl rfl ?_
                refine e_buildSlice (vs := [Value.agg #[v67o6, I (1), I ((pickI (((tpX l i)).tdiv 2) 13) - 6)]]) (xs := ([(LRow.mk ([1 - (2 * (pickI ((tpX l i)) 2))]) 1 ((pickI (((tpX l i)).tdiv 2) 13) - 6))] : List LRow)) rfl Try.underlying22 Try.zeroValue34 rfl Try.sizeOf34 (par1 (v0 := Value.agg #[v67o6, I (1), I ((pickI (((tpX l i)).tdiv 2) 13) - 6)]) rfl) rfl hS67o12 (RdVs.cons (Rd.lRow.2 ⟨_, rfl, (hS67o12.rdS 0 rfl), (by first | assumption | (constructor <;> (dsimp only; omega)) | (constructor <;> omega)), (by first | assumption | (constructor <;> (dsimp only; omega)) | (constructor <;> omega))⟩) (RdVs.nil)) (by decide) (by decide) (fun v67o12 H67o12 hS67o12x2 hxx hvv67o12 => ?_)
                replace hS67o12x2 : St H0 NoB (fun b => S b ∧ b < H0.size) [rowE 34 v67o12 ([(LRow.mk ([1 - (2 * (pickI ((tpX l i)) 2))]) 1 ((pickI (((tpX l i)).tdiv 2) 13) - 6))] : List LRow), (tpE v67o6 l i), rowE 32 v67o21 ([[pickI (((tpX l i)).tdiv 26) 3, (pickI (((tpX l i)).tdiv 78) 9) - 4]] : List (List Int)), (tpA v67o20 l i), rowE 25 vo (topJs l i : List Jump), rdE v5 ([0] : List Int), rdE v8 ([6] : List Int), (tpSv29 v29 l), (tpSv47 v47 l), blkE g11 (.cells #[v5, v8, v29, vo, v47] 42), (tpZ g1), rdE vl (l : List Int)] H67o12 := hS67o12x2
                refine ⟨Ext.mono hxx (fun _ h => h.elim), ?_⟩
                refine wpR_q 22 (by kernel_rfl) rfl (quietAt rfl rfl (q_build (v := Value.agg #[v67o12, v67o21]) rfl (par2 (v0 := v67o12) (v1 := v67o21) rfl rfl) ((hS67o12x2.rowl 0 rfl).slc (fun zz0 => ∀ w, (Instr.build 25 #[(0, zz0), (1, v67o21)]).run Try.prog w = .ok (Value.agg #[zz0, v67o21]) w) (fun a0 n0 c0 => ((hS67o12x2.rowl 2 rfl).slc (fun zz1 => ∀ w, (Instr.build 25 #[(0, (.slice a0 n0 c0)), (1, zz1)]).run Try.prog w = .ok (Value.agg #[(.slice a0 n0 c0), zz1]) w) (fun a1 n1 c1 => (fun w => by kernel_rfl))))))) ?_
                refine wpR_n [23] (by kernel_rfl) ?_
                refine List.forall_mem_cons.2 ⟨?_, List.forall_mem_nil _⟩
                have hS67o23 : St H0 NoB (fun b => S b ∧ b < H0.size) [(tpC v67o12 l i), (tpE v67o6 l i), rowE 32 v67o21 ([[pickI (((tpX l i)).tdiv 26) 3, (pickI (((tpX l i)).tdiv 78) 9) - 4]] : List (List Int)), (tpA v67o20 l i), rowE 25 vo (topJs l i : List Jump), rdE v5 ([0] : List Int), rdE v8 ([6] : List Int), (tpSv29 v29 l), (tpSv47 v47 l), blkE g11 (.cells #[v5, v8, v29, vo, v47] 42), (tpZ g1), rdE vl (l : List Int)] H67o12 := St.fin hS67o12x2
                have hS67o23x2 : St H0 NoB (fun b => S b ∧ b < H0.size) [(tpD v67o21 l i), (tpC v67o12 l i), (tpE v67o6 l i), (tpA v67o20 l i), rowE 25 vo (topJs l i : List Jump), rdE v5 ([0] : List Int), rdE v8 ([6] : List Int), (tpSv29 v29 l), (tpSv47 v47 l), blkE g11 (.cells #[v5, v8, v29, vo, v47] 42), (tpZ g1), rdE vl (l : List Int)] H67o12 := St.fin (hS67o23.front 2 rfl)
                refine exE rfl rfl ?_
                refine e_buildSlice (vs := [Value.agg #[v67o12, v67o21]]) (xs := ([(Jump.mk ([(LRow.mk ([1 - (2 * (pickI ((tpX l i)) 2))]) 1 ((pickI (((tpX l i)).tdiv 2) 13) - 6))]) ([[pickI (((tpX l i)).tdiv 26) 3, (pickI (((tpX l i)).tdiv 78) 9) - 4]]))] : List Jump)) rfl Try.underlying40 Try.zeroValue25 rfl Try.sizeOf25 (par1 (v0 := Value.agg #[v67o12, v67o21]) rfl) rfl hS67o23x2 (RdVs.cons (Rd.jump.2 ⟨_, _, rfl, (hS67o23x2.rdS 1 rfl), (hS67o23x2.rdS 0 rfl)⟩) (RdVs.nil)) (by decide) (by decide) (fun v67o23 H67o23 hS67o23x3 hxx hvv67o23 => ?_)
                replace hS67o23x3 : St H0 NoB (fun b => S b ∧ b < H0.size) [rowE 25 v67o23 ([(Jump.mk ([(LRow.mk ([1 - (2 * (pickI ((tpX l i)) 2))]) 1 ((pickI (((tpX l i)).tdiv 2) 13) - 6))]) ([[pickI (((tpX l i)).tdiv 26) 3, (pickI (((tpX l i)).tdiv 78) 9) - 4]]))] : List Jump), (tpD v67o21 l i), (tpC v67o12 l i), (tpE v67o6 l i), (tpA v67o20 l i), rowE 25 vo (topJs l i : List Jump), rdE v5 ([0] : List Int), rdE v8 ([6] : List Int), (tpSv29 v29 l), (tpSv47 v47 l), blkE g11 (.cells #[v5, v8, v29, vo, v47] 42), (tpZ g1), rdE vl (l : List Int)] H67o23 := hS67o23x3
                refine ⟨Ext.mono hxx (fun _ h => h.elim), ?_⟩
                refine wpR_n [24] (by kernel_rfl) ?_
                refine List.forall_mem_cons.2 ⟨?_, List.forall_mem_nil _⟩
                have hS67o24 : St H0 NoB (fun b => S b ∧ b < H0.size) [(tpB v67o23 l i), (tpD v67o21 l i), (tpC v67o12 l i), (tpE v67o6 l i), (tpA v67o20 l i), rowE 25 vo (topJs l i : List Jump), rdE v5 ([0] : List Int), rdE v8 ([6] : List Int), (tpSv29 v29 l), (tpSv47 v47 l), blkE g11 (.cells #[v5, v8, v29, vo, v47] 42), (tpZ g1), rdE vl (l : List Int)] H67o23 := St.fin hS67o23x3
                have hS67o24x2 : St H0 NoB (fun b => S b ∧ b < H0.size) [rowE 25 vo (topJs l i : List Jump), (tpB v67o23 l i), (tpD v67o21 l i), (tpC v67o12 l i), (tpE v67o6 l i), (tpA v67o20 l i), rdE v5 ([0] : List Int), rdE v8 ([6] : List Int), (tpSv29 v29 l), (tpSv47 v47 l), blkE g11 (.cells #[v5, v8, v29, vo, v47] 42), (tpZ g1), rdE vl (l : List Int)] H67o23 := (hS67o24.front 5 rfl)
                refine exE rfl rfl ?_
                refine e_append rfl Try.underlying40 em_Jump_25_TopL1 rfl rfl hS67o24x2 (hS67o24x2.rdS 1 rfl) (fun _ h => h) (by have hb : GoT.bytes Jump = 48 := rfl; have hbl : (topJs l i).length = i := (by simp [topJs]); simp [hb, hbl]; omega) (by decide) (fun v67o24 H67o24 hS67o24x3 hxx => ?_)
                replace hS67o24x3 : St H0 NoB (fun b => S b ∧ b < H0.size) [rowE 25 v67o24 ((topJs l i) ++ ([(Jump.mk ([(LRow.mk ([1 - (2 * (pickI ((tpX l i)) 2))]) 1 ((pickI (((tpX l i)).tdiv 2) 13) - 6))]) ([[pickI (((tpX l i)).tdiv 26) 3, (pickI (((tpX l i)).tdiv 78) 9) - 4]]))]) : List Jump), (tpB v67o23 l i), (tpD v67o21 l i), (tpC v67o12 l i), (tpE v67o6 l i), (tpA v67o20 l i), rdE v5 ([0] : List Int), rdE v8 ([6] : List Int), (tpSv29 v29 l), (tpSv47 v47 l), blkE g11 (.cells #[v5, v8, v29, vo, v47] 42), (tpZ g1), rdE vl (l : List Int)] H67o24 := hS67o24x3
                have hS67o24x4 : St H0 NoB (fun b => S b ∧ b < H0.size) [rowE 25 v67o24 (topJs l (i + 1) : List Jump), (tpB v67o23 l i), (tpD v67o21 l i), (tpC v67o12 l i), (tpE v67o6 l i), (tpA v67o20 l i), rdE v5 ([0] : List Int), rdE v8 ([6] : List Int), (tpSv29 v29 l), (tpSv47 v47 l), blkE g11 (.cells #[v5, v8, v29, vo, v47] 42), (tpZ g1), rdE vl (l : List Int)] H67o24 := by rw [show (topJs l (i + 1)) = ((topJs l i) ++ ([(Jump.mk ([(LRow.mk ([1 - (2 * (pickI ((tpX l i)) 2))]) 1 ((pickI (((tpX l i)).tdiv 2) 13) - 6))]) ([[pickI (((tpX l i)).tdiv 26) 3, (pickI (((tpX l i)).tdiv 78) 9) - 4]]))])) from (by rw [topJs_next]; rfl)]; exact hS67o24x3
                refine ⟨Ext.mono hxx (labS_of 0 rfl (fun _ _ => trivial)), ?_⟩
                refine wpR_q 25 (by kernel_rfl) rfl (quietAt rfl rfl (q_fieldAddr rfl Try.underlying42 rfl Try.sizeOf40 a66_3)) ?_
                refine wpR_n [26] (by kernel_rfl) ?_
                refine List.forall_mem_cons.2 ⟨?_, List.forall_mem_nil _⟩
                refine exE rfl rfl ?_
                refine e_storeBlk (v := v67o24) rfl rfl rfl (oneCell_rdL (hS67o24x4.rowl 0 rfl)) Try.sizeOf40 (by show _ < 5; decide) (hS67o24x4.front 10 rfl) (fun H67o26 hS67o26 hxx => ?_)
                replace hS67o26 : St H0 NoB (fun b => S b ∧ b < H0.size) [blkE g11 (.cells #[v5, v8, v29, v67o24, v47] 42), rowE 25 v67o24 (topJs l (i + 1) : List Jump), (tpB v67o23 l i), (tpD v67o21 l i), (tpC v67o12 l i), (tpE v67o6 l i), (tpA v67o20 l i), rdE v5 ([0] : List Int), rdE v8 ([6] : List Int), (tpSv29 v29 l), (tpSv47 v47 l), (tpZ g1), rdE vl (l : List Int)] H67o26 := hS67o26
                refine ⟨Ext.mono hxx (labS_of 1 rfl (fun _ _ => trivial)), ?_⟩
                refine wpR_end (by kernel_rfl) ?_
                exact ⟨v67o24, y67o3, y67o9, y67o15, y67o18, a66_0, a66_2, a66_3, a66_4, (hS67o26.drop (List.Sublist.cons_cons _ (List.Sublist.cons_cons _ (List.Sublist.cons _ (List.Sublist.cons _ (List.Sublist.cons _ (List.Sublist.cons _ (List.Sublist.cons _ (List.Sublist.cons_cons _ (List.Sublist.cons_cons _ (List.Sublist.cons_cons _ (List.Sublist.cons_cons _ (List.Sublist.cons_cons _ (List.Sublist.cons_cons _ (List.Sublist.slnil)))))))))))))))⟩
          · refine exE rfl rfl ?_
            refine e_buildSlice (vs := [I (pickI (((tpX l i)).tdiv 26) 3), I ((pickI (((tpX l i)).tdiv 78) 9) - 4)]) (xs := ([pickI (((tpX l i)).tdiv 26) 3, (pickI (((tpX l i)).tdiv 78) 9) - 4] : List Int)) rfl Try.underlying32 Try.zeroValue3 rfl Try.sizeOf3 (par2 (v0 := I (pickI (((tpX l i)).tdiv 26) 3)) (v1 := I ((pickI (((tpX l i)).tdiv 78) 9) - 4)) rfl rfl) rfl hS67o18 (RdVs.cons (Rd.int.2 ⟨rfl, by constructor <;> omega⟩) (RdVs.cons (Rd.int.2 ⟨rfl, by constructor <;> omega⟩) (RdVs.nil))) (by decide) (by decide) (fun v67o20 H67o20 hS67o20 hxx hvv67o20 => ?_)
            replace hS67o20 : St H0 NoB (fun b => S b ∧ b < H0.size) [rowE 3 v67o20 ([pickI (((tpX l i)).tdiv 26) 3, (pickI (((tpX l i)).tdiv 78) 9) - 4] : List Int), rowE 25 vo (topJs l i : List Jump), rdE v5 ([0] : List Int), rdE v8 ([6] : List Int), (tpSv29 v29 l), (tpSv47 v47 l), blkE g11 (.cells #[v5, v8, v29, vo, v47] 42), (tpZ g1), rdE vl (l : List Int)] H67o20 := hS67o20
            refine ⟨Ext.mono hxx (fun _ h => h.elim), ?_⟩
            refine wpR_n [6, 21] (by kernel_rfl) ?_
            refine List.forall_mem_cons.2 ⟨?_, List.forall_mem_cons.2 ⟨?_, List.forall_mem_nil _⟩⟩
            · refine exE rfl rfl ?_
              refine e_buildSlice (vs := [I (1 - (2 * (pickI ((tpX l i)) 2)))]) (xs := ([1 - (2 * (pickI ((tpX l i)) 2))] : List Int)) rfl Try.underlying32 Try.zeroValue3 rfl Try.sizeOf3 (par1 (v0 := I (1 - (2 * (pickI ((tpX l i)) 2)))) rfl) rfl hS67o20 (RdVs.cons (Rd.int.2 ⟨rfl, by constructor <;> omega⟩) (RdVs.nil)) (by decide) (by decide) (fun v67o6 H67o6 hS67o6 hxx hvv67o6 => ?_)
              replace hS67o6 : St H0 NoB (fun b => S b ∧ b < H0.size) [rowE 3 v67o6 ([1 - (2 * (pickI ((tpX l i)) 2))] : List Int), rowE 3 v67o20 ([pickI (((tpX l i)).tdiv 26) 3, (pickI (((tpX l i)).tdiv 78) 9) - 4] : List Int), rowE 25 vo (topJs l i : List Jump), rdE v5 ([0] : List Int), rdE v8 ([6] : List Int), (tpSv29 v29 l), (tpSv47 v47 l), blkE g11 (.cells #[v5, v8, v29, vo, v47] 42), (tpZ g1), rdE vl (l : List Int)] H67o6 := hS67o6
              refine ⟨Ext.mono hxx (fun _ h => h.elim), ?_⟩
              refine wpR_q 11 (by kernel_rfl) rfl (quietAt rfl rfl (q_build (v := Value.agg #[v67o6, I (1), I ((pickI (((tpX l i)).tdiv 2) 13) - 6)]) rfl (par3 (v0 := v67o6) (v1 := I (1)) (v2 := I ((pickI (((tpX l i)).tdiv 2) 13) - 6)) rfl rfl rfl) ((hS67o6.rowl 0 rfl).slc (fun zz0 => ∀ w, (Instr.build 34 #[(0, zz0), (1, I (1)), (2, I ((pickI (((tpX l i)).tdiv 2) 13) - 6))]).run Try.prog w = .ok (Value.agg #[zz0, I (1), I ((pickI (((tpX l i)).tdiv 2) 13) - 6)]) w) (fun a0 n0 c0 => (fun w => by kernel_rfl))))) ?_
              refine wpR_n [12, 21] (by kernel_rfl) ?_
              refine List.forall_mem_cons.2 ⟨?_, List.forall_mem_cons.2 ⟨?_, List.forall_mem_nil _⟩⟩
              · have hS67o12 : St H0 NoB (fun b => S b ∧ b < H0.size) [(tpE v67o6 l i), rowE 3 v67o20 ([pickI (((tpX l i)).tdiv 26) 3, (pickI (((tpX l i)).tdiv 78) 9) - 4] : List Int), rowE 25 vo (topJs l i : List Jump), rdE v5 ([0] : List Int), rdE v8 ([6] : List Int), (tpSv29 v29 l), (tpSv47 v47 l), blkE g11 (.cells #[v5, v8, v29, vo, v47] 42), (tpZ g1), rdE vl (l : List Int)] H67o6 := St.fin hS67o6
                refine exE rfl rfl ?_
                refine e_buildSlice (vs := [Value.agg #[v67o6, I (1), I ((pickI (((tpX l i)).tdiv 2) 13) - 6)]]) (xs := ([(LRow.mk ([1 - (2 * (pickI ((tpX l i)) 2))]) 1 ((pickI (((tpX l i)).tdiv 2) 13) - 6))] : List LRow)) rfl Try.underlying22 Try.zeroValue34 rfl Try.sizeOf34 (par1 (v0 := Value.agg #[v67o6, I (1), I ((pickI (((tpX l i)).tdiv 2) 13) - 6)]) rfl) rfl hS67o12 (RdVs.cons (Rd.lRow.2 ⟨_, rfl, (hS67o12.rdS 0 rfl), (by first | assumption | (constructor <;> (dsimp only; omega)) | (constructor <;> omega)), (by first | assumption | (constructor <;> (dsimp only; omega)) | (constructor <;> omega))⟩) (RdVs.nil)) (by decide) (by decide) (fun v67o12 H67o12 hS67o12x2 hxx hvv67o12 => ?_)
                replace hS67o12x2 : St H0 NoB (fun b => S b ∧ b < H0.size) [rowE 34 v67o12 ([(LRow.mk ([1 - (2 * (pickI ((tpX l i)) 2))]) 1 ((pickI (((tpX l i)).tdiv 2) 13) - 6))] : List LRow), (tpE v67o6 l i), rowE 3 v67o20 ([pickI (((tpX l i)).tdiv 26) 3, (pickI (((tpX l i)).tdiv 78) 9) - 4] : List Int), rowE 25 vo (topJs l i : List Jump), rdE v5 ([0] : List Int), rdE v8 ([6] : List Int), (tpSv29 v29 l), (tpSv47 v47 l), blkE g11 (.cells #[v5, v8, v29, vo, v47] 42), (tpZ g1), rdE vl (l : List Int)] H67o12 := hS67o12x2
                refine ⟨Ext.mono hxx (fun _ h => h.elim), ?_⟩
                refine wpR_n [21] (by kernel_rfl) ?_
                refine List.forall_mem_cons.2 ⟨?_, List.forall_mem_nil _⟩
                have hS67o21 : St H0 NoB (fun b => S b ∧ b < H0.size) [(tpA v67o20 l i), rowE 34 v67o12 ([(LRow.mk ([1 - (2 * (pickI ((tpX l i)) 2))]) 1 ((pickI (((tpX l i)).tdiv 2) 13) - 6))] : List LRow), (tpE v67o6 l i), rowE 25 vo (topJs l i : List Jump), rdE v5 ([0] : List Int), rdE v8 ([6] : List Int), (tpSv29 v29 l), (tpSv47 v47 l), blkE g11 (.cells #[v5, v8, v29, vo, v47] 42), (tpZ g1), rdE vl (l : List Int)] H67o12 := St.fin (hS67o12x2.front 2 rfl)
                refine exE rfl rfl ?_
                refine e_buildSlice (vs := [v67o20]) (xs := ([[pickI (((tpX l i)).tdiv 26) 3, (pickI (((tpX l i)).tdiv 78) 9) - 4]] : List (List Int))) rfl Try.underlying23 Try.zeroValue32 rfl Try.sizeOf32 (par1 (v0 := v67o20) rfl) rfl hS67o21 (RdVs.cons (hS67o21.rdS 0 rfl) (RdVs.nil)) (by decide) (by decide) (fun v67o21 H67o21 hS67o21x2 hxx hvv67o21 => ?_)
                replace hS67o21x2 : St H0 NoB (fun b => S b ∧ b < H0.size) [rowE 32 v67o21 ([[pickI (((tpX l i)).tdiv 26) 3, (pickI (((tpX l i)).tdiv 78) 9) - 4]] : List (List Int)), (tpA v67o20 l i), rowE 34 v67o12 ([(LRow.mk ([1 - (2 * (pickI ((tpX l i)) 2))]) 1 ((pickI (((tpX l i)).tdiv 2) 13) - 6))] : List LRow), (tpE v67o6 l i), rowE 25 vo (topJs l i : List Jump), rdE v5 ([0] : List Int), rdE v8 ([6] : List Int), (tpSv29 v29 l), (tpSv47 v47 l), blkE g11 (.cells #[v5, v8, v29, vo, v47] 42), (tpZ g1), rdE vl (l : List Int)] H67o21 := hS67o21x2
                refine ⟨Ext.mono hxx (fun _ h => h.elim), ?_⟩
                refine wpR_q 22 (by kernel_rfl) rfl (quietAt rfl rfl (q_build (v := Value.agg #[v67o12, v67o21]) rfl (par2 (v0 := v67o12) (v1 := v67o21) rfl rfl) ((hS67o21x2.rowl 2 rfl).slc (fun zz0 => ∀ w, (Instr.build 25 #[(0, zz0), (1, v67o21)]).run Try.prog w = .ok (Value.agg #[zz0, v67o21]) w) (fun a0 n0 c0 => ((hS67o21x2.rowl 0 rfl).slc (fun zz1 => ∀ w, (Instr.build 25 #[(0, (.slice a0 n0 c0)), (1, zz1)]).run Try.prog w = .ok (Value.agg #[(.slice a0 n0 c0), zz1]) w) (fun a1 n1 c1 => (fun w => by kernel_rfl))))))) ?_
                refine wpR_n [23] (by kernel_rfl) ?_
                refine List.forall_mem_cons.2 ⟨?_, List.forall_mem_nil _⟩
                have hS67o23 : St H0 NoB (fun b => S b ∧ b < H0.size) [(tpC v67o12 l i), rowE 32 v67o21 ([[pickI (((tpX l i)).tdiv 26) 3, (pickI (((tpX l i)).tdiv 78) 9) - 4]] : List (List Int)), (tpA v67o20 l i), (tpE v67o6 l i), rowE 25 vo (topJs l i : List Jump), rdE v5 ([0] : List Int), rdE v8 ([6] : List Int), (tpSv29 v29 l), (tpSv47 v47 l), blkE g11 (.cells #[v5, v8, v29, vo, v47] 42), (tpZ g1), rdE vl (l : List Int)] H67o21 := St.fin (hS67o21x2.front 2 rfl)
                have hS67o23x2 : St H0 NoB (fun b => S b ∧ b < H0.size) [(tpD v67o21 l i), (tpC v67o12 l i), (tpA v67o20 l i), (tpE v67o6 l i), rowE 25 vo (topJs l i : List Jump), rdE v5 ([0] : List Int), rdE v8 ([6] : List Int), (tpSv29 v29 l), (tpSv47 v47 l), blkE g11 (.cells #[v5, v8, v29, vo, v47] 42), (tpZ g1), rdE vl (l : List Int)] H67o21 := St.fin (hS67o23.front 1 rfl)
                refine exE rfl rfl ?_
                refine e_buildSlice (vs := [Value.agg #[v67o12, v67o21]]) (xs := ([(Jump.mk ([(LRow.mk ([1 - (2 * (pickI ((tpX l i)) 2))]) 1 ((pickI (((tpX l i)).tdiv 2) 13) - 6))]) ([[pickI (((tpX l i)).tdiv 26) 3, (pickI (((tpX l i)).tdiv 78) 9) - 4]]))] : List Jump)) rfl Try.underlying40 Try.zeroValue25 rfl Try.sizeOf25 (par1 (v0 := Value.agg #[v67o12, v67o21]) rfl) rfl hS67o23x2 (RdVs.cons (Rd.jump.2 ⟨_, _, rfl, (hS67o23x2.rdS 1 rfl), (hS67o23x2.rdS 0 rfl)⟩) (RdVs.nil)) (by decide) (by decide) (fun v67o23 H67o23 hS67o23x3 hxx hvv67o23 => ?_)
                replace hS67o23x3 : St H0 NoB (fun b => S b ∧ b < H0.size) [rowE 25 v67o23 ([(Jump.mk ([(LRow.mk ([1 - (2 * (pickI ((tpX l i)) 2))]) 1 ((pickI (((tpX l i)).tdiv 2) 13) - 6))]) ([[pickI (((tpX l i)).tdiv 26) 3, (pickI (((tpX l i)).tdiv 78) 9) - 4]]))] : List Jump), (tpD v67o21 l i), (tpC v67o12 l i), (tpA v67o20 l i), (tpE v67o6 l i), rowE 25 vo (topJs l i : List Jump), rdE v5 ([0] : List Int), rdE v8 ([6] : List Int), (tpSv29 v29 l), (tpSv47 v47 l), blkE g11 (.cells #[v5, v8, v29, vo, v47] 42), (tpZ g1), rdE vl (l : List Int)] H67o23 := hS67o23x3
                refine ⟨Ext.mono hxx (fun _ h => h.elim), ?_⟩
                refine wpR_n [24] (by kernel_rfl) ?_
                refine List.forall_mem_cons.2 ⟨?_, List.forall_mem_nil _⟩
                have hS67o24 : St H0 NoB (fun b => S b ∧ b < H0.size) [(tpB v67o23 l i), (tpD v67o21 l i), (tpC v67o12 l i), (tpA v67o20 l i), (tpE v67o6 l i), rowE 25 vo (topJs l i : List Jump), rdE v5 ([0] : List Int), rdE v8 ([6] : List Int), (tpSv29 v29 l), (tpSv47 v47 l), blkE g11 (.cells #[v5, v8, v29, vo, v47] 42), (tpZ g1), rdE vl (l : List Int)] H67o23 := St.fin hS67o23x3
                have hS67o24x2 : St H0 NoB (fun b => S b ∧ b < H0.size) [rowE 25 vo (topJs l i : List Jump), (tpB v67o23 l i), (tpD v67o21 l i), (tpC v67o12 l i), (tpA v67o20 l i), (tpE v67o6 l i), rdE v5 ([0] : List Int), rdE v8 ([6] : List Int), (tpSv29 v29 l), (tpSv47 v47 l), blkE g11 (.cells #[v5, v8, v29, vo, v47] 42), (tpZ g1), rdE vl (l : List Int)] H67o23 := (hS67o24.front 5 rfl)
                refine exE rfl rfl ?_
                refine e_append rfl Try.underlying40 em_Jump_25_TopL1 rfl rfl hS67o24x2 (hS67o24x2.rdS 1 rfl) (fun _ h => h) (by have hb : GoT.bytes Jump = 48 := rfl; have hbl : (topJs l i).length = i := (by simp [topJs]); simp [hb, hbl]; omega) (by decide) (fun v67o24 H67o24 hS67o24x3 hxx => ?_)
                replace hS67o24x3 : St H0 NoB (fun b => S b ∧ b < H0.size) [rowE 25 v67o24 ((topJs l i) ++ ([(Jump.mk ([(LRow.mk ([1 - (2 * (pickI ((tpX l i)) 2))]) 1 ((pickI (((tpX l i)).tdiv 2) 13) - 6))]) ([[pickI (((tpX l i)).tdiv 26) 3, (pickI (((tpX l i)).tdiv 78) 9) - 4]]))]) : List Jump), (tpB v67o23 l i), (tpD v67o21 l i), (tpC v67o12 l i), (tpA v67o20 l i), (tpE v67o6 l i), rdE v5 ([0] : List Int), rdE v8 ([6] : List Int), (tpSv29 v29 l), (tpSv47 v47 l), blkE g11 (.cells #[v5, v8, v29, vo, v47] 42), (tpZ g1), rdE vl (l : List Int)] H67o24 := hS67o24x3
                have hS67o24x4 : St H0 NoB (fun b => S b ∧ b < H0.size) [rowE 25 v67o24 (topJs l (i + 1) : List Jump), (tpB v67o23 l i), (tpD v67o21 l i), (tpC v67o12 l i), (tpA v67o20 l i), (tpE v67o6 l i), rdE v5 ([0] : List Int), rdE v8 ([6] : List Int), (tpSv29 v29 l), (tpSv47 v47 l), blkE g11 (.cells #[v5, v8, v29, vo, v47] 42), (tpZ g1), rdE vl (l : List Int)] H67o24 := by rw [show (topJs l (i + 1)) = ((topJs l i) ++ ([(Jump.mk ([(LRow.mk ([1 - (2 * (pickI ((tpX l i)) 2))]) 1 ((pickI (((tpX l i)).tdiv 2) 13) - 6))]) ([[pickI (((tpX l i)).tdiv 26) 3, (pickI (((tpX l i)).tdiv 78) 9) - 4]]))])) from (by rw [topJs_next]; rfl)]; exact hS67o24x3
                refine ⟨Ext.mono hxx (labS_of 0 rfl (fun _ _ => trivial)), ?_⟩
                refine wpR_q 25 (by kernel_rfl) rfl (quietAt rfl rfl (q_fieldAddr rfl Try.underlying42 rfl Try.sizeOf40 a66_3)) ?_
                refine wpR_n [26] (by kernel_rfl) ?_
                refine List.forall_mem_cons.2 ⟨?_, List.forall_mem_nil _⟩
                refine exE rfl rfl ?_
                refine e_storeBlk (v := v67o24) rfl rfl rfl (oneCell_rdL (hS67o24x4.rowl 0 rfl)) Try.sizeOf40 (by show _ < 5; decide) (hS67o24x4.front 10 rfl) (fun H67o26 hS67o26 hxx => ?_)
                replace hS67o26 : St H0 NoB (fun b => S b ∧ b < H0.size) [blkE g11 (.cells #[v5, v8, v29, v67o24, v47] 42), rowE 25 v67o24 (topJs l (i + 1) : List Jump), (tpB v67o23 l i), (tpD v67o21 l i), (tpC v67o12 l i), (tpA v67o20 l i), (tpE v67o6 l i), rdE v5 ([0] : List Int), rdE v8 ([6] : List Int), (tpSv29 v29 l), (tpSv47 v47 l), (tpZ g1), rdE vl (l : List Int)] H67o26 := hS67o26
                refine ⟨Ext.mono hxx (labS_of 1 rfl (fun _ _ => trivial)), ?_⟩
                refine wpR_end (by kernel_rfl) ?_
                exact ⟨v67o24, y67o3, y67o9, y67o15, y67o18, a66_0, a66_2, a66_3, a66_4, (hS67o26.drop (List.Sublist.cons_cons _ (List.Sublist.cons_cons _ (List.Sublist.cons _ (List.Sublist.cons _ (List.Sublist.cons _ (List.Sublist.cons _ (List.Sublist.cons _ (List.Sublist.cons_cons _ (List.Sublist.cons_cons _ (List.Sublist.cons_cons _ (List.Sublist.cons_cons _ (List.Sublist.cons_cons _ (List.Sublist.cons_cons _ (List.Sublist.slnil)))))))))))))))⟩
              · have hS67o21 : St H0 NoB (fun b => S b ∧ b < H0.size) [(tpA v67o20 l i), rowE 3 v67o6 ([1 - (2 * (pickI ((tpX l i)) 2))] : List Int), rowE 25 vo (topJs l i : List Jump), rdE v5 ([0] : List Int), rdE v8 ([6] : List Int), (tpSv29 v29 l), (tpSv47 v47 l), blkE g11 (.cells #[v5, v8, v29, vo, v47] 42), (tpZ g1), rdE vl (l : List Int)] H67o6 := St.fin (hS67o6.front 1 rfl)
                refine exE rfl rfl ?_
                refine e_buildSlice (vs := [v67o20]) (xs := ([[pickI (((tpX l i)).tdiv 26) 3, (pickI (((tpX l i)).tdiv 78) 9) - 4]] : List (List Int))) rfl Try.underlying23 Try.zeroValue32 rfl Try.sizeOf32 (par1 (v0 := v67o20) rfl) rfl hS67o21 (RdVs.cons (hS67o21.rdS 0 rfl) (RdVs.nil)) (by decide) (by decide) (fun v67o21 H67o21 hS67o21x2 hxx hvv67o21 => ?_)
                replace hS67o21x2 : St H0 NoB (fun b => S b ∧ b < H0.size) [rowE 32 v67o21 ([[pickI (((tpX l i)).tdiv 26) 3, (pickI (((tpX l i)).tdiv 78) 9) - 4]] : List (List Int)), (tpA v67o20 l i), rowE 3 v67o6 ([1 - (2 * (pickI ((tpX l i)) 2))] : List Int), rowE 25 vo (topJs l i : List Jump), rdE v5 ([0] : List Int), rdE v8 ([6] : List Int), (tpSv29 v29 l), (tpSv47 v47 l), blkE g11 (.cells #[v5, v8, v29, vo, v47] 42), (tpZ g1), rdE vl (l : List Int)] H67o21 := hS67o21x2
                refine ⟨Ext.mono hxx (fun _ h => h.elim), ?_⟩
                refine wpR_n [12] (by kernel_rfl) ?_
                refine List.forall_mem_cons.2 ⟨?_, List.forall_mem_nil _⟩
                have hS67o12 : St H0 NoB (fun b => S b ∧ b < H0.size) [(tpE v67o6 l i), rowE 32 v67o21 ([[pickI (((tpX l i)).tdiv 26) 3, (pickI (((tpX l i)).tdiv 78) 9) - 4]] : List (List Int)), (tpA v67o20 l i), rowE 25 vo (topJs l i : List Jump), rdE v5 ([0] : List Int), rdE v8 ([6] : List Int), (tpSv29 v29 l), (tpSv47 v47 l), blkE g11 (.cells #[v5, v8, v29, vo, v47] 42), (tpZ g1), rdE vl (l : List Int)] H67o21 := St.fin (hS67o21x2.front 2 rfl)
                refine exE rfl rfl ?_
                refine e_buildSlice (vs := [Value.agg #[v67o6, I (1), I ((pickI (((tpX l i)).tdiv 2) 13) - 6)]]) (xs := ([(LRow.mk ([1 - (2 * (pickI ((tpX l i)) 2))]) 1 ((pickI (((tpX l i)).tdiv 2) 13) - 6))] : List LRow)) rfl Try.underlying22 Try.zeroValue34 rfl Try.sizeOf34 (par1 (v0 := Value.agg #[v67o6, I (1), I ((pickI (((tpX l i)).tdiv 2) 13) - 6)]) rfl) rfl hS67o12 (RdVs.cons (Rd.lRow.2 ⟨_, rfl, (hS67o12.rdS 0 rfl), (by first | assumption | (constructor <;> (dsimp only; omega)) | (constructor <;> omega)), (by first | assumption | (constructor <;> (dsimp only; omega)) | (constructor <;> omega))⟩) (RdVs.nil)) (by decide) (by decide) (fun v67o12 H67o12 hS67o12x2 hxx hvv67o12 => ?_)
                replace hS67o12x2 : St H0 NoB (fun b => S b ∧ b < H0.size) [rowE 34 v67o12 ([(LRow.mk ([1 - (2 * (pickI ((tpX l i)) 2))]) 1 ((pickI (((tpX l i)).tdiv 2) 13) - 6))] : List LRow), (tpE v67o6 l i), rowE 32 v67o21 ([[pickI (((tpX l i)).tdiv 26) 3, (pickI (((tpX l i)).tdiv 78) 9) - 4]] : List (List Int)), (tpA v67o20 l i), rowE 25 vo (topJs l i : List Jump), rdE v5 ([0] : List Int), rdE v8 ([6] : List Int), (tpSv29 v29 l), (tpSv47 v47 l), blkE g11 (.cells #[v5, v8, v29, vo, v47] 42), (tpZ g1), rdE vl (l : List Int)] H67o12 := hS67o12x2
                refine ⟨Ext.mono hxx (fun _ h => h.elim), ?_⟩
                refine wpR_q 22 (by kernel_rfl) rfl (quietAt rfl rfl (q_build (v := Value.agg #[v67o12, v67o21]) rfl (par2 (v0 := v67o12) (v1 := v67o21) rfl rfl) ((hS67o12x2.rowl 0 rfl).slc (fun zz0 => ∀ w, (Instr.build 25 #[(0, zz0), (1, v67o21)]).run Try.prog w = .ok (Value.agg #[zz0, v67o21]) w) (fun a0 n0 c0 => ((hS67o12x2.rowl 2 rfl).slc (fun zz1 => ∀ w, (Instr.build 25 #[(0, (.slice a0 n0 c0)), (1, zz1)]).run Try.prog w = .ok (Value.agg #[(.slice a0 n0 c0), zz1]) w) (fun a1 n1 c1 => (fun w => by kernel_rfl))))))) ?_
                refine wpR_n [23] (by kernel_rfl) ?_
                refine List.forall_mem_cons.2 ⟨?_, List.forall_mem_nil _⟩
                have hS67o23 : St H0 NoB (fun b => S b ∧ b < H0.size) [(tpC v67o12 l i), (tpE v67o6 l i), rowE 32 v67o21 ([[pickI (((tpX l i)).tdiv 26) 3, (pickI (((tpX l i)).tdiv 78) 9) - 4]] : List (List Int)), (tpA v67o20 l i), rowE 25 vo (topJs l i : List Jump), rdE v5 ([0] : List Int), rdE v8 ([6] : List Int), (tpSv29 v29 l), (tpSv47 v47 l), blkE g11 (.cells #[v5, v8, v29, vo, v47] 42), (tpZ g1), rdE vl (l : List Int)] H67o12 := St.fin hS67o12x2
                have hS67o23x2 : St H0 NoB (fun b => S b ∧ b < H0.size) [(tpD v67o21 l i), (tpC v67o12 l i), (tpE v67o6 l i), (tpA v67o20 l i), rowE 25 vo (topJs l i : List Jump), rdE v5 ([0] : List Int), rdE v8 ([6] : List Int), (tpSv29 v29 l), (tpSv47 v47 l), blkE g11 (.cells #[v5, v8, v29, vo, v47] 42), (tpZ g1), rdE vl (l : List Int)] H67o12 := St.fin (hS67o23.front 2 rfl)
                refine exE rfl rfl ?_
                refine e_buildSlice (vs := [Value.agg #[v67o12, v67o21]]) (xs := ([(Jump.mk ([(LRow.mk ([1 - (2 * (pickI ((tpX l i)) 2))]) 1 ((pickI (((tpX l i)).tdiv 2) 13) - 6))]) ([[pickI (((tpX l i)).tdiv 26) 3, (pickI (((tpX l i)).tdiv 78) 9) - 4]]))] : List Jump)) rfl Try.underlying40 Try.zeroValue25 rfl Try.sizeOf25 (par1 (v0 := Value.agg #[v67o12, v67o21]) rfl) rfl hS67o23x2 (RdVs.cons (Rd.jump.2 ⟨_, _, rfl, (hS67o23x2.rdS 1 rfl), (hS67o23x2.rdS 0 rfl)⟩) (RdVs.nil)) (by decide) (by decide) (fun v67o23 H67o23 hS67o23x3 hxx hvv67o23 => ?_)
                replace hS67o23x3 : St H0 NoB (fun b => S b ∧ b < H0.size) [rowE 25 v67o23 ([(Jump.mk ([(LRow.mk ([1 - (2 * (pickI ((tpX l i)) 2))]) 1 ((pickI (((tpX l i)).tdiv 2) 13) - 6))]) ([[pickI (((tpX l i)).tdiv 26) 3, (pickI (((tpX l i)).tdiv 78) 9) - 4]]))] : List Jump), (tpD v67o21 l i), (tpC v67o12 l i), (tpE v67o6 l i), (tpA v67o20 l i), rowE 25 vo (topJs l i : List Jump), rdE v5 ([0] : List Int), rdE v8 ([6] : List Int), (tpSv29 v29 l), (tpSv47 v47 l), blkE g11 (.cells #[v5, v8, v29, vo, v47] 42), (tpZ g1), rdE vl (l : List Int)] H67o23 := hS67o23x3
                refine ⟨Ext.mono hxx (fun _ h => h.elim), ?_⟩
                refine wpR_n [24] (by kernel_rfl) ?_
                refine List.forall_mem_cons.2 ⟨?_, List.forall_mem_nil _⟩
                have hS67o24 : St H0 NoB (fun b => S b ∧ b < H0.size) [(tpB v67o23 l i), (tpD v67o21 l i), (tpC v67o12 l i), (tpE v67o6 l i), (tpA v67o20 l i), rowE 25 vo (topJs l i : List Jump), rdE v5 ([0] : List Int), rdE v8 ([6] : List Int), (tpSv29 v29 l), (tpSv47 v47 l), blkE g11 (.cells #[v5, v8, v29, vo, v47] 42), (tpZ g1), rdE vl (l : List Int)] H67o23 := St.fin hS67o23x3
                have hS67o24x2 : St H0 NoB (fun b => S b ∧ b < H0.size) [rowE 25 vo (topJs l i : List Jump), (tpB v67o23 l i), (tpD v67o21 l i), (tpC v67o12 l i), (tpE v67o6 l i), (tpA v67o20 l i), rdE v5 ([0] : List Int), rdE v8 ([6] : List Int), (tpSv29 v29 l), (tpSv47 v47 l), blkE g11 (.cells #[v5, v8, v29, vo, v47] 42), (tpZ g1), rdE vl (l : List Int)] H67o23 := (hS67o24.front 5 rfl)
                refine exE rfl rfl ?_
                refine e_append rfl Try.underlying40 em_Jump_25_TopL1 rfl rfl hS67o24x2 (hS67o24x2.rdS 1 rfl) (fun _ h => h) (by have hb : GoT.bytes Jump = 48 := rfl; have hbl : (topJs l i).length = i := (by simp [topJs]); simp [hb, hbl]; omega) (by decide) (fun v67o24 H67o24 hS67o24x3 hxx => ?_)
                replace hS67o24x3 : St H0 NoB (fun b => S b ∧ b < H0.size) [rowE 25 v67o24 ((topJs l i) ++ ([(Jump.mk ([(LRow.mk ([1 - (2 * (pickI ((tpX l i)) 2))]) 1 ((pickI (((tpX l i)).tdiv 2) 13) - 6))]) ([[pickI (((tpX l i)).tdiv 26) 3, (pickI (((tpX l i)).tdiv 78) 9) - 4]]))]) : List Jump), (tpB v67o23 l i), (tpD v67o21 l i), (tpC v67o12 l i), (tpE v67o6 l i), (tpA v67o20 l i), rdE v5 ([0] : List Int), rdE v8 ([6] : List Int), (tpSv29 v29 l), (tpSv47 v47 l), blkE g11 (.cells #[v5, v8, v29, vo, v47] 42), (tpZ g1), rdE vl (l : List Int)] H67o24 := hS67o24x3
                have hS67o24x4 : St H0 NoB (fun b => S b ∧ b < H0.size) [rowE 25 v67o24 (topJs l (i + 1) : List Jump), (tpB v67o23 l i), (tpD v67o21 l i), (tpC v67o12 l i), (tpE v67o6 l i), (tpA v67o20 l i), rdE v5 ([0] : List Int), rdE v8 ([6] : List Int), (tpSv29 v29 l), (tpSv47 v47 l), blkE g11 (.cells #[v5, v8, v29, vo, v47] 42), (tpZ g1), rdE vl (l : List Int)] H67o24 := by rw [show (topJs l (i + 1)) = ((topJs l i) ++ ([(Jump.mk ([(LRow.mk ([1 - (2 * (pickI ((tpX l i)) 2))]) 1 ((pickI (((tpX l i)).tdiv 2) 13) - 6))]) ([[pickI (((tpX l i)).tdiv 26) 3, (pickI (((tpX l i)).tdiv 78) 9) - 4]]))])) from (by rw [topJs_next]; rfl)]; exact hS67o24x3
                refine ⟨Ext.mono hxx (labS_of 0 rfl (fun _ _ => trivial)), ?_⟩
                refine wpR_q 25 (by kernel_rfl) rfl (quietAt rfl rfl (q_fieldAddr rfl Try.underlying42 rfl Try.sizeOf40 a66_3)) ?_
                refine wpR_n [26] (by kernel_rfl) ?_
                refine List.forall_mem_cons.2 ⟨?_, List.forall_mem_nil _⟩
                refine exE rfl rfl ?_
                refine e_storeBlk (v := v67o24) rfl rfl rfl (oneCell_rdL (hS67o24x4.rowl 0 rfl)) Try.sizeOf40 (by show _ < 5; decide) (hS67o24x4.front 10 rfl) (fun H67o26 hS67o26 hxx => ?_)
                replace hS67o26 : St H0 NoB (fun b => S b ∧ b < H0.size) [blkE g11 (.cells #[v5, v8, v29, v67o24, v47] 42), rowE 25 v67o24 (topJs l (i + 1) : List Jump), (tpB v67o23 l i), (tpD v67o21 l i), (tpC v67o12 l i), (tpE v67o6 l i), (tpA v67o20 l i), rdE v5 ([0] : List Int), rdE v8 ([6] : List Int), (tpSv29 v29 l), (tpSv47 v47 l), (tpZ g1), rdE vl (l : List Int)] H67o26 := hS67o26
                refine ⟨Ext.mono hxx (labS_of 1 rfl (fun _ _ => trivial)), ?_⟩
                refine wpR_end (by kernel_rfl) ?_
                exact ⟨v67o24, y67o3, y67o9, y67o15, y67o18, a66_0, a66_2, a66_3, a66_4, (hS67o26.drop (List.Sublist.cons_cons _ (List.Sublist.cons_cons _ (List.Sublist.cons _ (List.Sublist.cons _ (List.Sublist.cons _ (List.Sublist.cons _ (List.Sublist.cons _ (List.Sublist.cons_cons _ (List.Sublist.cons_cons _ (List.Sublist.cons_cons _ (List.Sublist.cons_cons _ (List.Sublist.cons_cons _ (List.Sublist.cons_cons _ (List.Sublist.slnil)))))))))))))))⟩
            · have hS67o21 : St H0 NoB (fun b => S b ∧ b < H0.size) [(tpA v67o20 l i), rowE 25 vo (topJs l i : List Jump), rdE v5 ([0] : List Int), rdE v8 ([6] : List Int), (tpSv29 v29 l), (tpSv47 v47 l), blkE g11 (.cells #[v5, v8, v29, vo, v47] 42), (tpZ g1), rdE vl (l : List Int)] H67o20 := St.fin hS67o20
              refine exE rfl rfl ?_
              refine e_buildSlice (vs := [v67o20]) (xs := ([[pickI (((tpX l i)).tdiv 26) 3, (pickI (((tpX l i)).tdiv 78) 9) - 4]] : List (List Int))) rfl Try.underlying23 Try.zeroValue32 rfl Try.sizeOf32 (par1 (v0 := v67o20) rfl) rfl hS67o21 (RdVs.cons (hS67o21.rdS 0 rfl) (RdVs.nil)) (by decide) (by decide) (fun v67o21 H67o21 hS67o21x2 hxx hvv67o21 => ?_)
              replace hS67o21x2 : St H0 NoB (fun b => S b ∧ b < H0.size) [rowE 32 v67o21 ([[pickI (((tpX l i)).tdiv 26) 3, (pickI (((tpX l i)).tdiv 78) 9) - 4]] : List (List Int)), (tpA v67o20 l i), rowE 25 vo (topJs l i : List Jump), rdE v5 ([0] : List Int), rdE v8 ([6] : List Int), (tpSv29 v29 l), (tpSv47 v47 l), blkE g11 (.cells #[v5, v8, v29, vo, v47] 42), (tpZ g1), rdE vl (l : List Int)] H67o21 := hS67o21x2
              refine ⟨Ext.mono hxx (fun _ h => h.elim), ?_⟩
              refine wpR_n [6] (by kernel_rfl) ?_
              refine List.forall_mem_cons.2 ⟨?_, List.forall_mem_nil _⟩
              refine exE rfl rfl ?_
              refine e_buildSlice (vs := [I (1 - (2 * (pickI ((tpX l i)) 2)))]) (xs := ([1 - (2 * (pickI ((tpX l i)) 2))] : List Int)) rfl Try.underlying32 Try.zeroValue3 rfl Try.sizeOf3 (par1 (v0 := I (1 - (2 * (pickI ((tpX l i)) 2)))) rfl) rfl hS67o21x2 (RdVs.cons (Rd.int.2 ⟨rfl, by constructor <;> omega⟩) (RdVs.nil)) (by decide) (by decide) (fun v67o6 H67o6 hS67o6 hxx hvv67o6 => ?_)
              replace hS67o6 : St H0 NoB (fun b => S b ∧ b < H0.size) [rowE 3 v67o6 ([1 - (2 * (pickI ((tpX l i)) 2))] : List Int), rowE 32 v67o21 ([[pickI (((tpX l i)).tdiv 26) 3, (pickI (((tpX l i)).tdiv 78) 9) - 4]] : List (List Int)), (tpA v67o20 l i), rowE 25 vo (topJs l i : List Jump), rdE v5 ([0] : List Int), rdE v8 ([6] : List Int), (tpSv29 v29 l), (tpSv47 v47 l), blkE g11 (.cells #[v5, v8, v29, vo, v47] 42), (tpZ g1), rdE vl (l : List Int)] H67o6 := hS67o6
              refine ⟨Ext.mono hxx (fun _ h => h.elim), ?_⟩
              refine wpR_q 11 (by kernel_rfl) rfl (quietAt rfl rfl (q_build (v := Value.agg #[v67o6, I (1), I ((pickI (((tpX l i)).tdiv 2) 13) - 6)]) rfl (par3 (v0 := v67o6) (v1 := I (1)) (v2 := I ((pickI (((tpX l i)).tdiv 2) 13) - 6)) rfl rfl rfl) ((hS67o6.rowl 0 rfl).slc (fun zz0 => ∀ w, (Instr.build 34 #[(0, zz0), (1, I (1)), (2, I ((pickI (((tpX l i)).tdiv 2) 13) - 6))]).run Try.prog w = .ok (Value.agg #[zz0, I (1), I ((pickI (((tpX l i)).tdiv 2) 13) - 6)]) w) (fun a0 n0 c0 => (fun w => by kernel_rfl))))) ?_
              refine wpR_n [12] (by kernel_rfl) ?_
              refine List.forall_mem_cons.2 ⟨?_, List.forall_mem_nil _⟩
              have hS67o12 : St H0 NoB (fun b => S b ∧ b < H0.size) [(tpE v67o6 l i), rowE 32 v67o21 ([[pickI (((tpX l i)).tdiv 26) 3, (pickI (((tpX l i)).tdiv 78) 9) - 4]] : List (List Int)), (tpA v67o20 l i), rowE 25 vo (topJs l i : List Jump), rdE v5 ([0] : List Int), rdE v8 ([6] : List Int), (tpSv29 v29 l), (tpSv47 v47 l), blkE g11 (.cells #[v5, v8, v29, vo, v47] 42), (tpZ g1), rdE vl (l : List Int)] H67o6 := St.fin hS67o6
              refine exE rfl rfl ?_
              refine e_buildSlice (vs := [Value.agg #[v67o6, I (1), I ((pickI (((tpX l i)).tdiv 2) 13) - 6)]]) (xs := ([(LRow.mk ([1 - (2 * (pickI ((tpX l i)) 2))]) 1 ((pickI (((tpX l i)).tdiv 2) 13) - 6))] : List LRow)) rfl Try.underlying22 Try.zeroValue34 rfl Try.sizeOf34 (par1 (v0 := Value.agg #[v67o6, I (1), I ((pickI (((tpX l i)).tdiv 2) 13) - 6)]) rfl) rfl hS67o12 (RdVs.cons (Rd.lRow.2 ⟨_, rfl, (hS67o12.rdS 0 rfl), (by first | assumption | (constructor <;> (dsimp only; omega)) | (constructor <;> omega)), (by first | assumption | (constructor <;> (dsimp only; omega)) | (constructor <;> omega))⟩) (RdVs.nil)) (by decide) (by decide) (fun v67o12 H67o12 hS67o12x2 hxx hvv67o12 => ?_)
              replace hS67o12x2 : St H0 NoB (fun b => S b ∧ b < H0.size) [rowE 34 v67o12 ([(LRow.mk ([1 - (2 * (pickI ((tpX l i)) 2))]) 1 ((pickI (((tpX l i)).tdiv 2) 13) - 6))] : List LRow), (tpE v67o6 l i), rowE 32 v67o21 ([[pickI (((tpX l i)).tdiv 26) 3, (pickI (((tpX l i)).tdiv 78) 9) - 4]] : List (List Int)), (tpA v67o20 l i), rowE 25 vo (topJs l i : List Jump), rdE v5 ([0] : List Int), rdE v8 ([6] : List Int), (tpSv29 v29 l), (tpSv47 v47 l), blkE g11 (.cells #[v5, v8, v29, vo, v47] 42), (tpZ g1), rdE vl (l : List Int)] H67o12 := hS67o12x2
              refine ⟨Ext.mono hxx (fun _ h => h.elim), ?_⟩
              refine wpR_q 22 (by kernel_rfl) rfl (quietAt rfl rfl (q_build (v := Value.agg #[v67o12, v67o21]) rfl (par2 (v0 := v67o12) (v1 := v67o21) rfl rfl) ((hS67o12x2.rowl 0 rfl).slc (fun zz0 => ∀ w, (Instr.build 25 #[(0, zz0), (1, v67o21)]).run Try.prog w = .ok (Value.agg #[zz0, v67o21]) w) (fun a0 n0 c0 => ((hS67o12x2.rowl 2 rfl).slc (fun zz1 => ∀ w, (Instr.build 25 #[(0, (.slice a0 n0 c0)), (1, zz1)]).run Try.prog w = .ok (Value.agg #[(.slice a0 n0 c0), zz1]) w) (fun a1 n1 c1 => (fun w => by kernel_rfl))))))) ?_
              refine wpR_n [23] (by kernel_rfl) ?_
              refine List.forall_mem_cons.2 ⟨?_, List.forall_mem_nil _⟩
              have hS67o23 : St H0 NoB (fun b => S b ∧ b < H0.size) [(tpC v67o12 l i), (tpE v67o6 l i), rowE 32 v67o21 ([[pickI (((tpX l i)).tdiv 26) 3, (pickI (((tpX l i)).tdiv 78) 9) - 4]] : List (List Int)), (tpA v67o20 l i), rowE 25 vo (topJs l i : List Jump), rdE v5 ([0] : List Int), rdE v8 ([6] : List Int), (tpSv29 v29 l), (tpSv47 v47 l), blkE g11 (.cells #[v5, v8, v29, vo, v47] 42), (tpZ g1), rdE vl (l : List Int)] H67o12 := St.fin hS67o12x2
              have hS67o23x2 : St H0 NoB (fun b => S b ∧ b < H0.size) [(tpD v67o21 l i), (tpC v67o12 l i), (tpE v67o6 l i), (tpA v67o20 l i), rowE 25 vo (topJs l i : List Jump), rdE v5 ([0] : List Int), rdE v8 ([6] : List Int), (tpSv29 v29 l), (tpSv47 v47 l), blkE g11 (.cells #[v5, v8, v29, vo, v47] 42), (tpZ g1), rdE vl (l : List Int)] H67o12 := St.fin (hS67o23.front 2 rfl)
              refine exE rfl rfl ?_
              refine e_buildSlice (vs := [Value.agg #[v67o12, v67o21]]) (xs := ([(Jump.mk ([(LRow.mk ([1 - (2 * (pickI ((tpX l i)) 2))]) 1 ((pickI (((tpX l i)).tdiv 2) 13) - 6))]) ([[pickI (((tpX l i)).tdiv 26) 3, (pickI (((tpX l i)).tdiv 78) 9) - 4]]))] : List Jump)) rfl Try.underlying40 Try.zeroValue25 rfl Try.sizeOf25 (par1 (v0 := Value.agg #[v67o12, v67o21]) rfl) rfl hS67o23x2 (RdVs.cons (Rd.jump.2 ⟨_, _, rfl, (hS67o23x2.rdS 1 rfl), (hS67o23x2.rdS 0 rfl)⟩) (RdVs.nil)) (by decide) (by decide) (fun v67o23 H67o23 hS67o23x3 hxx hvv67o23 => ?_)
              replace hS67o23x3 : St H0 NoB (fun b => S b ∧ b < H0.size) [rowE 25 v67o23 ([(Jump.mk ([(LRow.mk ([1 - (2 * (pickI ((tpX l i)) 2))]) 1 ((pickI (((tpX l i)).tdiv 2) 13) - 6))]) ([[pickI (((tpX l i)).tdiv 26) 3, (pickI (((tpX l i)).tdiv 78) 9) - 4]]))] : List Jump), (tpD v67o21 l i), (tpC v67o12 l i), (tpE v67o6 l i), (tpA v67o20 l i), rowE 25 vo (topJs l i : List Jump), rdE v5 ([0] : List Int), rdE v8 ([6] : List Int), (tpSv29 v29 l), (tpSv47 v47 l), blkE g11 (.cells #[v5, v8, v29, vo, v47] 42), (tpZ g1), rdE vl (l : List Int)] H67o23 := hS67o23x3
              refine ⟨Ext.mono hxx (fun _ h => h.elim), ?_⟩
              refine wpR_n [24] (by kernel_rfl) ?_
              refine List.forall_mem_cons.2 ⟨?_, List.forall_mem_nil _⟩
              have hS67o24 : St H0 NoB (fun b => S b ∧ b < H0.size) [(tpB v67o23 l i), (tpD v67o21 l i), (tpC v67o12 l i), (tpE v67o6 l i), (tpA v67o20 l i), rowE 25 vo (topJs l i : List Jump), rdE v5 ([0] : List Int), rdE v8 ([6] : List Int), (tpSv29 v29 l), (tpSv47 v47 l), blkE g11 (.cells #[v5, v8, v29, vo, v47] 42), (tpZ g1), rdE vl (l : List Int)] H67o23 := St.fin hS67o23x3
              have hS67o24x2 : St H0 NoB (fun b => S b ∧ b < H0.size) [rowE 25 vo (topJs l i : List Jump), (tpB v67o23 l i), (tpD v67o21 l i), (tpC v67o12 l i), (tpE v67o6 l i), (tpA v67o20 l i), rdE v5 ([0] : List Int), rdE v8 ([6] : List Int), (tpSv29 v29 l), (tpSv47 v47 l), blkE g11 (.cells #[v5, v8, v29, vo, v47] 42), (tpZ g1), rdE vl (l : List Int)] H67o23 := (hS67o24.front 5 rfl)
              refine exE rfl rfl ?_
              refine e_append rfl Try.underlying40 em_Jump_25_TopL1 rfl rfl hS67o24x2 (hS67o24x2.rdS 1 rfl) (fun _ h => h) (by have hb : GoT.bytes Jump = 48 := rfl; have hbl : (topJs l i).length = i := (by simp [topJs]); simp [hb, hbl]; omega) (by decide) (fun v67o24 H67o24 hS67o24x3 hxx => ?_)
              replace hS67o24x3 : St H0 NoB (fun b => S b ∧ b < H0.size) [rowE 25 v67o24 ((topJs l i) ++ ([(Jump.mk ([(LRow.mk ([1 - (2 * (pickI ((tpX l i)) 2))]) 1 ((pickI (((tpX l i)).tdiv 2) 13) - 6))]) ([[pickI (((tpX l i)).tdiv 26) 3, (pickI (((tpX l i)).tdiv 78) 9) - 4]]))]) : List Jump), (tpB v67o23 l i), (tpD v67o21 l i), (tpC v67o12 l i), (tpE v67o6 l i), (tpA v67o20 l i), rdE v5 ([0] : List Int), rdE v8 ([6] : List Int), (tpSv29 v29 l), (tpSv47 v47 l), blkE g11 (.cells #[v5, v8, v29, vo, v47] 42), (tpZ g1), rdE vl (l : List Int)] H67o24 := hS67o24x3
              have hS67o24x4 : St H0 NoB (fun b => S b ∧ b < H0.size) [rowE 25 v67o24 (topJs l (i + 1) : List Jump), (tpB v67o23 l i), (tpD v67o21 l i), (tpC v67o12 l i), (tpE v67o6 l i), (tpA v67o20 l i), rdE v5 ([0] : List Int), rdE v8 ([6] : List Int), (tpSv29 v29 l), (tpSv47 v47 l), blkE g11 (.cells #[v5, v8, v29, vo, v47] 42), (tpZ g1), rdE vl (l : List Int)] H67o24 := by rw [show (topJs l (i + 1)) = ((topJs l i) ++ ([(Jump.mk ([(LRow.mk ([1 - (2 * (pickI ((tpX l i)) 2))]) 1 ((pickI (((tpX l i)).tdiv 2) 13) - 6))]) ([[pickI (((tpX l i)).tdiv 26) 3, (pickI (((tpX l i)).tdiv 78) 9) - 4]]))])) from (by rw [topJs_next]; rfl)]; exact hS67o24x3
              refine ⟨Ext.mono hxx (labS_of 0 rfl (fun _ _ => trivial)), ?_⟩
              refine wpR_q 25 (by kernel_rfl) rfl (quietAt rfl rfl (q_fieldAddr rfl Try.underlying42 rfl Try.sizeOf40 a66_3)) ?_
              refine wpR_n [26] (by kernel_rfl) ?_
              refine List.forall_mem_cons.2 ⟨?_, List.forall_mem_nil _⟩
              refine exE rfl rfl ?_
              refine e_storeBlk (v := v67o24) rfl rfl rfl (oneCell_rdL (hS67o24x4.rowl 0 rfl)) Try.sizeOf40 (by show _ < 5; decide) (hS67o24x4.front 10 rfl) (fun H67o26 hS67o26 hxx => ?_)
              replace hS67o26 : St H0 NoB (fun b => S b ∧ b < H0.size) [blkE g11 (.cells #[v5, v8, v29, v67o24, v47] 42), rowE 25 v67o24 (topJs l (i + 1) : List Jump), (tpB v67o23 l i), (tpD v67o21 l i), (tpC v67o12 l i), (tpE v67o6 l i), (tpA v67o20 l i), rdE v5 ([0] : List Int), rdE v8 ([6] : List Int), (tpSv29 v29 l), (tpSv47 v47 l), (tpZ g1), rdE vl (l : List Int)] H67o26 := hS67o26
              refine ⟨Ext.mono hxx (labS_of 1 rfl (fun _ _ => trivial)), ?_⟩
              refine wpR_end (by kernel_rfl) ?_
              exact ⟨v67o24, y67o3, y67o9, y67o15, y67o18, a66_0, a66_2, a66_3, a66_4, (hS67o26.drop (List.Sublist.cons_cons _ (List.Sublist.cons_cons _ (List.Sublist.cons _ (List.Sublist.cons _ (List.Sublist.cons _ (List.Sublist.cons _ (List.Sublist.cons _ (List.Sublist.cons_cons _ (List.Sublist.cons_cons _ (List.Sublist.cons_cons _ (List.Sublist.cons_cons _ (List.Sublist.cons_cons _ (List.Sublist.cons_cons _ (List.Sublist.slnil)))))))))))))))⟩
  rintro f68 H68 ⟨v67o24, y67o3, y67o9, y67o15, y67o18, a68_0, a68_2, a68_3, a68_4, hS68⟩
  clear a66_0 a66_2 a66_3 a66_4 a66_5
  refine wpF_cut (fun f H => f 0 = vl ∧ f 2 = PT g1 0 ∧ f 3 = PT g11 0 ∧ f 4 = I ((i : Int) + 1) ∧ H68 = H) ?_ ?_
  · refine wpF_region ?_
    refine wpL_q (U := NoB) rfl (q_move (v := I ((i : Int))) rfl a68_4) ?_
    refine wpL_q (U := NoB) rfl (q_add rfl rfl rfl (by constructor <;> omega)) ?_
    refine wpL_q (U := NoB) rfl (q_assign (v := I ((i : Int) + 1)) rfl rfl) ?_
    exact ⟨a68_0, a68_2, a68_3, rfl, rfl⟩
  rintro f69 _ ⟨a69_0, a69_2, a69_3, a69_4, rfl⟩
  clear a68_0 a68_2 a68_3 a68_4
  refine ⟨_, ?_, i + 1, v67o24, rfl, (by omega), a69_0, a69_2, a69_3, (Eq.trans a69_4 (congrArg I (by omega))), (St.drop (show St H0 NoB (fun b => S b ∧ b < H0.size) [rowE 25 v67o24 (topJs l (i + 1) : List Jump), rdE v5 ([0] : List Int), rdE v8 ([6] : List Int), (tpSv29 v29 l), (tpSv47 v47 l), blkE g11 (.cells #[v5, v8, v29, v67o24, v47] 42), (tpZ g1), rdE vl (l : List Int)] H68 from ((((((((hS68.front 7 rfl).front 7 rfl).front 2 rfl).front 7 rfl).front 7 rfl).front 7 rfl).front 7 rfl).front 7 rfl)) (List.Sublist.cons_cons _ (List.Sublist.cons_cons _ (List.Sublist.cons_cons _ (List.Sublist.cons_cons _ (List.Sublist.cons_cons _ (List.Sublist.cons_cons _ (List.Sublist.cons_cons _ (List.Sublist.cons_cons _ (List.Sublist.slnil))))))))))⟩
  omega

end Go.Um
