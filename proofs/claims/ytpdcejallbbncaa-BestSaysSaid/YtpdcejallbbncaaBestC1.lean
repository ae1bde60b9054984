import Derived.Test.YtpdcejallbbncaaProg
import Derived.Test.YtpdcejallbbncaaActW1
import Derived.Test.YtpdcejallbbncaaBestPlain
import Derived.Test.YtpdcejallbbncaaUmField
import Derived.Test.YtpdcejallbbncaaUmSub
namespace Go.Um
open Go.Proofs
open GoT (sz ag rdc)
open KeyT (kv)

theorem el_Int_3_BestC1 : ElT Try.prog Int 3 := ⟨Try.isAgg3, Try.sizeOf3⟩
theorem em_Int_3_BestC1 : ElemOk Try.prog Int 3 := ⟨Try.t3, (.int .i64 0), by kernel_rfl, by kernel_rfl, by kernel_rfl, by kernel_rfl, by kernel_rfl⟩

set_option maxRecDepth 100000 in
theorem Less_R {H0 : Heap} (va vb : Value) (a b : List Int) (ra : Rd NoB H0 va a) (rb : Rd NoB H0 vb b) : CallsH Try.prog 30 #[va, vb] H0 (fun rv_ H' => Ext NoB H0 H' ∧ rv_ = B (lessB a b)) := by
  have hsm := (Rd.list.1 ra).small
  have hsm2 := (Rd.list.1 rb).small
  have hS0 : St H0 NoB NoB [rdE va a, rdE vb b] H0 := St.arg (St.arg (St.start (fun _ h => h.elim)) (Bl0.nil) rb (fun _ h => h)) (Bl0.cons (Bl0.nil)) ra (fun _ h => h)
  refine callsH_of_wpF (args := [va, vb]) (rs := [.tmp 4]) Try.func30 rfl Try.ntmps30 Try.results30 (by kernel_rfl) (Nat.le_of_ble_eq_true rfl) ?_
  have a0_0 : argF [va, vb] 0 = va := rfl
  have a0_1 : argF [va, vb] 1 = vb := rfl
  generalize argF [va, vb] = f0 at *
  refine wpF_seq ?_
  refine wpF_cut (fun f H => f 0 = va ∧ f 1 = vb ∧ H0 = H) ?_ ?_
  · refine wpF_region ?_
    refine wpL_q (U := NoB) rfl (q_assign (v := B (false)) rfl rfl) ?_
    exact ⟨a0_0, a0_1, rfl⟩
  rintro f1 _ ⟨a1_0, a1_1, rfl⟩
  clear a0_0 a0_1
  refine wpF_seq ?_
  refine wpF_seq ?_
  refine wpF_cut (fun f H => f 0 = va ∧ f 1 = vb ∧ f 5 = I (0) ∧ H0 = H) ?_ ?_
  · refine wpF_region ?_
    refine wpL_q (U := NoB) rfl (q_assign (v := I (0)) rfl rfl) ?_
    exact ⟨a1_0, a1_1, rfl, rfl⟩
  rintro f2 _ ⟨a2_0, a2_1, a2_5, rfl⟩
  clear a1_0 a1_1
  refine wpF_block ?_
  refine wpF_loop (fun mz f H => ∃ (k : Nat), mz = a.length - k ∧ (k ≤ a.length) ∧ (k ≤ b.length) ∧ (a.take k = b.take k) ∧ f 0 = va ∧ f 1 = vb ∧ f 5 = I ((k : Int)) ∧ St H0 NoB NoB [rdE va a, rdE vb b] H) (a.length - 0) ?_ ?_
  · exact ⟨0, rfl, Nat.zero_le _, Nat.zero_le _, rfl, a2_0, a2_1, (Eq.trans a2_5 (congrArg I (by omega))), hS0⟩
  intro m3 f3 H3 hI3
  obtain ⟨k, hm3, hk, hk2, hpre, a3_0, a3_1, a3_5, hS3⟩ := hI3
  clear a2_0 a2_1 a2_5
  refine wpF_seq ?_
  refine wpF_seq ?_
  refine wpF_cut (fun f H => f 0 = va ∧ f 1 = vb ∧ f 5 = I ((k : Int)) ∧ f 15 = B (decide (((k : Int) < (a.length : Int)) ∧ ((k : Int) < (b.length : Int)))) ∧ H3 = H) ?_ ?_
  · refine wpF_region ?_
    refine wpL_q (U := NoB) rfl (q_move (v := I ((k : Int))) rfl a3_5) ?_
    refine wpL_q (U := NoB) rfl (q_move (v := va) rfl a3_0) ?_
    refine wpL_q (U := NoB) rfl (q_lenRd rfl Try.underlying22 rfl (hS3.rdl 0 rfl)) ?_
    refine wpL_q (U := NoB) rfl (q_lss rfl rfl rfl) ?_
    refine wpL_q (U := NoB) rfl (q_move (v := B (decide ((k : Int) < (a.length : Int)))) rfl rfl) ?_
    by_cases hg4 : (k : Int) < (a.length : Int)
    · have hb5 := Eq.trans rfl (congrArg B (decide_eq_true hg4))
      refine wpL_gq (U := NoB) rfl rfl rfl hb5 (q_move (v := I ((k : Int))) rfl a3_5) ?_
      refine wpL_gq (U := NoB) rfl rfl rfl hb5 (q_move (v := vb) rfl a3_1) ?_
      refine wpL_gq (U := NoB) rfl rfl rfl hb5 (q_lenRd rfl Try.underlying22 rfl (hS3.rdl 1 rfl)) ?_
      refine wpL_gq (U := NoB) rfl rfl rfl hb5 (q_lss rfl rfl rfl) ?_
      refine wpL_q (U := NoB) rfl (q_pickT (v := B (decide ((k : Int) < (b.length : Int)))) rfl hb5 rfl) ?_
      exact ⟨a3_0, a3_1, a3_5, (Eq.trans rfl (congrArg B (decide_congr_of ((Iff.rfl).trans (((and_iff_right hg4).trans Iff.rfl)).symm)))), rfl⟩
    · have hb6 := Eq.trans rfl (congrArg B (decide_eq_false hg4))
      refine wpL_gs rfl rfl rfl hb6 rfl ?_
      refine wpL_gs rfl rfl rfl hb6 rfl ?_
      refine wpL_gs rfl rfl rfl hb6 rfl ?_
      refine wpL_gs rfl rfl rfl hb6 rfl ?_
      refine wpL_q (U := NoB) rfl (q_pickF (v := B (false)) rfl hb6 rfl) ?_
      exact ⟨a3_0, a3_1, a3_5, (Eq.trans rfl (congrArg B ((decide_eq_false (fun h => hg4 h.1)).symm))), rfl⟩
  rintro f7 _ ⟨a7_0, a7_1, a7_5, a7_15, rfl⟩
  clear a3_0 a3_1 a3_5
  refine wpF_condP a7_15 (fun hlt => ?t17) (fun hlt => ?e17)
  case e17 =>
    refine wpF_exit ?_
    refine atX_here ?_
    refine wpF_seq ?_
    refine wpF_cut (fun f H => f 4 = B (decide ((a.length : Int) < (b.length : Int))) ∧ H3 = H) ?_ ?_
    · refine wpF_region ?_
      refine wpL_q (U := NoB) rfl (q_move (v := va) rfl a7_0) ?_
      refine wpL_q (U := NoB) rfl (q_lenRd rfl Try.underlying22 rfl (hS3.rdl 0 rfl)) ?_
      refine wpL_q (U := NoB) rfl (q_move (v := vb) rfl a7_1) ?_
      refine wpL_q (U := NoB) rfl (q_lenRd rfl Try.underlying22 rfl (hS3.rdl 1 rfl)) ?_
      refine wpL_q (U := NoB) rfl (q_lss rfl rfl rfl) ?_
      refine wpL_q (U := NoB) rfl (q_assign (v := B (decide ((a.length : Int) < (b.length : Int)))) rfl rfl) ?_
      exact ⟨rfl, rfl⟩
    rintro f16 _ ⟨a16_4, rfl⟩
    clear a7_0 a7_1 a7_15 a7_5
    refine wpF_ret ?_
    refine ⟨_, resT a16_4 resN, hS3.frame, ?_⟩
    show (B (decide ((a.length : Int) < (b.length : Int)))) = B (lessB a b)
    have hq := lessB_end hk hk2 (by omega) hpre
    exact congrArg B (by rw [hq]; exact decide_eq_decide.2 (by omega))
  refine wpF_skip ?_
  refine wpF_seq ?_
  refine wpF_block ?_
  refine wpF_seq ?_
  refine wpF_cut (fun f H => f 0 = va ∧ f 1 = vb ∧ f 5 = I ((k : Int)) ∧ f 26 = B (decide ((nth a k) ≠ (nth b k))) ∧ H3 = H) ?_ ?_
  · refine wpF_drawn [] [] (fun _ _ => False) (by kernel_rfl) (by kernel_rfl) ?_
    refine wpR_q 0 (by kernel_rfl) rfl (quietAt rfl rfl (q_move (v := va) rfl a7_0)) ?_
    refine wpR_q 1 (by kernel_rfl) rfl (quietAt rfl rfl (q_move (v := I ((k : Int))) rfl a7_5)) ?_
    refine wpR_q 2 (by kernel_rfl) rfl (quietAt rfl rfl (q_indexRd (k := k) rfl Try.underlying22 el_Int_3_BestC1 rfl rfl (hS3.rdl 0 rfl) (by omega) (by omega))) ?_
    refine wpR_q 3 (by kernel_rfl) rfl (quietAt rfl rfl (q_loadInt (k := k) rfl rfl el_Int_3_BestC1 (hS3.rdl 0 rfl) (by omega) (labU_sub [] rfl (List.forall_mem_nil _)))) ?_
    refine wpR_q 4 (by kernel_rfl) rfl (quietAt rfl rfl (q_move (v := vb) rfl a7_1)) ?_
    refine wpR_q 5 (by kernel_rfl) rfl (quietAt rfl rfl (q_move (v := I ((k : Int))) rfl a7_5)) ?_
    refine wpR_q 6 (by kernel_rfl) rfl (quietAt rfl rfl (q_indexRd (k := k) rfl Try.underlying22 el_Int_3_BestC1 rfl rfl (hS3.rdl 1 rfl) (by omega) (by omega))) ?_
    refine wpR_q 7 (by kernel_rfl) rfl (quietAt rfl rfl (q_loadInt (k := k) rfl rfl el_Int_3_BestC1 (hS3.rdl 1 rfl) (by omega) (labU_sub [] rfl (List.forall_mem_nil _)))) ?_
    refine wpR_q 8 (by kernel_rfl) rfl (quietAt rfl rfl (q_neq rfl rfl rfl)) ?_
    refine wpR_end (by kernel_rfl) ?_
    exact ⟨a7_0, a7_1, a7_5, rfl, rfl⟩
  rintro f10 _ ⟨a10_0, a10_1, a10_5, a10_26, rfl⟩
  clear a7_0 a7_1 a7_15 a7_5
  refine wpF_condP a10_26 (fun hne => ?t15) (fun hne => ?e15)
  case e15 =>
    refine wpF_skip ?_
    refine wpF_cut (fun f H => f 0 = va ∧ f 1 = vb ∧ f 5 = I ((k : Int) + 1) ∧ H3 = H) ?_ ?_
    · refine wpF_region ?_
      refine wpL_q (U := NoB) rfl (q_move (v := I ((k : Int))) rfl a10_5) ?_
      refine wpL_q (U := NoB) rfl (q_add rfl rfl rfl (by constructor <;> omega)) ?_
      refine wpL_q (U := NoB) rfl (q_assign (v := I ((k : Int) + 1)) rfl rfl) ?_
      exact ⟨a10_0, a10_1, rfl, rfl⟩
    rintro f14 _ ⟨a14_0, a14_1, a14_5, rfl⟩
    clear a10_0 a10_1 a10_26 a10_5
    refine ⟨_, ?_, k + 1, rfl, (by omega), (by omega), (take_same hpre (by omega) (by omega) (by simpa using hne)), a14_0, a14_1, (Eq.trans a14_5 (congrArg I (by omega))), hS3⟩
    omega
  refine wpF_seq ?_
  refine wpF_cut (fun f H => f 4 = B (decide ((nth a k) < (nth b k))) ∧ H3 = H) ?_ ?_
  · refine wpF_drawn [] [] (fun _ _ => False) (by kernel_rfl) (by kernel_rfl) ?_
    refine wpR_q 0 (by kernel_rfl) rfl (quietAt rfl rfl (q_move (v := va) rfl a10_0)) ?_
    refine wpR_q 1 (by kernel_rfl) rfl (quietAt rfl rfl (q_move (v := I ((k : Int))) rfl a10_5)) ?_
    refine wpR_q 2 (by kernel_rfl) rfl (quietAt rfl rfl (q_indexRd (k := k) rfl Try.underlying22 el_Int_3_BestC1 rfl rfl (hS3.rdl 0 rfl) (by omega) (by omega))) ?_
    refine wpR_q 3 (by kernel_rfl) rfl (quietAt rfl rfl (q_loadInt (k := k) rfl rfl el_Int_3_BestC1 (hS3.rdl 0 rfl) (by omega) (labU_sub [] rfl (List.forall_mem_nil _)))) ?_
    refine wpR_q 4 (by kernel_rfl) rfl (quietAt rfl rfl (q_move (v := vb) rfl a10_1)) ?_
    refine wpR_q 5 (by kernel_rfl) rfl (quietAt rfl rfl (q_move (v := I ((k : Int))) rfl a10_5)) ?_
    refine wpR_q 6 (by kernel_rfl) rfl (quietAt rfl rfl (q_indexRd (k := k) rfl Try.underlying22 el_Int_3_BestC1 rfl rfl (hS3.rdl 1 rfl) (by omega) (by omega))) ?_
    refine wpR_q 7 (by kernel_rfl) rfl (quietAt rfl rfl (q_loadInt (k := k) rfl rfl el_Int_3_BestC1 (hS3.rdl 1 rfl) (by omega) (labU_sub [] rfl (List.forall_mem_nil _)))) ?_
    refine wpR_q 8 (by kernel_rfl) rfl (quietAt rfl rfl (q_lss rfl rfl rfl)) ?_
    refine wpR_q 9 (by kernel_rfl) rfl (quietAt rfl rfl (q_assign (v := B (decide ((nth a k) < (nth b k)))) rfl rfl)) ?_
    refine wpR_end (by kernel_rfl) ?_
    exact ⟨rfl, rfl⟩
  rintro f13 _ ⟨a13_4, rfl⟩
  clear a10_0 a10_1 a10_26 a10_5
  refine wpF_ret ?_
  refine ⟨_, resT a13_4 resN, hS3.frame, ?_⟩
  show (B (decide ((nth a k) < (nth b k)))) = B (lessB a b)
  exact congrArg B (lessB_same (by omega) (by omega) hpre hne).symm

set_option maxRecDepth 100000 in
theorem Reverse_I {H0 : Heap} (S : Nat → Prop) (vx : Value) (xs : List Int) (hA : ∀ e ∈ [rowE 3 vx (xs : List Int)], e.ok S H0) (hsb : ∀ b, S b → b < H0.size) (hin : ∀ b, own [rowE 3 vx (xs : List Int)] b → S b) : CallsH Try.prog 59 #[vx] H0 (fun rv_ H' => Ext (own [rowE 3 vx (xs : List Int)]) H0 H' ∧ rv_ = Value.tuple #[] ∧ ∀ e ∈ [rowE 3 vx (xs.reverse : List Int)], e.ok (lv S [rowE 3 vx (xs : List Int)] [rowE 3 vx (xs.reverse : List Int)]) H') := by
  have hS0 : St H0 (own [rowE 3 vx (xs : List Int)]) (fun b => S b ∧ ¬ own [rowE 3 vx (xs : List Int)] b) [rowE 3 vx (revTo xs 0 : List Int)] H0 := St.eq1 (St.handed hA pw1 hsb hin) (by rw [revTo_zero])
  have hsm : xs.length * 8 ≤ 140737488355328 := (hA _ (List.mem_singleton.2 rfl)).1
  have hr0 := revTo_len (xs := xs) (i := 0)
  refine callsH_of_wpF (args := [vx]) (rs := []) Try.func59 rfl Try.ntmps59 Try.results59 (by kernel_rfl) (Nat.le_of_ble_eq_true rfl) ?_
  have a0_0 : argF [vx] 0 = vx := rfl
  generalize argF [vx] = f0 at *
  refine wpF_seq ?_
  refine wpF_cut (fun f H => f 0 = vx ∧ f 2 = I (0) ∧ f 3 = I (((revTo xs 0).length : Int) - 1) ∧ H0 = H) ?_ ?_
  · refine wpF_region ?_
    refine wpL_q (U := NoB) rfl (q_move (v := vx) rfl a0_0) ?_
    refine wpL_q (U := NoB) rfl (q_lenRd rfl Try.underlying22 rfl (hS0.rowl 0 rfl)) ?_
    refine wpL_q (U := NoB) rfl (q_sub rfl rfl rfl (by constructor <;> omega)) ?_
    refine wpL_q (U := NoB) rfl (q_assign (v := I (0)) rfl rfl) ?_
    refine wpL_q (U := NoB) rfl (q_assign (v := I (((revTo xs 0).length : Int) - 1)) rfl rfl) ?_
    exact ⟨a0_0, rfl, rfl, rfl⟩
  rintro f1 _ ⟨a1_0, a1_2, a1_3, rfl⟩
  clear a0_0
  refine wpF_block ?_
  refine wpF_loop (fun mz f H => ∃ (i : Nat), mz = xs.length - i ∧ (i ≤ xs.length) ∧ (2 * i ≤ xs.length + 1) ∧ f 0 = vx ∧ f 2 = I ((i : Int)) ∧ f 3 = I ((xs.length : Int) - 1 - (i : Int)) ∧ St H0 (own [rowE 3 vx (xs : List Int)]) (fun b => S b ∧ ¬ own [rowE 3 vx (xs : List Int)] b) [rowE 3 vx (revTo xs i : List Int)] H) (xs.length - 0) ?_ ?_
  · exact ⟨0, rfl, Nat.zero_le _, (by omega), a1_0, (Eq.trans a1_2 (congrArg I (by omega))), (Eq.trans a1_3 (congrArg I (by omega))), hS0⟩
  intro m2 f2 H2 hI2
  obtain ⟨i, hm2, hi, hi2, a2_0, a2_2, a2_3, hS2⟩ := hI2
  clear a1_0 a1_2 a1_3
  refine wpF_seq ?_
  refine wpF_seq ?_
  refine wpF_cut (fun f H => f 0 = vx ∧ f 2 = I ((i : Int)) ∧ f 3 = I ((xs.length : Int) - 1 - (i : Int)) ∧ f 9 = B (decide ((i : Int) < ((xs.length : Int) - 1 - (i : Int)))) ∧ H2 = H) ?_ ?_
  · refine wpF_region ?_
    refine wpL_q (U := NoB) rfl (q_move (v := I ((i : Int))) rfl a2_2) ?_
    refine wpL_q (U := NoB) rfl (q_move (v := I ((xs.length : Int) - 1 - (i : Int))) rfl a2_3) ?_
    refine wpL_q (U := NoB) rfl (q_lss rfl rfl rfl) ?_
    exact ⟨a2_0, a2_2, a2_3, rfl, rfl⟩
  rintro f3 _ ⟨a3_0, a3_2, a3_3, a3_9, rfl⟩
  clear a2_0 a2_2 a2_3
  refine wpF_condP a3_9 (fun hlt => ?t8) (fun hlt => ?e8)
  case e8 =>
    refine wpF_exit ?_
    refine atX_here ?_
    refine ⟨_, resN, hS2.frameM, ?_⟩
    show (Value.tuple #[]) = Value.tuple #[] ∧ ∀ e ∈ [rowE 3 vx (xs.reverse : List Int)], e.ok (lv S [rowE 3 vx (xs : List Int)] [rowE 3 vx (xs.reverse : List Int)]) H2
    have hL := hS2
    rw [revTo_end (by omega)] at hL
    exact ⟨rfl, St.leave hL⟩
  have hri := revTo_len (xs := xs) (i := i)
  have hJ : ((xs.length : Int) - 1 - (i : Int)).toNat = xs.length - 1 - i := by omega
  have hI1 := (hS2.rowl 0 rfl).in64 (k := ((xs.length : Int) - 1 - (i : Int)).toNat) (by omega)
  have hI2 := (hS2.rowl 0 rfl).in64 (k := i) (by omega)
  refine wpF_skip ?_
  refine wpF_seq ?_
  refine wpF_block ?_
  refine wpF_cut (fun f H => f 0 = vx ∧ f 2 = I ((i : Int)) ∧ f 3 = I ((xs.length : Int) - 1 - (i : Int)) ∧ St H0 (own [rowE 3 vx (xs : List Int)]) (fun b => S b ∧ ¬ own [rowE 3 vx (xs : List Int)] b) [rowE 3 vx (((revTo xs i).set i (nth (revTo xs i) (((xs.length : Int) - 1 - (i : Int)).toNat))).set (((xs.length : Int) - 1 - (i : Int)).toNat) (nth (revTo xs i) i) : List Int)] H) ?_ ?_
  · refine wpF_drawn [none, none, none, none, none, none, none, none, none, none, none, none, none, some 0, none, some 1] [[], [], [0], [0], [], [], [], [], [], [], [], [], [], [], [], []] (fun l b => match l with | 0 => rowB vx b | 1 => True | _ => False) (by kernel_rfl) (by kernel_rfl) ?_
    refine wpR_q 0 (by kernel_rfl) rfl (quietAt rfl rfl (q_move (v := vx) rfl a3_0)) ?_
    refine wpR_q 1 (by kernel_rfl) rfl (quietAt rfl rfl (q_move (v := I ((i : Int))) rfl a3_2)) ?_
    refine wpR_q 2 (by kernel_rfl) rfl (quietAt rfl rfl (q_move (v := vx) rfl a3_0)) ?_
    refine wpR_q 3 (by kernel_rfl) rfl (quietAt rfl rfl (q_move (v := I ((xs.length : Int) - 1 - (i : Int))) rfl a3_3)) ?_
    refine wpR_q 4 (by kernel_rfl) rfl (quietAt rfl rfl (q_move (v := vx) rfl a3_0)) ?_
    refine wpR_q 5 (by kernel_rfl) rfl (quietAt rfl rfl (q_move (v := I ((xs.length : Int) - 1 - (i : Int))) rfl a3_3)) ?_
    refine wpR_q 6 (by kernel_rfl) rfl (quietAt rfl rfl (q_indexRd (k := ((xs.length : Int) - 1 - (i : Int)).toNat) rfl Try.underlying22 el_Int_3_BestC1 rfl rfl (hS2.rowl 0 rfl) (by omega) (by omega))) ?_
    refine wpR_q 7 (by kernel_rfl) rfl (quietAt rfl rfl (q_loadInt (k := ((xs.length : Int) - 1 - (i : Int)).toNat) rfl rfl el_Int_3_BestC1 (hS2.rowl 0 rfl) (by omega) (labU_sub [] rfl (List.forall_mem_nil _)))) ?_
    refine wpR_q 8 (by kernel_rfl) rfl (quietAt rfl rfl (q_move (v := vx) rfl a3_0)) ?_
    refine wpR_q 9 (by kernel_rfl) rfl (quietAt rfl rfl (q_move (v := I ((i : Int))) rfl a3_2)) ?_
    refine wpR_q 10 (by kernel_rfl) rfl (quietAt rfl rfl (q_indexRd (k := i) rfl Try.underlying22 el_Int_3_BestC1 rfl rfl (hS2.rowl 0 rfl) (by omega) (by omega))) ?_
    refine wpR_q 11 (by kernel_rfl) rfl (quietAt rfl rfl (q_loadInt (k := i) rfl rfl el_Int_3_BestC1 (hS2.rowl 0 rfl) (by omega) (labU_sub [] rfl (List.forall_mem_nil _)))) ?_
    refine wpR_q 12 (by kernel_rfl) rfl (quietAt rfl rfl (q_indexRd (k := i) rfl Try.underlying22 el_Int_3_BestC1 rfl rfl (hS2.rowl 0 rfl) (by omega) (by omega))) ?_
    refine wpR_n [13] (by kernel_rfl) ?_
    refine List.forall_mem_cons.2 ⟨?_, List.forall_mem_nil _⟩
    have hS5o13 : St H0 (own [rowE 3 vx (xs : List Int)]) (fun b => S b ∧ ¬ own [rowE 3 vx (xs : List Int)] b) [rowE 3 vx (revTo xs i : List Int)] H2 := hS2
    refine exE rfl rfl ?_
    refine e_rowSet (k := i) (u := I (nth (revTo xs i) (((xs.length : Int) - 1 - (i : Int)).toNat))) rfl rfl rfl rfl Try.sizeOf3 (by first | omega | (rw [List.length_set]; omega)) hS5o13 (Rd.int.2 ⟨rfl, by first | assumption | (constructor <;> omega)⟩) (fun H5o13 hS5o13x2 hxx => ?_)
    replace hS5o13x2 : St H0 (own [rowE 3 vx (xs : List Int)]) (fun b => S b ∧ ¬ own [rowE 3 vx (xs : List Int)] b) [rowE 3 vx ((revTo xs i).set i (nth (revTo xs i) (((xs.length : Int) - 1 - (i : Int)).toNat)) : List Int)] H5o13 := hS5o13x2
    refine ⟨Ext.mono hxx (labS_of 0 rfl (fun b hb => hb)), ?_⟩
    refine wpR_q 14 (by kernel_rfl) rfl (quietAt rfl rfl (q_indexRd (k := ((xs.length : Int) - 1 - (i : Int)).toNat) rfl Try.underlying22 el_Int_3_BestC1 rfl rfl (hS5o13x2.rowl 0 rfl) (by omega) (by rw [List.length_set]; omega))) ?_
    refine wpR_n [15] (by kernel_rfl) ?_
    refine List.forall_mem_cons.2 ⟨?_, List.forall_mem_nil _⟩
    have hS5o15 : St H0 (own [rowE 3 vx (xs : List Int)]) (fun b => S b ∧ ¬ own [rowE 3 vx (xs : List Int)] b) [rowE 3 vx ((revTo xs i).set i (nth (revTo xs i) (((xs.length : Int) - 1 - (i : Int)).toNat)) : List Int)] H5o13 := hS5o13x2
    refine exE rfl rfl ?_
    refine e_rowSet (k := ((xs.length : Int) - 1 - (i : Int)).toNat) (u := I (nth (revTo xs i) i)) rfl rfl rfl rfl Try.sizeOf3 (by first | omega | (rw [List.length_set]; omega)) hS5o15 (Rd.int.2 ⟨rfl, by first | assumption | (constructor <;> omega)⟩) (fun H5o15 hS5o15x2 hxx => ?_)
    replace hS5o15x2 : St H0 (own [rowE 3 vx (xs : List Int)]) (fun b => S b ∧ ¬ own [rowE 3 vx (xs : List Int)] b) [rowE 3 vx (((revTo xs i).set i (nth (revTo xs i) (((xs.length : Int) - 1 - (i : Int)).toNat))).set (((xs.length : Int) - 1 - (i : Int)).toNat) (nth (revTo xs i) i) : List Int)] H5o15 := hS5o15x2
    refine ⟨Ext.mono hxx (labS_of 1 rfl (fun _ _ => trivial)), ?_⟩
    refine wpR_end (by kernel_rfl) ?_
    exact ⟨a3_0, a3_2, a3_3, hS5o15x2⟩
  rintro f6 H6 ⟨a6_0, a6_2, a6_3, hS6⟩
  clear a3_0 a3_2 a3_3 a3_9
  refine wpF_cut (fun f H => f 0 = vx ∧ f 2 = I ((i : Int) + 1) ∧ f 3 = I (((xs.length : Int) - 1 - (i : Int)) - 1) ∧ H6 = H) ?_ ?_
  · refine wpF_region ?_
    refine wpL_q (U := NoB) rfl (q_move (v := I ((i : Int))) rfl a6_2) ?_
    refine wpL_q (U := NoB) rfl (q_add rfl rfl rfl (by constructor <;> omega)) ?_
    refine wpL_q (U := NoB) rfl (q_move (v := I ((xs.length : Int) - 1 - (i : Int))) rfl a6_3) ?_
    refine wpL_q (U := NoB) rfl (q_sub rfl rfl rfl (by constructor <;> omega)) ?_
    refine wpL_q (U := NoB) rfl (q_assign (v := I ((i : Int) + 1)) rfl rfl) ?_
    refine wpL_q (U := NoB) rfl (q_assign (v := I (((xs.length : Int) - 1 - (i : Int)) - 1)) rfl rfl) ?_
    exact ⟨a6_0, rfl, rfl, rfl⟩
  rintro f7 _ ⟨a7_0, a7_2, a7_3, rfl⟩
  clear a6_0 a6_2 a6_3
  refine ⟨_, ?_, i + 1, rfl, (by omega), (by omega), a7_0, (Eq.trans a7_2 (congrArg I (by omega))), (Eq.trans a7_3 (congrArg I (by omega))), (show St H0 (own [rowE 3 vx (xs : List Int)]) (fun b => S b ∧ ¬ own [rowE 3 vx (xs : List Int)] b) [rowE 3 vx (revTo xs (i + 1) : List Int)] H6 from (by have h__ := hS6; rw [hJ, revTo_step (by omega)] at h__; exact h__))⟩
  omega

set_option maxRecDepth 100000 in
theorem plan_F {H0 : Heap} (r : Nat) (m : List (Int × Way)) (st : Nat → Int) (s : Int) (p : List Int) (S : Nat → Prop) (hA : ∀ e ∈ [mapE r (m : List (Int × Way))], e.ok S H0) (hsb : ∀ b, S b → b < H0.size) (hin : ∀ b, own [mapE r (m : List (Int × Way))] b → S b) (hs : st p.length = s) (hp : BackOk m st p) (hr : ∀ j, j < p.length → 0 ≤ nth p j) (hl : p.length ≤ 20) : CallsH Try.prog 48 #[(Value.map (some r)), I (s)] H0 (fun rv_ H' => Ext (own [mapE r (m : List (Int × Way))]) H0 H' ∧ ∀ e ∈ [rdE rv_ p, mapE r (m : List (Int × Way))], e.ok (lv S [mapE r (m : List (Int × Way))] [rdE rv_ p, mapE r (m : List (Int × Way))]) H') := by
  have hS0 : St H0 (own [mapE r (m : List (Int × Way))]) (fun b => S b ∧ ¬ own [mapE r (m : List (Int × Way))] b) [mapE r (m : List (Int × Way))] H0 := St.handed hA pw1 hsb hin
  refine callsH_of_wpF (args := [(Value.map (some r)), I (s)]) (rs := [.tmp 4]) Try.func48 rfl Try.ntmps48 Try.results48 (by kernel_rfl) (Nat.le_of_ble_eq_true rfl) ?_
  have a0_0 : argF [(Value.map (some r)), I (s)] 0 = (Value.map (some r)) := rfl
  have a0_1 : argF [(Value.map (some r)), I (s)] 1 = I (s) := rfl
  generalize argF [(Value.map (some r)), I (s)] = f0 at *
  refine wpF_seq ?_
  refine wpF_cut (fun f H => f 0 = (Value.map (some r)) ∧ f 1 = I (s) ∧ H0 = H) ?_ ?_
  · refine wpF_region ?_
    refine wpL_q (U := NoB) rfl (q_assign (v := (Value.slice none 0 0)) rfl rfl) ?_
    exact ⟨a0_0, a0_1, rfl⟩
  rintro f1 _ ⟨a1_0, a1_1, rfl⟩
  clear a0_0 a0_1
  refine wpF_seq ?_
  refine wpF_cut (fun f H => f 0 = (Value.map (some r)) ∧ f 1 = I (s) ∧ f 5 = (Value.slice none 0 0) ∧ H0 = H) ?_ ?_
  · refine wpF_region ?_
    refine wpL_q (U := NoB) rfl (q_assign (v := (Value.slice none 0 0)) rfl rfl) ?_
    exact ⟨a1_0, a1_1, rfl, rfl⟩
  rintro f2 _ ⟨a2_0, a2_1, a2_5, rfl⟩
  clear a1_0 a1_1
  have hS3 : St H0 (own [mapE r (m : List (Int × Way))]) (fun b => S b ∧ ¬ own [mapE r (m : List (Int × Way))] b) [rowE 3 (Value.slice none 0 0) ([] : List Int), mapE r (m : List (Int × Way))] H0 := hS0.row0 3
  refine wpF_seq ?_
  refine wpF_block ?_
  refine wpF_loop (fun mz f H => ∃ (j : Nat), ∃ (vo : Value), mz = j ∧ (j ≤ p.length) ∧ f 0 = (Value.map (some r)) ∧ f 1 = I (st j) ∧ f 5 = vo ∧ St H0 (own [mapE r (m : List (Int × Way))]) (fun b => S b ∧ ¬ own [mapE r (m : List (Int × Way))] b) [rowE 3 vo ((p.drop j).reverse : List Int), mapE r (m : List (Int × Way))] H) (p.length) ?_ ?_
  · exact ⟨p.length, (Value.slice none 0 0), rfl, Nat.le_refl _, a2_0, (Eq.trans a2_1 (congrArg I hs.symm)), a2_5, (show St H0 (own [mapE r (m : List (Int × Way))]) (fun b => S b ∧ ¬ own [mapE r (m : List (Int × Way))] b) [rowE 3 (Value.slice none 0 0) ((p.drop p.length).reverse : List Int), mapE r (m : List (Int × Way))] H0 from (by have h__ := hS3; rw [show ([] : List Int) = (p.drop p.length).reverse by simp] at h__; exact h__))⟩
  intro m4 f4 H4 hI4
  obtain ⟨j, vo, hm4, hj, a4_0, a4_1, a4_5, hS4⟩ := hI4
  clear a2_0 a2_1 a2_5
  refine wpF_seq ?_
  refine wpF_seq ?_
  refine wpF_cut (fun f H => f 0 = (Value.map (some r)) ∧ f 1 = I (st j) ∧ f 5 = vo ∧ f 10 = B (decide (0 ≤ (((mget m (st j)).getD (Way.mk 0 0 0)).By))) ∧ H4 = H) ?_ ?_
  · refine wpF_region ?_
    refine wpL_q (U := NoB) rfl (q_move (v := (Value.map (some r))) rfl a4_0) ?_
    refine wpL_q (U := NoB) rfl (q_move (v := I (st j)) rfl a4_1) ?_
    obtain ⟨u5, hlu5, hru5⟩ := lookD (t := 74) (d := ((Way.mk 0 0 0) : Way)) Try.underlying74 (keyLaw_int Try.underlying3) Try.zeroValue73 (fun _ _ => Rd.way.2 ⟨rfl, by decide, by decide, by decide⟩) (st j) (hS4.get 1 rfl)
    obtain ⟨rfl, hiu5_0, hiu5_1, hiu5_2⟩ := Rd.way.1 hru5
    refine wpL_q (U := NoB) rfl (q_lookup0 rfl rfl rfl (hlu5 _ (fun h => h))) ?_
    refine wpL_q (U := NoB) rfl (q_field (cs := #[I (((mget m (st j)).getD (Way.mk 0 0 0)).From), I (((mget m (st j)).getD (Way.mk 0 0 0)).By), I (((mget m (st j)).getD (Way.mk 0 0 0)).Long)]) (v := I (((mget m (st j)).getD (Way.mk 0 0 0)).By)) rfl Try.underlying73 rfl Try.isAgg3 rfl rfl) ?_
    refine wpL_q (U := NoB) rfl (q_geq rfl rfl rfl) ?_
    exact ⟨a4_0, a4_1, a4_5, rfl, rfl⟩
  rintro f6 _ ⟨a6_0, a6_1, a6_5, a6_10, rfl⟩
  clear a4_0 a4_1 a4_5
  refine wpF_condP a6_10 (fun h10 => ?t29) (fun h10 => ?e29)
  case e29 =>
    have h0 := hp.zero hr hj h10
    refine wpF_exit ?_
    refine atX_here ?_
    refine wpF_seq ?_
    refine wpF_cut (fun f H => f 5 = vo ∧ St H0 (own [mapE r (m : List (Int × Way))]) (fun b => S b ∧ ¬ own [mapE r (m : List (Int × Way))] b) [rowE 3 vo (((p.drop j).reverse).reverse : List Int), mapE r (m : List (Int × Way))] H) ?_ ?_
    · refine wpF_region ?_
      refine wpL_q (U := NoB) rfl (q_move (v := vo) rfl a6_5) ?_
      have hS21 : St H0 (own [mapE r (m : List (Int × Way))]) (fun b => S b ∧ ¬ own [mapE r (m : List (Int × Way))] b) [rowE 3 vo ((p.drop j).reverse : List Int), mapE r (m : List (Int × Way))] H4 := hS4
      refine wpL_o rfl ?_
      refine e_call rfl Try.call59 (arr1 (v0 := vo) rfl) (Reverse_I _ vo ((p.drop j).reverse) (fun e he => hS21.ok e (List.mem_append_left [mapE r (m : List (Int × Way))] he)) (fun b hb => SL.lt hS21 hb) (fun b ⟨e, he, hb⟩ => .inr ⟨e, List.mem_append_left [mapE r (m : List (Int × Way))] he, hb⟩)) ?_
      rintro _ H22 ⟨hxx, rfl, hok⟩
      have hS23 : St H0 (own [mapE r (m : List (Int × Way))]) (fun b => S b ∧ ¬ own [mapE r (m : List (Int × Way))] b) [rowE 3 vo (((p.drop j).reverse).reverse : List Int), mapE r (m : List (Int × Way))] H22 := St.back (A := [rowE 3 vo ((p.drop j).reverse : List Int)]) (A' := [rowE 3 vo (((p.drop j).reverse).reverse : List Int)]) (L := [mapE r (m : List (Int × Way))]) hS21 hxx hok (by intro b hb; left; obtain ⟨e, he, hb⟩ := hb; rw [List.mem_singleton.1 he] at hb; exact ⟨_, List.mem_singleton.2 rfl, hb⟩) pw1
      exact ⟨a6_5, hS23⟩
    rintro f25 H25 ⟨a25_5, hS25⟩
    clear a6_0 a6_1 a6_10 a6_5
    refine wpF_seq ?_
    refine wpF_cut (fun f H => f 4 = vo ∧ H25 = H) ?_ ?_
    · refine wpF_region ?_
      refine wpL_q (U := NoB) rfl (q_move (v := vo) rfl a25_5) ?_
      refine wpL_q (U := NoB) rfl (q_assign (v := vo) rfl rfl) ?_
      exact ⟨rfl, rfl⟩
    rintro f26 _ ⟨a26_4, rfl⟩
    clear a25_5
    refine wpF_ret ?_
    refine ⟨_, resT a26_4 resN, hS25.frameM, ?_⟩
    show ∀ e ∈ [rdE vo p, mapE r (m : List (Int × Way))], e.ok (lv S [mapE r (m : List (Int × Way))] [rdE vo p, mapE r (m : List (Int × Way))]) H25
    have hS27 : St H0 (own [mapE r (m : List (Int × Way))]) (fun b => S b ∧ ¬ own [mapE r (m : List (Int × Way))] b) [rdE vo (((p.drop j).reverse).reverse), mapE r (m : List (Int × Way))] H25 := St.fin hS25
    have hS28 : St H0 (own [mapE r (m : List (Int × Way))]) (fun b => S b ∧ ¬ own [mapE r (m : List (Int × Way))] b) [rdE vo p, mapE r (m : List (Int × Way))] H25 := by have h__ := hS27; rw [show (p.drop j).reverse.reverse = p by rw [h0]; simp] at h__; exact h__
    exact St.leave hS28
  have h0 := hp.pos hj h10
  refine wpF_skip ?_
  refine wpF_block ?_
  refine wpF_seq ?_
  refine wpF_cut (fun f H => ∃ (v14 : Value), f 0 = (Value.map (some r)) ∧ f 1 = I (st j) ∧ f 5 = v14 ∧ St H0 (own [mapE r (m : List (Int × Way))]) (fun b => S b ∧ ¬ own [mapE r (m : List (Int × Way))] b) [rowE 3 v14 ((p.drop (j - 1)).reverse : List Int), mapE r (m : List (Int × Way))] H) ?_ ?_
  · refine wpF_region ?_
    refine wpL_q (U := NoB) rfl (q_move (v := vo) rfl a6_5) ?_
    refine wpL_q (U := NoB) rfl (q_move (v := (Value.map (some r))) rfl a6_0) ?_
    refine wpL_q (U := NoB) rfl (q_move (v := I (st j)) rfl a6_1) ?_
    obtain ⟨u8, hlu8, hru8⟩ := lookD (t := 74) (d := ((Way.mk 0 0 0) : Way)) Try.underlying74 (keyLaw_int Try.underlying3) Try.zeroValue73 (fun _ _ => Rd.way.2 ⟨rfl, by decide, by decide, by decide⟩) (st j) (hS4.get 1 rfl)
    obtain ⟨rfl, hiu8_0, hiu8_1, hiu8_2⟩ := Rd.way.1 hru8
    refine wpL_q (U := NoB) rfl (q_lookup0 rfl rfl rfl (hlu8 _ (fun h => h))) ?_
    refine wpL_q (U := NoB) rfl (q_field (cs := #[I (((mget m (st j)).getD (Way.mk 0 0 0)).From), I (((mget m (st j)).getD (Way.mk 0 0 0)).By), I (((mget m (st j)).getD (Way.mk 0 0 0)).Long)]) (v := I (((mget m (st j)).getD (Way.mk 0 0 0)).By)) rfl Try.underlying73 rfl Try.isAgg3 rfl rfl) ?_
    refine wpL_o rfl ?_
    refine e_buildSlice (vs := [I (((mget m (st j)).getD (Way.mk 0 0 0)).By)]) (xs := ([((mget m (st j)).getD (Way.mk 0 0 0)).By] : List Int)) rfl Try.underlying22 Try.zeroValue3 rfl Try.sizeOf3 (par1 (v0 := I (((mget m (st j)).getD (Way.mk 0 0 0)).By)) rfl) rfl hS4 (RdVs.cons (Rd.int.2 ⟨rfl, by first | assumption | (constructor <;> omega)⟩) (RdVs.nil)) (by decide) (by decide) (fun v9 H10 hS11 hxx hvv9 => ?_)
    replace hS11 : St H0 (own [mapE r (m : List (Int × Way))]) (fun b => S b ∧ ¬ own [mapE r (m : List (Int × Way))] b) [rowE 3 v9 ([((mget m (st j)).getD (Way.mk 0 0 0)).By] : List Int), rowE 3 vo ((p.drop j).reverse : List Int), mapE r (m : List (Int × Way))] H10 := hS11
    have hS12 : St H0 (own [mapE r (m : List (Int × Way))]) (fun b => S b ∧ ¬ own [mapE r (m : List (Int × Way))] b) [rdE v9 ([((mget m (st j)).getD (Way.mk 0 0 0)).By] : List Int), rowE 3 vo ((p.drop j).reverse : List Int), mapE r (m : List (Int × Way))] H10 := St.fin hS11
    have hS13 : St H0 (own [mapE r (m : List (Int × Way))]) (fun b => S b ∧ ¬ own [mapE r (m : List (Int × Way))] b) [rowE 3 vo ((p.drop j).reverse : List Int), rdE v9 ([((mget m (st j)).getD (Way.mk 0 0 0)).By] : List Int), mapE r (m : List (Int × Way))] H10 := (hS12.front 1 rfl)
    refine wpL_o rfl ?_
    refine e_append rfl Try.underlying22 em_Int_3_BestC1 rfl rfl hS13 (hS13.rdS 1 rfl) (fun _ h => h) (by have hb : GoT.bytes Int = 8 := rfl; simp [hb]; omega) (by decide) (fun v14 H15 hS16 hxx => ?_)
    replace hS16 : St H0 (own [mapE r (m : List (Int × Way))]) (fun b => S b ∧ ¬ own [mapE r (m : List (Int × Way))] b) [rowE 3 v14 (((p.drop j).reverse) ++ ([((mget m (st j)).getD (Way.mk 0 0 0)).By]) : List Int), rdE v9 ([((mget m (st j)).getD (Way.mk 0 0 0)).By] : List Int), mapE r (m : List (Int × Way))] H15 := hS16
    have hS17 : St H0 (own [mapE r (m : List (Int × Way))]) (fun b => S b ∧ ¬ own [mapE r (m : List (Int × Way))] b) [rowE 3 v14 ((p.drop (j - 1)).reverse : List Int), rdE v9 ([((mget m (st j)).getD (Way.mk 0 0 0)).By] : List Int), mapE r (m : List (Int × Way))] H15 := by rw [show ((p.drop (j - 1)).reverse) = (((p.drop j).reverse) ++ ([((mget m (st j)).getD (Way.mk 0 0 0)).By])) from (by rw [hp.by hj h0]; exact (rev_drop h0 hj).symm)]; exact hS16
    refine wpL_q (U := NoB) rfl (q_assign (v := v14) rfl rfl) ?_
    exact ⟨v14, a6_0, a6_1, rfl, (hS17.drop (sk (sn (sk (List.Sublist.slnil)))))⟩
  rintro f18 H18 ⟨v14, a18_0, a18_1, a18_5, hS18⟩
  clear a6_0 a6_1 a6_10 a6_5
  refine wpF_cut (fun f H => f 0 = (Value.map (some r)) ∧ f 1 = I (((mget m (st j)).getD (Way.mk 0 0 0)).From) ∧ f 5 = v14 ∧ H18 = H) ?_ ?_
  · refine wpF_region ?_
    refine wpL_q (U := NoB) rfl (q_move (v := (Value.map (some r))) rfl a18_0) ?_
    refine wpL_q (U := NoB) rfl (q_move (v := I (st j)) rfl a18_1) ?_
    obtain ⟨u19, hlu19, hru19⟩ := lookD (t := 74) (d := ((Way.mk 0 0 0) : Way)) Try.underlying74 (keyLaw_int Try.underlying3) Try.zeroValue73 (fun _ _ => Rd.way.2 ⟨rfl, by decide, by decide, by decide⟩) (st j) (hS18.get 1 rfl)
    obtain ⟨rfl, hiu19_0, hiu19_1, hiu19_2⟩ := Rd.way.1 hru19
    refine wpL_q (U := NoB) rfl (q_lookup0 rfl rfl rfl (hlu19 _ (fun h => h))) ?_
    refine wpL_q (U := NoB) rfl (q_field (cs := #[I (((mget m (st j)).getD (Way.mk 0 0 0)).From), I (((mget m (st j)).getD (Way.mk 0 0 0)).By), I (((mget m (st j)).getD (Way.mk 0 0 0)).Long)]) (v := I (((mget m (st j)).getD (Way.mk 0 0 0)).From)) rfl Try.underlying73 rfl Try.isAgg3 rfl rfl) ?_
    refine wpL_q (U := NoB) rfl (q_assign (v := I (((mget m (st j)).getD (Way.mk 0 0 0)).From)) rfl rfl) ?_
    exact ⟨a18_0, rfl, a18_5, rfl⟩
  rintro f20 _ ⟨a20_0, a20_1, a20_5, rfl⟩
  clear a18_0 a18_1 a18_5
  refine ⟨_, ?_, j - 1, v14, rfl, (by omega), a20_0, (Eq.trans a20_1 (congrArg I (hp.from hj h0))), a20_5, hS18⟩
  omega

end Go.Um
