import Derived.Test.YtfgibfbgklkgbaaProg
import Derived.Test.YtfgibfbgklkgbaaHoldC1
import Derived.Test.YtfgibfbgklkgbaaUmSub
namespace Go.Um
open Go.Proofs
open GoT (sz ag rdc)
open KeyT (kv)

theorem el_LInt_32_HoldC2 : ElT Try.prog (List Int) 32 := ⟨Try.isAgg32, Try.sizeOf32⟩

set_option maxRecDepth 100000 in
theorem Reverse_F {H0 : Heap} (S : Nat → Prop) (vx : Value) (xs : List (List Int)) (hA : ∀ e ∈ [rowE 32 vx (xs : List (List Int))], e.ok S H0) (hsb : ∀ b, S b → b < H0.size) (hin : ∀ b, own [rowE 32 vx (xs : List (List Int))] b → S b) : CallsH Try.prog 63 #[vx] H0 (fun rv_ H' => Ext (own [rowE 32 vx (xs : List (List Int))]) H0 H' ∧ rv_ = Value.tuple #[] ∧ ∀ e ∈ [rowE 32 vx (xs.reverse : List (List Int))], e.ok (lv S [rowE 32 vx (xs : List (List Int))] [rowE 32 vx (xs.reverse : List (List Int))]) H') := by
  have hS0 : St H0 (own [rowE 32 vx (xs : List (List Int))]) (fun b => S b ∧ ¬ own [rowE 32 vx (xs : List (List Int))] b) [rowE 32 vx (revTo xs 0 : List (List Int))] H0 := St.eq1 (St.handed hA pw1 hsb hin) (by rw [revTo_zero])
  have hsm : xs.length * 24 ≤ 140737488355328 := (hA _ (List.mem_singleton.2 rfl)).1
  have hr0 := revTo_len (xs := xs) (i := 0)
  refine callsH_of_wpF (args := [vx]) (rs := []) Try.func63 rfl Try.ntmps63 Try.results63 (by kernel_rfl) (Nat.le_of_ble_eq_true rfl) ?_
  have a0_0 : argF [vx] 0 = vx := rfl
  generalize argF [vx] = f0 at *
  refine wpF_seq ?_
  refine wpF_cut (fun f H => f 0 = vx ∧ f 2 = I (0) ∧ f 3 = I (((revTo xs 0).length : Int) - 1) ∧ H0 = H) ?_ ?_
  · refine wpF_region ?_
    refine wpL_q (U := NoB) rfl (q_move (v := vx) rfl a0_0) ?_
    refine wpL_q (U := NoB) rfl (q_lenRd rfl Try.underlying23 rfl (hS0.rowl 0 rfl)) ?_
    refine wpL_q (U := NoB) rfl (q_sub rfl rfl rfl (by constructor <;> omega)) ?_
    refine wpL_q (U := NoB) rfl (q_assign (v := I (0)) rfl rfl) ?_
    refine wpL_q (U := NoB) rfl (q_assign (v := I (((revTo xs 0).length : Int) - 1)) rfl rfl) ?_
    exact ⟨a0_0, rfl, rfl, rfl⟩
  rintro f1 _ ⟨a1_0, a1_2, a1_3, rfl⟩
  clear a0_0
  refine wpF_block ?_
  refine wpF_loop (fun mz f H => ∃ (i : Nat), mz = xs.length - i ∧ (i ≤ xs.length) ∧ (2 * i ≤ xs.length + 1) ∧ f 0 = vx ∧ f 2 = I ((i : Int)) ∧ f 3 = I ((xs.length : Int) - 1 - (i : Int)) ∧ St H0 (own [rowE 32 vx (xs : List (List Int))]) (fun b => S b ∧ ¬ own [rowE 32 vx (xs : List (List Int))] b) [rowE 32 vx (revTo xs i : List (List Int))] H) (xs.length - 0) ?_ ?_
  · exact ⟨0, rfl, Nat.zero_le _, (by omega), a1_0, (Eq.trans a1_2 (congrArg I (by omega))), (Eq.trans a1_3 (congrArg I (by omega))), hS0⟩
  intro m2 f2 H2 hI2
  obtain ⟨i, hm2, hi, hi2, a2_0, a2_2, a2_3, hS2⟩ := hI2
  clear a1_0 a1_2 a1_3
  refine wpF_seq ?_
  refine wpF_seq ?_
  refine wpF_cut (fun f H => f 0 = vx ∧ f 2 = I ((i : Int)) ∧ f 3 = I ((xs.length : Int) - 1 - (i : Int)) ∧ f 9 = B (decide ((i : Int) < ((xs.length : Int) - 1 - (i : Int)))) ∧ H2 = H) ?_ ?_
  · refine wpF_region ?_
    refine wpL_q (U := NoB) rfl (q_move (v := I ((i : Int))) rfl a2_2) ?_
    refine wpL_q (U := NoB) rfl (q_move (v := I ((xs.length : Int) - 1 - (i : Int))) rfl a2_3) ?_
    refine wpL_q (U := NoB) rfl (q_lss rfl rfl rfl) ?_
    exact ⟨a2_0, a2_2, a2_3, rfl, rfl⟩
  rintro f3 _ ⟨a3_0, a3_2, a3_3, a3_9, rfl⟩
  clear a2_0 a2_2 a2_3
  refine wpF_condP a3_9 (fun hlt => ?t8) (fun hlt => ?e8)
  case e8 =>
    refine wpF_exit ?_
    refine atX_here ?_
    refine ⟨_, resN, hS2.frameM, ?_⟩
    show (Value.tuple #[]) = Value.tuple #[] ∧ ∀ e ∈ [rowE 32 vx (xs.reverse : List (List Int))], e.ok (lv S [rowE 32 vx (xs : List (List Int))] [rowE 32 vx (xs.reverse : List (List Int))]) H2
    have hL := hS2
    rw [revTo_end (by omega)] at hL
    exact ⟨rfl, St.leave hL⟩
  have hri := revTo_len (xs := xs) (i := i)
  have hJ : ((xs.length : Int) - 1 - (i : Int)).toNat = xs.length - 1 - i := by omega
  refine wpF_skip ?_
  refine wpF_seq ?_
  refine wpF_block ?_
  obtain ⟨u5o7, huu5o7, hlu5o7⟩ := hS2.rowElem 0 rfl (((xs.length : Int) - 1 - (i : Int)).toNat) (by omega)
  have hS5o7 : St H0 (own [rowE 32 vx (xs : List (List Int))]) (fun b => S b ∧ ¬ own [rowE 32 vx (xs : List (List Int))] b) [rdE u5o7 (nth (revTo xs i) (((xs.length : Int) - 1 - (i : Int)).toNat)), rowE 32 vx (revTo xs i : List (List Int))] H2 := hS2.rd huu5o7
  obtain ⟨u5o11, huu5o11, hlu5o11⟩ := hS5o7.rowElem 1 rfl i (by omega)
  have hS5o11 : St H0 (own [rowE 32 vx (xs : List (List Int))]) (fun b => S b ∧ ¬ own [rowE 32 vx (xs : List (List Int))] b) [rdE u5o11 (nth (revTo xs i) i), rdE u5o7 (nth (revTo xs i) (((xs.length : Int) - 1 - (i : Int)).toNat)), rowE 32 vx (revTo xs i : List (List Int))] H2 := hS5o7.rd huu5o11
  refine wpF_cut (fun f H => f 0 = vx ∧ f 2 = I ((i : Int)) ∧ f 3 = I ((xs.length : Int) - 1 - (i : Int)) ∧ St H0 (own [rowE 32 vx (xs : List (List Int))]) (fun b => S b ∧ ¬ own [rowE 32 vx (xs : List (List Int))] b) [rowE 32 vx (((revTo xs i).set i (nth (revTo xs i) (((xs.length : Int) - 1 - (i : Int)).toNat))).set (((xs.length : Int) - 1 - (i : Int)).toNat) (nth (revTo xs i) i) : List (List Int))] H) ?_ ?_
  · refine wpF_drawn [none, none, none, none, none, none, none, none, none, none, none, none, none, some 0, none, some 1] [[], [], [0], [0], [], [], [], [], [], [], [], [], [], [], [], []] (fun l b => match l with | 0 => rowB vx b | 1 => True | _ => False) (by kernel_rfl) (by kernel_rfl) ?_
    refine wpR_q 0 (by kernel_rfl) rfl (quietAt rfl rfl (q_move (v := vx) rfl a3_0)) ?_
    refine wpR_q 1 (by kernel_rfl) rfl (quietAt rfl rfl (q_move (v := I ((i : Int))) rfl a3_2)) ?_
    refine wpR_q 2 (by kernel_rfl) rfl (quietAt rfl rfl (q_move (v := vx) rfl a3_0)) ?_
    refine wpR_q 3 (by kernel_rfl) rfl (quietAt rfl rfl (q_move (v := I ((xs.length : Int) - 1 - (i : Int))) rfl a3_3)) ?_
    refine wpR_q 4 (by kernel_rfl) rfl (quietAt rfl rfl (q_move (v := vx) rfl a3_0)) ?_
    refine wpR_q 5 (by kernel_rfl) rfl (quietAt rfl rfl (q_move (v := I ((xs.length : Int) - 1 - (i : Int))) rfl a3_3)) ?_
    refine wpR_q 6 (by kernel_rfl) rfl (quietAt rfl rfl (q_indexRd (k := ((xs.length : Int) - 1 - (i : Int)).toNat) rfl Try.underlying23 el_LInt_32_HoldC2 rfl rfl (hS2.rowl 0 rfl) (by omega) (by omega))) ?_
    refine wpR_q 7 (by kernel_rfl) rfl (quietAt rfl rfl (q_loadE rfl rfl (hlu5o7 Try.prog 32 _ el_LInt_32_HoldC2 (labU_sub [] rfl (List.forall_mem_nil _))))) ?_
    refine wpR_q 8 (by kernel_rfl) rfl (quietAt rfl rfl (q_move (v := vx) rfl a3_0)) ?_
    refine wpR_q 9 (by kernel_rfl) rfl (quietAt rfl rfl (q_move (v := I ((i : Int))) rfl a3_2)) ?_
    refine wpR_q 10 (by kernel_rfl) rfl (quietAt rfl rfl (q_indexRd (k := i) rfl Try.underlying23 el_LInt_32_HoldC2 rfl rfl (hS5o7.rowl 1 rfl) (by omega) (by omega))) ?_
    refine wpR_q 11 (by kernel_rfl) rfl (quietAt rfl rfl (q_loadE rfl rfl (hlu5o11 Try.prog 32 _ el_LInt_32_HoldC2 (labU_sub [] rfl (List.forall_mem_nil _))))) ?_
    refine wpR_q 12 (by kernel_rfl) rfl (quietAt rfl rfl (q_indexRd (k := i) rfl Try.underlying23 el_LInt_32_HoldC2 rfl rfl (hS5o11.rowl 2 rfl) (by omega) (by omega))) ?_
    refine wpR_n [13] (by kernel_rfl) ?_
    refine List.forall_mem_cons.2 ⟨?_, List.forall_mem_nil _⟩
    have hS5o13 : St H0 (own [rowE 32 vx (xs : List (List Int))]) (fun b => S b ∧ ¬ own [rowE 32 vx (xs : List (List Int))] b) [rowE 32 vx (revTo xs i : List (List Int)), rdE u5o11 (nth (revTo xs i) i), rdE u5o7 (nth (revTo xs i) (((xs.length : Int) - 1 - (i : Int)).toNat))] H2 := (hS5o11.front 2 rfl)
    refine exE rfl rfl ?_
    refine e_rowSet (k := i) (u := u5o7) rfl rfl rfl rfl Try.sizeOf32 (by first | omega | (rw [List.length_set]; omega)) hS5o13 (hS5o13.rdS 2 rfl) (fun H5o13 hS5o13x2 hxx => ?_)
    replace hS5o13x2 : St H0 (own [rowE 32 vx (xs : List (List Int))]) (fun b => S b ∧ ¬ own [rowE 32 vx (xs : List (List Int))] b) [rowE 32 vx ((revTo xs i).set i (nth (revTo xs i) (((xs.length : Int) - 1 - (i : Int)).toNat)) : List (List Int)), rdE u5o11 (nth (revTo xs i) i), rdE u5o7 (nth (revTo xs i) (((xs.length : Int) - 1 - (i : Int)).toNat))] H5o13 := hS5o13x2
    refine ⟨Ext.mono hxx (labS_of 0 rfl (fun b hb => hb)), ?_⟩
    refine wpR_q 14 (by kernel_rfl) rfl (quietAt rfl rfl (q_indexRd (k := ((xs.length : Int) - 1 - (i : Int)).toNat) rfl Try.underlying23 el_LInt_32_HoldC2 rfl rfl (hS5o13x2.rowl 0 rfl) (by omega) (by rw [List.length_set]; omega))) ?_
    refine wpR_n [15] (by kernel_rfl) ?_
    refine List.forall_mem_cons.2 ⟨?_, List.forall_mem_nil _⟩
    have hS5o15 : St H0 (own [rowE 32 vx (xs : List (List Int))]) (fun b => S b ∧ ¬ own [rowE 32 vx (xs : List (List Int))] b) [rowE 32 vx ((revTo xs i).set i (nth (revTo xs i) (((xs.length : Int) - 1 - (i : Int)).toNat)) : List (List Int)), rdE u5o11 (nth (revTo xs i) i), rdE u5o7 (nth (revTo xs i) (((xs.length : Int) - 1 - (i : Int)).toNat))] H5o13 := hS5o13x2
    refine exE rfl rfl ?_
    refine e_rowSet (k := ((xs.length : Int) - 1 - (i : Int)).toNat) (u := u5o11) rfl rfl rfl rfl Try.sizeOf32 (by first | omega | (rw [List.length_set]; omega)) hS5o15 (hS5o15.rdS 1 rfl) (fun H5o15 hS5o15x2 hxx => ?_)
    replace hS5o15x2 : St H0 (own [rowE 32 vx (xs : List (List Int))]) (fun b => S b ∧ ¬ own [rowE 32 vx (xs : List (List Int))] b) [rowE 32 vx (((revTo xs i).set i (nth (revTo xs i) (((xs.length : Int) - 1 - (i : Int)).toNat))).set (((xs.length : Int) - 1 - (i : Int)).toNat) (nth (revTo xs i) i) : List (List Int)), rdE u5o11 (nth (revTo xs i) i), rdE u5o7 (nth (revTo xs i) (((xs.length : Int) - 1 - (i : Int)).toNat))] H5o15 := hS5o15x2
    refine ⟨Ext.mono hxx (labS_of 1 rfl (fun _ _ => trivial)), ?_⟩
    refine wpR_end (by kernel_rfl) ?_
    exact ⟨a3_0, a3_2, a3_3, (hS5o15x2.drop (sk (sn (sn (List.Sublist.slnil)))))⟩
  rintro f6 H6 ⟨a6_0, a6_2, a6_3, hS6⟩
  clear a3_0 a3_2 a3_3 a3_9
  refine wpF_cut (fun f H => f 0 = vx ∧ f 2 = I ((i : Int) + 1) ∧ f 3 = I (((xs.length : Int) - 1 - (i : Int)) - 1) ∧ H6 = H) ?_ ?_
  · refine wpF_region ?_
    refine wpL_q (U := NoB) rfl (q_move (v := I ((i : Int))) rfl a6_2) ?_
    refine wpL_q (U := NoB) rfl (q_add rfl rfl rfl (by constructor <;> omega)) ?_
    refine wpL_q (U := NoB) rfl (q_move (v := I ((xs.length : Int) - 1 - (i : Int))) rfl a6_3) ?_
    refine wpL_q (U := NoB) rfl (q_sub rfl rfl rfl (by constructor <;> omega)) ?_
    refine wpL_q (U := NoB) rfl (q_assign (v := I ((i : Int) + 1)) rfl rfl) ?_
    refine wpL_q (U := NoB) rfl (q_assign (v := I (((xs.length : Int) - 1 - (i : Int)) - 1)) rfl rfl) ?_
    exact ⟨a6_0, rfl, rfl, rfl⟩
  rintro f7 _ ⟨a7_0, a7_2, a7_3, rfl⟩
  clear a6_0 a6_2 a6_3
  refine ⟨_, ?_, i + 1, rfl, (by omega), (by omega), a7_0, (Eq.trans a7_2 (congrArg I (by omega))), (Eq.trans a7_3 (congrArg I (by omega))), (show St H0 (own [rowE 32 vx (xs : List (List Int))]) (fun b => S b ∧ ¬ own [rowE 32 vx (xs : List (List Int))] b) [rowE 32 vx (revTo xs (i + 1) : List (List Int))] H6 from (by have h__ := hS6; rw [hJ, revTo_step (by omega)] at h__; exact h__))⟩
  omega

end Go.Um
