import Derived.Test.YtpdcejallbbncaaProg
import Derived.Test.YtpdcejallbbncaaBestC1
import Derived.Test.YtpdcejallbbncaaPlanPlain
import Derived.Test.YtpdcejallbbncaaUmRowEl
import Derived.Test.YtpdcejallbbncaaUmSub
namespace Go.Um
open Go.Proofs
open GoT (sz ag rdc)
open KeyT (kv)

theorem el_Act_37_PlanR1 : ElT Try.prog Act 37 := ⟨Try.isAgg37, Try.sizeOf37⟩
theorem el_Bool_4_PlanR1 : ElT Try.prog Bool 4 := ⟨Try.isAgg4, Try.sizeOf4⟩
theorem el_LBool_29_PlanR1 : ElT Try.prog (List Bool) 29 := ⟨Try.isAgg29, Try.sizeOf29⟩
theorem el_LInt_22_PlanR1 : ElT Try.prog (List Int) 22 := ⟨Try.isAgg22, Try.sizeOf22⟩
theorem em_Int_3_PlanR1 : ElemOk Try.prog Int 3 := ⟨Try.t3, (.int .i64 0), by kernel_rfl, by kernel_rfl, by kernel_rfl, by kernel_rfl, by kernel_rfl⟩
theorem em_LBool_29_PlanR1 : ElemOk Try.prog (List Bool) 29 := ⟨Try.t29, (.slice none 0 0), by kernel_rfl, by kernel_rfl, by kernel_rfl, by kernel_rfl, by kernel_rfl⟩
theorem em_LInt_22_PlanR1 : ElemOk Try.prog (List Int) 22 := ⟨Try.t22, (.slice none 0 0), by kernel_rfl, by kernel_rfl, by kernel_rfl, by kernel_rfl, by kernel_rfl⟩

set_option maxRecDepth 100000 in
theorem Code_R {H0 : Heap} (vw : Value) (now : List Bool) (rw : Rd NoB H0 vw now) (hl : now.length ≤ 16) : CallsH Try.prog 49 #[vw] H0 (fun rv_ H' => Ext NoB H0 H' ∧ rv_ = I (((codeA now : Nat) : Int))) := by
  have hS0 : St H0 NoB NoB [rdE vw now] H0 := St.arg (St.start (fun _ h => h.elim)) (Bl0.nil) rw (fun _ h => h)
  refine callsH_of_wpF (args := [vw]) (rs := [.tmp 2]) Try.func49 rfl Try.ntmps49 Try.results49 (by kernel_rfl) (Nat.le_of_ble_eq_true rfl) ?_
  have a0_0 : argF [vw] 0 = vw := rfl
  generalize argF [vw] = f0 at *
  refine wpF_seq ?_
  refine wpF_cut (fun f H => f 0 = vw ∧ H0 = H) ?_ ?_
  · refine wpF_region ?_
    refine wpL_q (U := NoB) rfl (q_assign (v := I (0)) rfl rfl) ?_
    exact ⟨a0_0, rfl⟩
  rintro f1 _ ⟨a1_0, rfl⟩
  clear a0_0
  refine wpF_seq ?_
  refine wpF_cut (fun f H => f 0 = vw ∧ f 3 = I (0) ∧ H0 = H) ?_ ?_
  · refine wpF_region ?_
    refine wpL_q (U := NoB) rfl (q_assign (v := I (0)) rfl rfl) ?_
    exact ⟨a1_0, rfl, rfl⟩
  rintro f2 _ ⟨a2_0, a2_3, rfl⟩
  clear a1_0
  refine wpF_seq ?_
  refine wpF_seq ?_
  refine wpF_cut (fun f H => f 0 = vw ∧ f 3 = I (0) ∧ f 4 = I (0) ∧ H0 = H) ?_ ?_
  · refine wpF_region ?_
    refine wpL_q (U := NoB) rfl (q_assign (v := I (0)) rfl rfl) ?_
    exact ⟨a2_0, a2_3, rfl, rfl⟩
  rintro f3 _ ⟨a3_0, a3_3, a3_4, rfl⟩
  clear a2_0 a2_3
  refine wpF_block ?_
  refine wpF_loop (fun mz f H => ∃ (i : Nat), mz = now.length - i ∧ (i ≤ now.length) ∧ f 0 = vw ∧ f 3 = I (((codeA (now.take i) : Nat) : Int)) ∧ f 4 = I ((i : Int)) ∧ St H0 NoB NoB [rdE vw now] H) (now.length - 0) ?_ ?_
  · exact ⟨0, rfl, Nat.zero_le _, a3_0, a3_3, (Eq.trans a3_4 (congrArg I (by omega))), hS0⟩
  intro m4 f4 H4 hI4
  obtain ⟨i, hm4, hi, a4_0, a4_3, a4_4, hS4⟩ := hI4
  clear a3_0 a3_3 a3_4
  refine wpF_seq ?_
  refine wpF_seq ?_
  refine wpF_cut (fun f H => f 0 = vw ∧ f 3 = I (((codeA (now.take i) : Nat) : Int)) ∧ f 4 = I ((i : Int)) ∧ f 8 = B (decide ((i : Int) < (now.length : Int))) ∧ H4 = H) ?_ ?_
  · refine wpF_region ?_
    refine wpL_q (U := NoB) rfl (q_move (v := I ((i : Int))) rfl a4_4) ?_
    refine wpL_q (U := NoB) rfl (q_move (v := vw) rfl a4_0) ?_
    refine wpL_q (U := NoB) rfl (q_lenRd rfl Try.underlying29 rfl (hS4.rdl 0 rfl)) ?_
    refine wpL_q (U := NoB) rfl (q_lss rfl rfl rfl) ?_
    exact ⟨a4_0, a4_3, a4_4, rfl, rfl⟩
  rintro f5 _ ⟨a5_0, a5_3, a5_4, a5_8, rfl⟩
  clear a4_0 a4_3 a4_4
  refine wpF_condP a5_8 (fun hlt => ?t15) (fun hlt => ?e15)
  case e15 =>
    refine wpF_exit ?_
    refine atX_here ?_
    refine wpF_seq ?_
    refine wpF_cut (fun f H => f 2 = I (((codeA (now.take i) : Nat) : Int)) ∧ H4 = H) ?_ ?_
    · refine wpF_region ?_
      refine wpL_q (U := NoB) rfl (q_move (v := I (((codeA (now.take i) : Nat) : Int))) rfl a5_3) ?_
      refine wpL_q (U := NoB) rfl (q_assign (v := I (((codeA (now.take i) : Nat) : Int))) rfl rfl) ?_
      exact ⟨rfl, rfl⟩
    rintro f14 _ ⟨a14_2, rfl⟩
    clear a5_0 a5_3 a5_4 a5_8
    refine wpF_ret ?_
    refine ⟨_, resT a14_2 resN, hS4.frame, ?_⟩
    show (I (((codeA (now.take i) : Nat) : Int))) = I (((codeA now : Nat) : Int))
    exact congrArg I (by rw [List.take_of_length_le (by omega)])
  have hcl := codeA_lt (now.take i)
  have hc2 : 2 ^ (now.take i).length ≤ 2 ^ 16 := Nat.pow_le_pow_right (by decide) (by rw [List.length_take]; omega)
  have hc3 : codeA (now.take (i + 1)) = 2 * codeA (now.take i) + (if nth now i = true then 1 else 0) := by rw [take_succ_nth (by omega), codeA_app]
  refine wpF_skip ?_
  refine wpF_seq ?_
  refine wpF_block ?_
  refine wpF_seq ?_
  refine wpF_cut (fun f H => f 0 = vw ∧ f 3 = I (2 * ((codeA (now.take i) : Nat) : Int)) ∧ f 4 = I ((i : Int)) ∧ H4 = H) ?_ ?_
  · refine wpF_region ?_
    refine wpL_q (U := NoB) rfl (q_move (v := I (((codeA (now.take i) : Nat) : Int))) rfl a5_3) ?_
    refine wpL_q (U := NoB) rfl (q_mul rfl rfl rfl (by constructor <;> omega)) ?_
    refine wpL_q (U := NoB) rfl (q_assign (v := I (2 * ((codeA (now.take i) : Nat) : Int))) rfl rfl) ?_
    exact ⟨a5_0, rfl, a5_4, rfl⟩
  rintro f7 _ ⟨a7_0, a7_3, a7_4, rfl⟩
  clear a5_0 a5_3 a5_4 a5_8
  refine wpF_seq ?_
  refine wpF_cut (fun f H => f 0 = vw ∧ f 3 = I (2 * ((codeA (now.take i) : Nat) : Int)) ∧ f 4 = I ((i : Int)) ∧ f 16 = B (nth now i) ∧ H4 = H) ?_ ?_
  · refine wpF_region ?_
    refine wpL_q (U := NoB) rfl (q_move (v := vw) rfl a7_0) ?_
    refine wpL_q (U := NoB) rfl (q_move (v := I ((i : Int))) rfl a7_4) ?_
    refine wpL_q (U := NoB) rfl (q_indexRd (k := i) rfl Try.underlying29 el_Bool_4_PlanR1 rfl rfl (hS4.rdl 0 rfl) (by omega) (by omega)) ?_
    refine wpL_q (U := NoB) rfl (q_loadBool (k := i) rfl rfl el_Bool_4_PlanR1 (hS4.rdl 0 rfl) (by omega) (fun _ h => h)) ?_
    exact ⟨a7_0, a7_3, a7_4, rfl, rfl⟩
  rintro f8 _ ⟨a8_0, a8_3, a8_4, a8_16, rfl⟩
  clear a7_0 a7_3 a7_4
  refine wpF_cut (fun f H => ∃ (c2 : Int), (c2 = ((codeA (now.take (i + 1)) : Nat) : Int)) ∧ f 0 = vw ∧ f 3 = I (c2) ∧ f 4 = I ((i : Int)) ∧ H4 = H) ?_ ?_
  · refine wpF_cond a8_16 (fun hb => ?t12) (fun hb => ?e12)
    case e12 =>
      refine wpF_skip ?_
      exact ⟨2 * ((codeA (now.take i) : Nat) : Int), (by rw [hc3]; by_cases hbb : nth now i = true <;> simp [hbb] at hb ⊢), a8_0, (Eq.trans a8_3 (congrArg I (by omega))), a8_4, rfl⟩
    refine wpF_cut (fun f H => f 0 = vw ∧ f 3 = I ((2 * ((codeA (now.take i) : Nat) : Int)) + 1) ∧ f 4 = I ((i : Int)) ∧ H4 = H) ?_ ?_
    · refine wpF_region ?_
      refine wpL_q (U := NoB) rfl (q_move (v := I (2 * ((codeA (now.take i) : Nat) : Int))) rfl a8_3) ?_
      refine wpL_q (U := NoB) rfl (q_add rfl rfl rfl (by constructor <;> omega)) ?_
      refine wpL_q (U := NoB) rfl (q_assign (v := I ((2 * ((codeA (now.take i) : Nat) : Int)) + 1)) rfl rfl) ?_
      exact ⟨a8_0, rfl, a8_4, rfl⟩
    rintro f11 _ ⟨a11_0, a11_3, a11_4, rfl⟩
    clear a8_0 a8_16 a8_3 a8_4
    exact ⟨(2 * ((codeA (now.take i) : Nat) : Int)) + 1, (by rw [hc3]; by_cases hbb : nth now i = true <;> simp [hbb] at hb ⊢), a11_0, (Eq.trans a11_3 (congrArg I (by omega))), a11_4, rfl⟩
  rintro f9 _ ⟨c2, hc4, a9_0, a9_3, a9_4, rfl⟩
  clear a8_0 a8_16 a8_3 a8_4
  refine wpF_cut (fun f H => f 0 = vw ∧ f 3 = I (c2) ∧ f 4 = I ((i : Int) + 1) ∧ H4 = H) ?_ ?_
  · refine wpF_region ?_
    refine wpL_q (U := NoB) rfl (q_move (v := I ((i : Int))) rfl a9_4) ?_
    refine wpL_q (U := NoB) rfl (q_add rfl rfl rfl (by constructor <;> omega)) ?_
    refine wpL_q (U := NoB) rfl (q_assign (v := I ((i : Int) + 1)) rfl rfl) ?_
    exact ⟨a9_0, a9_3, rfl, rfl⟩
  rintro f13 _ ⟨a13_0, a13_3, a13_4, rfl⟩
  clear a9_0 a9_3 a9_4
  refine ⟨_, ?_, i + 1, rfl, (by omega), a13_0, (Eq.trans a13_3 (congrArg I hc4)), (Eq.trans a13_4 (congrArg I (by omega))), hS4⟩
  omega

set_option maxHeartbeats 2000000 in
set_option maxRecDepth 100000 in
theorem Plan_R {H0 : Heap} {S : Nat → Prop} (vf vg va : Value) (q : Quest) (h6qFacts : In64 q.Facts) (rvf : Rd S H0 vf q.First) (rvg : Rd S H0 vg q.Goal) (rva : Rd S H0 va q.Acts) (hQ : QW q) : CallsH Try.prog 28 #[Value.agg #[I (q.Facts), vf, vg, va]] H0 (fun rv_ H' => Ext NoB H0 H' ∧ ∃ w_ p_ o_, rv_ = Value.tuple #[w_, B o_] ∧ Rd (fun b => S b ∧ b < H0.size) H' w_ p_ ∧ BestOk q o_ p_) := by
  have hsa := (Rd.list.1 rva).small
  have hfx := hQ.facts
  have hS0 : St H0 NoB (fun b => S b ∧ b < H0.size) [rdE vf q.First, rdE vg q.Goal, rdE va q.Acts] H0 := St.arg (St.arg (St.arg (St.start (fun _ h => h.2)) (Bl0.nil) rva (fun _ h => h.1)) (Bl0.cons (Bl0.nil)) rvg (fun _ h => h.1)) (Bl0.cons (Bl0.cons (Bl0.nil))) rvf (fun _ h => h.1)
  refine callsH_of_wpF (args := [Value.agg #[I (q.Facts), vf, vg, va]]) (rs := [.tmp 2, .tmp 3]) Try.func28 rfl Try.ntmps28 Try.results28 (by kernel_rfl) (Nat.le_of_ble_eq_true rfl) ?_
  have a0_0 : argF [Value.agg #[I (q.Facts), vf, vg, va]] 0 = Value.agg #[I (q.Facts), vf, vg, va] := rfl
  generalize argF [Value.agg #[I (q.Facts), vf, vg, va]] = f0 at *
  refine wpF_seq ?_
  refine wpF_cut (fun f H => ∃ (g1 : Nat), f 1 = PT g1 0 ∧ St H0 NoB (fun b => S b ∧ b < H0.size) [blkE g1 (.cells #[I (q.Facts), vf, vg, va] 25), rdE vf q.First, rdE vg q.Goal, rdE va q.Acts] H) ?_ ?_
  · refine wpF_region ?_
    refine wpL_o rfl ?_
    refine e_box (v := Value.agg #[I (q.Facts), vf, vg, va]) rfl a0_0 hS0 (fun g1 H2 hS3 hxx => ?_)
    replace hS3 : St H0 NoB (fun b => S b ∧ b < H0.size) [blkE g1 (.cells #[I (q.Facts), vf, vg, va] 25), rdE vf q.First, rdE vg q.Goal, rdE va q.Acts] H2 := hS3
    refine wpL_q (U := NoB) rfl (q_assign (v := (Value.slice none 0 0)) rfl rfl) ?_
    refine wpL_q (U := NoB) rfl (q_assign (v := B (false)) rfl rfl) ?_
    exact ⟨g1, rfl, hS3⟩
  rintro f4 H4 ⟨g1, a4_1, hS4⟩
  clear a0_0
  refine wpF_seq ?_
  refine wpF_cut (fun f H => ∃ (v9 : Value), f 1 = PT g1 0 ∧ f 4 = v9 ∧ St H0 NoB (fun b => S b ∧ b < H0.size) [rowE 29 v9 ([firstL q] : List (List Bool)), blkE g1 (.cells #[I (q.Facts), vf, vg, va] 25), rdE vf q.First, rdE vg q.Goal, rdE va q.Acts] H) ?_ ?_
  · refine wpF_region ?_
    refine wpL_q (U := NoB) rfl (q_loadBlkA rfl a4_1 Try.isAgg25 Try.sizeOf25 rfl (hS4.blk 0 rfl) (fun h => h)) ?_
    refine wpL_o rfl ?_
    refine e_call rfl Try.call16 (arr1 (v0 := Value.agg #[I (q.Facts), vf, vg, va]) rfl) (First_R vf vg va q (by first | assumption | (constructor <;> omega)) (hS4.rdS 1 rfl) (hS4.rdS 2 rfl) (hS4.rdS 3 rfl) (by omega)) ?_
    rintro r5 H6 ⟨hxx, hrr5⟩
    have hS7 : St H0 NoB (fun b => S b ∧ b < H0.size) [rdE r5 (firstL q), blkE g1 (.cells #[I (q.Facts), vf, vg, va] 25), rdE vf q.First, rdE vg q.Goal, rdE va q.Acts] H6 := hS4.res hxx hrr5
    refine wpL_o rfl ?_
    refine e_buildSlice (vs := [r5]) (xs := ([firstL q] : List (List Bool))) rfl Try.underlying77 Try.zeroValue29 rfl Try.sizeOf29 (par1 (v0 := r5) rfl) rfl hS7 (RdVs.cons (hS7.rdS 0 rfl) (RdVs.nil)) (by decide) (by decide) (fun v9 H10 hS11 hxx hvv9 => ?_)
    replace hS11 : St H0 NoB (fun b => S b ∧ b < H0.size) [rowE 29 v9 ([firstL q] : List (List Bool)), rdE r5 (firstL q), blkE g1 (.cells #[I (q.Facts), vf, vg, va] 25), rdE vf q.First, rdE vg q.Goal, rdE va q.Acts] H10 := hS11
    refine wpL_q (U := NoB) rfl (q_assign (v := v9) rfl rfl) ?_
    exact ⟨v9, a4_1, rfl, (hS11.drop (sk (sn (sk (sk (sk (sk (List.Sublist.slnil))))))))⟩
  rintro f12 H12 ⟨v9, a12_1, a12_4, hS12⟩
  clear a4_1
  refine wpF_seq ?_
  refine wpF_cut (fun f H => ∃ (v13 : Value), f 1 = PT g1 0 ∧ f 4 = v9 ∧ f 5 = v13 ∧ St H0 NoB (fun b => S b ∧ b < H0.size) [rowE 22 v13 ([[]] : List (List Int)), rowE 29 v9 ([firstL q] : List (List Bool)), blkE g1 (.cells #[I (q.Facts), vf, vg, va] 25), rdE vf q.First, rdE vg q.Goal, rdE va q.Acts] H) ?_ ?_
  · refine wpF_region ?_
    refine wpL_o rfl ?_
    refine e_buildSlice (vs := [(Value.slice none 0 0)]) (xs := ([[]] : List (List Int))) rfl Try.underlying56 Try.zeroValue22 rfl Try.sizeOf22 (par1 (v0 := (Value.slice none 0 0)) rfl) rfl hS12 (RdVs.cons (rdNil) (RdVs.nil)) (by decide) (by decide) (fun v13 H14 hS15 hxx hvv13 => ?_)
    replace hS15 : St H0 NoB (fun b => S b ∧ b < H0.size) [rowE 22 v13 ([[]] : List (List Int)), rowE 29 v9 ([firstL q] : List (List Bool)), blkE g1 (.cells #[I (q.Facts), vf, vg, va] 25), rdE vf q.First, rdE vg q.Goal, rdE va q.Acts] H14 := hS15
    refine wpL_q (U := NoB) rfl (q_assign (v := v13) rfl rfl) ?_
    exact ⟨v13, a12_1, a12_4, rfl, hS15⟩
  rintro f16 H16 ⟨v13, a16_1, a16_4, a16_5, hS16⟩
  clear a12_1 a12_4
  refine wpF_seq ?_
  refine wpF_cut (fun f H => f 1 = PT g1 0 ∧ f 4 = v9 ∧ f 5 = v13 ∧ f 6 = (Value.slice none 0 0) ∧ H16 = H) ?_ ?_
  · refine wpF_region ?_
    refine wpL_q (U := NoB) rfl (q_assign (v := (Value.slice none 0 0)) rfl rfl) ?_
    exact ⟨a16_1, a16_4, a16_5, rfl, rfl⟩
  rintro f17 _ ⟨a17_1, a17_4, a17_5, a17_6, rfl⟩
  clear a16_1 a16_4 a16_5
  have hS18 : St H0 NoB (fun b => S b ∧ b < H0.size) [rowE 3 (Value.slice none 0 0) ([] : List Int), rowE 22 v13 ([[]] : List (List Int)), rowE 29 v9 ([firstL q] : List (List Bool)), blkE g1 (.cells #[I (q.Facts), vf, vg, va] 25), rdE vf q.First, rdE vg q.Goal, rdE va q.Acts] H16 := hS16.row0 3
  have hS19 : St H0 NoB (fun b => S b ∧ b < H0.size) [rowE 3 (Value.slice none 0 0) (codes [] : List Int), rowE 22 v13 (plansL [(firstL q, [])] : List (List Int)), rowE 29 v9 (nowsL [(firstL q, [])] : List (List Bool)), blkE g1 (.cells #[I (q.Facts), vf, vg, va] 25), rdE vf q.First, rdE vg q.Goal, rdE va q.Acts] H16 := by have h__ := hS18; skip; exact h__
  refine wpF_seq ?_
  refine wpF_seq ?_
  refine wpF_cut (fun f H => f 1 = PT g1 0 ∧ f 4 = v9 ∧ f 5 = v13 ∧ f 6 = (Value.slice none 0 0) ∧ f 7 = I (0) ∧ H16 = H) ?_ ?_
  · refine wpF_region ?_
    refine wpL_q (U := NoB) rfl (q_assign (v := I (0)) rfl rfl) ?_
    exact ⟨a17_1, a17_4, a17_5, a17_6, rfl, rfl⟩
  rintro f20 _ ⟨a20_1, a20_4, a20_5, a20_6, a20_7, rfl⟩
  clear a17_1 a17_4 a17_5 a17_6
  refine wpF_block ?_
  refine wpF_loop (fun mz f H => ∃ (n : Nat), ∃ (DD : List (List Bool × List Int)), ∃ (WW : List (List Bool × List Int)), ∃ (vN : Value), ∃ (vP : Value), ∃ (vM : Value), mz = 21 - n ∧ (n ≤ 21) ∧ (Rnd q DD WW [] n 0 0) ∧ f 1 = PT g1 0 ∧ f 4 = vN ∧ f 5 = vP ∧ f 6 = vM ∧ f 7 = I ((n : Int)) ∧ St H0 NoB (fun b => S b ∧ b < H0.size) [rowE 3 vM (codes DD : List Int), rowE 29 vN (nowsL WW : List (List Bool)), rowE 22 vP (plansL WW : List (List Int)), blkE g1 (.cells #[I (q.Facts), vf, vg, va] 25), rdE vf q.First, rdE vg q.Goal, rdE va q.Acts] H) (21 - 0) ?_ ?_
  · exact ⟨0, [], [(firstL q, [])], v9, v13, (Value.slice none 0 0), rfl, (by omega), Rnd.start, a20_1, a20_4, a20_5, a20_6, (Eq.trans a20_7 (congrArg I (by omega))), (show St H0 NoB (fun b => S b ∧ b < H0.size) [rowE 3 (Value.slice none 0 0) (codes ([]) : List Int), rowE 29 v9 (nowsL ([(firstL q, [])]) : List (List Bool)), rowE 22 v13 (plansL ([(firstL q, [])]) : List (List Int)), blkE g1 (.cells #[I (q.Facts), vf, vg, va] 25), rdE vf q.First, rdE vg q.Goal, rdE va q.Acts] H16 from (St.drop (show St H0 NoB (fun b => S b ∧ b < H0.size) [rowE 3 (Value.slice none 0 0) (codes [] : List Int), rowE 29 v9 (nowsL [(firstL q, [])] : List (List Bool)), rowE 22 v13 (plansL [(firstL q, [])] : List (List Int)), blkE g1 (.cells #[I (q.Facts), vf, vg, va] 25), rdE vf q.First, rdE vg q.Goal, rdE va q.Acts] H16 from ((hS19.front 2 rfl).front 1 rfl)) (sk (sk (sk (sk (sk (sk (sk (List.Sublist.slnil))))))))))⟩
  intro m21 f21 H21 hI21
  obtain ⟨n, DD, WW, vN, vP, vM, hm21, hn, hR, a21_1, a21_4, a21_5, a21_6, a21_7, hS21⟩ := hI21
  clear a20_1 a20_4 a20_5 a20_6 a20_7
  refine wpF_seq ?_
  refine wpF_seq ?_
  refine wpF_cut (fun f H => f 1 = PT g1 0 ∧ f 4 = vN ∧ f 5 = vP ∧ f 6 = vM ∧ f 7 = I ((n : Int)) ∧ f 26 = B (decide (((n : Int) ≤ 20) ∧ (0 < ((nowsL WW).length : Int)))) ∧ H21 = H) ?_ ?_
  · refine wpF_region ?_
    refine wpL_q (U := NoB) rfl (q_move (v := I ((n : Int))) rfl a21_7) ?_
    refine wpL_q (U := NoB) rfl (q_leq rfl rfl rfl) ?_
    refine wpL_q (U := NoB) rfl (q_move (v := B (decide ((n : Int) ≤ 20))) rfl rfl) ?_
    by_cases hg22 : (n : Int) ≤ 20
    · have hb23 := Eq.trans rfl (congrArg B (decide_eq_true hg22))
      refine wpL_gq (U := NoB) rfl rfl rfl hb23 (q_move (v := vN) rfl a21_4) ?_
      refine wpL_gq (U := NoB) rfl rfl rfl hb23 (q_lenRd rfl Try.underlying77 rfl (hS21.rowl 1 rfl)) ?_
      refine wpL_gq (U := NoB) rfl rfl rfl hb23 (q_gtr rfl rfl rfl) ?_
      refine wpL_q (U := NoB) rfl (q_pickT (v := B (decide (0 < ((nowsL WW).length : Int)))) rfl hb23 rfl) ?_
      exact ⟨a21_1, a21_4, a21_5, a21_6, a21_7, (Eq.trans rfl (congrArg B (decide_congr_of ((Iff.rfl).trans (((and_iff_right hg22).trans Iff.rfl)).symm)))), rfl⟩
    · have hb24 := Eq.trans rfl (congrArg B (decide_eq_false hg22))
      refine wpL_gs rfl rfl rfl hb24 rfl ?_
      refine wpL_gs rfl rfl rfl hb24 rfl ?_
      refine wpL_gs rfl rfl rfl hb24 rfl ?_
      refine wpL_q (U := NoB) rfl (q_pickF (v := B (false)) rfl hb24 rfl) ?_
      exact ⟨a21_1, a21_4, a21_5, a21_6, a21_7, (Eq.trans rfl (congrArg B ((decide_eq_false (fun h => hg22 h.1)).symm))), rfl⟩
  rintro f25 _ ⟨a25_1, a25_4, a25_5, a25_6, a25_7, a25_26, rfl⟩
  clear a21_1 a21_4 a21_5 a21_6 a21_7
  refine wpF_condP a25_26 (fun h26 => ?t158) (fun h26 => ?e158)
  case e158 =>
    refine wpF_exit ?_
    refine atX_here ?_
    refine wpF_seq ?_
    refine wpF_cut (fun f H => f 2 = (Value.slice none 0 0) ∧ f 3 = B (false) ∧ H21 = H) ?_ ?_
    · refine wpF_region ?_
      refine wpL_q (U := NoB) rfl (q_assign (v := (Value.slice none 0 0)) rfl rfl) ?_
      refine wpL_q (U := NoB) rfl (q_assign (v := B (false)) rfl rfl) ?_
      exact ⟨rfl, rfl, rfl⟩
    rintro f157 _ ⟨a157_2, a157_3, rfl⟩
    clear a25_1 a25_26 a25_4 a25_5 a25_6 a25_7
    refine wpF_ret ?_
    refine ⟨_, resT a157_2 (resT a157_3 resN), hS21.frame, ?_⟩
    show ∃ w_ p_ o_, (Value.tuple #[(Value.slice none 0 0), B (false)]) = Value.tuple #[w_, B o_] ∧ Rd (fun b => S b ∧ b < H0.size) H21 w_ p_ ∧ BestOk q o_ p_
    exact ⟨(Value.slice none 0 0), [], false, rfl, rdNil, (hR.lost (by rw [← nowsL_len (E := WW)]; omega))⟩
  have hwl := nowsL_len (E := WW)
  have hfw := hR.few hQ
  refine wpF_skip ?_
  refine wpF_seq ?_
  refine wpF_block ?_
  refine wpF_seq ?_
  refine wpF_seq ?_
  refine wpF_cut (fun f H => f 1 = PT g1 0 ∧ f 4 = vN ∧ f 5 = vP ∧ f 6 = vM ∧ f 7 = I ((n : Int)) ∧ f 8 = I (0) ∧ H21 = H) ?_ ?_
  · refine wpF_region ?_
    refine wpL_q (U := NoB) rfl (q_assign (v := I (0)) rfl rfl) ?_
    exact ⟨a25_1, a25_4, a25_5, a25_6, a25_7, rfl, rfl⟩
  rintro f27 _ ⟨a27_1, a27_4, a27_5, a27_6, a27_7, a27_8, rfl⟩
  clear a25_1 a25_26 a25_4 a25_5 a25_6 a25_7
  refine wpF_block ?_
  refine wpF_loop (fun mz f H => ∃ (i : Nat), ∃ (vM2 : Value), mz = WW.length - i ∧ (i ≤ WW.length) ∧ (∀ j, j < i → goalA q (nth WW j).1 = false) ∧ f 1 = PT g1 0 ∧ f 4 = vN ∧ f 5 = vP ∧ f 6 = vM2 ∧ f 7 = I ((n : Int)) ∧ f 8 = I ((i : Int)) ∧ St H0 NoB (fun b => S b ∧ b < H0.size) [rowE 3 vM2 (codes (DD ++ WW.take i) : List Int), rowE 29 vN (nowsL WW : List (List Bool)), rowE 22 vP (plansL WW : List (List Int)), blkE g1 (.cells #[I (q.Facts), vf, vg, va] 25), rdE vf q.First, rdE vg q.Goal, rdE va q.Acts] H) (WW.length - 0) ?_ ?_
  · exact ⟨0, vM, rfl, Nat.zero_le _, (fun j hj => absurd hj (Nat.not_lt_zero j)), a27_1, a27_4, a27_5, a27_6, a27_7, (Eq.trans a27_8 (congrArg I (by omega))), (show St H0 NoB (fun b => S b ∧ b < H0.size) [rowE 3 vM (codes (DD ++ WW.take 0) : List Int), rowE 29 vN (nowsL WW : List (List Bool)), rowE 22 vP (plansL WW : List (List Int)), blkE g1 (.cells #[I (q.Facts), vf, vg, va] 25), rdE vf q.First, rdE vg q.Goal, rdE va q.Acts] H21 from (by have h__ := hS21; rw [show codes DD = codes (DD ++ WW.take 0) by simp] at h__; exact h__))⟩
  intro m28 f28 H28 hI28
  obtain ⟨i, vM2, hm28, hi, hgl, a28_1, a28_4, a28_5, a28_6, a28_7, a28_8, hS28⟩ := hI28
  clear a27_1 a27_4 a27_5 a27_6 a27_7 a27_8
  refine wpF_seq ?_
  refine wpF_seq ?_
  refine wpF_cut (fun f H => f 1 = PT g1 0 ∧ f 4 = vN ∧ f 5 = vP ∧ f 6 = vM2 ∧ f 7 = I ((n : Int)) ∧ f 8 = I ((i : Int)) ∧ f 32 = B (decide ((i : Int) < ((nowsL WW).length : Int))) ∧ H28 = H) ?_ ?_
  · refine wpF_region ?_
    refine wpL_q (U := NoB) rfl (q_move (v := I ((i : Int))) rfl a28_8) ?_
    refine wpL_q (U := NoB) rfl (q_move (v := vN) rfl a28_4) ?_
    refine wpL_q (U := NoB) rfl (q_lenRd rfl Try.underlying77 rfl (hS28.rowl 1 rfl)) ?_
    refine wpL_q (U := NoB) rfl (q_lss rfl rfl rfl) ?_
    exact ⟨a28_1, a28_4, a28_5, a28_6, a28_7, a28_8, rfl, rfl⟩
  rintro f29 _ ⟨a29_1, a29_4, a29_5, a29_6, a29_7, a29_8, a29_32, rfl⟩
  clear a28_1 a28_4 a28_5 a28_6 a28_7 a28_8
  refine wpF_condP a29_32 (fun h32 => ?t156) (fun h32 => ?e156)
  case t156 =>
    have hiw : i < WW.length := by rw [nowsL_len] at h32; omega
    have hcm := codes_len (E := DD ++ WW.take i)
    rw [List.length_append, List.length_take] at hcm
    have hpw := plansL_len (E := WW)
    refine wpF_skip ?_
    refine wpF_seq ?_
    refine wpF_block ?_
    refine wpF_seq ?_
    refine wpF_seq ?_
    obtain ⟨u32o4, huu32o4, hlu32o4⟩ := hS28.rowElem 1 rfl i (by omega)
    have hS32o4 : St H0 NoB (fun b => S b ∧ b < H0.size) [rdE u32o4 (nth (nowsL WW) i), rowE 3 vM2 (codes (DD ++ WW.take i) : List Int), rowE 29 vN (nowsL WW : List (List Bool)), rowE 22 vP (plansL WW : List (List Int)), blkE g1 (.cells #[I (q.Facts), vf, vg, va] 25), rdE vf q.First, rdE vg q.Goal, rdE va q.Acts] H28 := hS28.rd huu32o4
    refine wpF_cut (fun f H => f 1 = PT g1 0 ∧ f 4 = vN ∧ f 5 = vP ∧ f 6 = vM2 ∧ f 7 = I ((n : Int)) ∧ f 8 = I ((i : Int)) ∧ f 40 = B (goalA q (nth (nowsL WW) i)) ∧ St H0 NoB (fun b => S b ∧ b < H0.size) [rowE 3 vM2 (codes (DD ++ WW.take i) : List Int), rowE 29 vN (nowsL WW : List (List Bool)), rowE 22 vP (plansL WW : List (List Int)), blkE g1 (.cells #[I (q.Facts), vf, vg, va] 25), rdE vf q.First, rdE vg q.Goal, rdE va q.Acts] H) ?_ ?_
    · refine wpF_drawn [] [] (fun _ _ => False) (by kernel_rfl) (by kernel_rfl) ?_
      refine wpR_q 0 (by kernel_rfl) rfl (quietAt rfl rfl (q_loadBlkA rfl a29_1 Try.isAgg25 Try.sizeOf25 rfl (hS28.blk 3 rfl) (labU_not [] rfl (List.forall_mem_nil _)))) ?_
      refine wpR_q 1 (by kernel_rfl) rfl (quietAt rfl rfl (q_move (v := vN) rfl a29_4)) ?_
      refine wpR_q 2 (by kernel_rfl) rfl (quietAt rfl rfl (q_move (v := I ((i : Int))) rfl a29_8)) ?_
      refine wpR_q 3 (by kernel_rfl) rfl (quietAt rfl rfl (q_indexRd (k := i) rfl Try.underlying77 el_LBool_29_PlanR1 rfl rfl (hS28.rowl 1 rfl) (by omega) (by omega))) ?_
      refine wpR_q 4 (by kernel_rfl) rfl (quietAt rfl rfl (q_loadE rfl rfl (hlu32o4 Try.prog 29 _ el_LBool_29_PlanR1 (labU_sub [] rfl (List.forall_mem_nil _))))) ?_
      refine wpR_n [5] (by kernel_rfl) ?_
      refine List.forall_mem_cons.2 ⟨?_, List.forall_mem_nil _⟩
      refine exE rfl rfl ?_
      refine e_call rfl Try.call21 (arr2 (v0 := Value.agg #[I (q.Facts), vf, vg, va]) (v1 := u32o4) rfl rfl) (Goal_R vf vg va u32o4 q (nth (nowsL WW) i) (by first | assumption | (constructor <;> omega)) (hS32o4.rdN 5 rfl) (hS32o4.rdN 6 rfl) (hS32o4.rdN 7 rfl) (hS32o4.rdN 0 rfl) hQ.goal (by rw [nowsL_nth hiw]; exact hR.lens hiw)) ?_
      rintro _ H32o5 ⟨hxx, rfl⟩
      have hS32o5 : St H0 NoB (fun b => S b ∧ b < H0.size) [rdE u32o4 (nth (nowsL WW) i), rowE 3 vM2 (codes (DD ++ WW.take i) : List Int), rowE 29 vN (nowsL WW : List (List Bool)), rowE 22 vP (plansL WW : List (List Int)), blkE g1 (.cells #[I (q.Facts), vf, vg, va] 25), rdE vf q.First, rdE vg q.Goal, rdE va q.Acts] H32o5 := hS32o4.ext hxx
      refine ⟨Ext.mono hxx (fun _ h => h.elim), ?_⟩
      refine wpR_end (by kernel_rfl) ?_
      exact ⟨a29_1, a29_4, a29_5, a29_6, a29_7, a29_8, rfl, (hS32o5.drop (sn (sk (sk (sk (sk (sk (sk (sk (List.Sublist.slnil))))))))))⟩
    rintro f33 H33 ⟨a33_1, a33_4, a33_5, a33_6, a33_7, a33_8, a33_40, hS33⟩
    clear a29_1 a29_32 a29_4 a29_5 a29_6 a29_7 a29_8
    refine wpF_cond a33_40 (fun h40 => ?t54) (fun h40 => ?e54)
    case t54 =>
      refine wpF_seq ?_
      obtain ⟨u35, huu35, hlu35⟩ := hS33.rowElem 2 rfl i (by omega)
      have hS36 : St H0 NoB (fun b => S b ∧ b < H0.size) [rdE u35 (nth (plansL WW) i), rowE 3 vM2 (codes (DD ++ WW.take i) : List Int), rowE 29 vN (nowsL WW : List (List Bool)), rowE 22 vP (plansL WW : List (List Int)), blkE g1 (.cells #[I (q.Facts), vf, vg, va] 25), rdE vf q.First, rdE vg q.Goal, rdE va q.Acts] H33 := hS33.rd huu35
      refine wpF_cut (fun f H => f 2 = u35 ∧ f 3 = B (true) ∧ St H0 NoB (fun b => S b ∧ b < H0.size) [rdE u35 (nth (plansL WW) i), rowE 3 vM2 (codes (DD ++ WW.take i) : List Int), rowE 29 vN (nowsL WW : List (List Bool)), rowE 22 vP (plansL WW : List (List Int)), blkE g1 (.cells #[I (q.Facts), vf, vg, va] 25), rdE vf q.First, rdE vg q.Goal, rdE va q.Acts] H) ?_ ?_
      · refine wpF_region ?_
        refine wpL_q (U := NoB) rfl (q_move (v := vP) rfl a33_5) ?_
        refine wpL_q (U := NoB) rfl (q_move (v := I ((i : Int))) rfl a33_8) ?_
        refine wpL_q (U := NoB) rfl (q_indexRd (k := i) rfl Try.underlying56 el_LInt_22_PlanR1 rfl rfl (hS33.rowl 2 rfl) (by omega) (by omega)) ?_
        refine wpL_q (U := NoB) rfl (q_loadE rfl rfl (hlu35 Try.prog 22 _ el_LInt_22_PlanR1 (fun _ h => False.elim h))) ?_
        refine wpL_q (U := NoB) rfl (q_assign (v := u35) rfl rfl) ?_
        refine wpL_q (U := NoB) rfl (q_assign (v := B (true)) rfl rfl) ?_
        exact ⟨rfl, rfl, hS36⟩
      rintro f37 H37 ⟨a37_2, a37_3, hS37⟩
      clear a33_1 a33_4 a33_40 a33_5 a33_6 a33_7 a33_8
      refine wpF_ret ?_
      refine ⟨_, resT a37_2 (resT a37_3 resN), hS37.frame, ?_⟩
      show ∃ w_ p_ o_, (Value.tuple #[u35, B (true)]) = Value.tuple #[w_, B o_] ∧ Rd (fun b => S b ∧ b < H0.size) H37 w_ p_ ∧ BestOk q o_ p_
      exact ⟨u35, nth (plansL WW) i, true, rfl, (hS37.result (hS37.rdS 0 rfl)), (by rw [plansL_nth hiw]; exact hR.yes (by omega) hiw hgl (by rw [nowsL_nth hiw] at h40; exact h40))⟩
    have hca := codeA16 (now := nth (nowsL WW) i) (by rw [nowsL_nth hiw, hR.lens hiw]; omega)
    have hgn : goalA q (nth WW i).1 = false := by rw [nowsL_nth hiw] at h40; simpa using h40
    refine wpF_skip ?_
    obtain ⟨u38, huu38, hlu38⟩ := hS33.rowElem 1 rfl i (by omega)
    have hS39 : St H0 NoB (fun b => S b ∧ b < H0.size) [rdE u38 (nth (nowsL WW) i), rowE 3 vM2 (codes (DD ++ WW.take i) : List Int), rowE 29 vN (nowsL WW : List (List Bool)), rowE 22 vP (plansL WW : List (List Int)), blkE g1 (.cells #[I (q.Facts), vf, vg, va] 25), rdE vf q.First, rdE vg q.Goal, rdE va q.Acts] H33 := hS33.rd huu38
    refine wpF_cut (fun f H => ∃ (v48 : Value), f 1 = PT g1 0 ∧ f 4 = vN ∧ f 5 = vP ∧ f 6 = v48 ∧ f 7 = I ((n : Int)) ∧ f 8 = I ((i : Int)) ∧ St H0 NoB (fun b => S b ∧ b < H0.size) [rowE 3 v48 (codes (DD ++ WW.take (i + 1)) : List Int), rowE 29 vN (nowsL WW : List (List Bool)), rowE 22 vP (plansL WW : List (List Int)), blkE g1 (.cells #[I (q.Facts), vf, vg, va] 25), rdE vf q.First, rdE vg q.Goal, rdE va q.Acts] H) ?_ ?_
    · refine wpF_region ?_
      refine wpL_q (U := NoB) rfl (q_move (v := vM2) rfl a33_6) ?_
      refine wpL_q (U := NoB) rfl (q_move (v := vN) rfl a33_4) ?_
      refine wpL_q (U := NoB) rfl (q_move (v := I ((i : Int))) rfl a33_8) ?_
      refine wpL_q (U := NoB) rfl (q_indexRd (k := i) rfl Try.underlying77 el_LBool_29_PlanR1 rfl rfl (hS33.rowl 1 rfl) (by omega) (by omega)) ?_
      refine wpL_q (U := NoB) rfl (q_loadE rfl rfl (hlu38 Try.prog 29 _ el_LBool_29_PlanR1 (fun _ h => False.elim h))) ?_
      refine wpL_o rfl ?_
      refine e_call rfl Try.call49 (arr1 (v0 := u38) rfl) (Code_R u38 (nth (nowsL WW) i) (hS39.rdN 0 rfl) (by rw [nowsL_nth hiw, hR.lens hiw]; omega)) ?_
      rintro _ H40 ⟨hxx, rfl⟩
      have hS41 : St H0 NoB (fun b => S b ∧ b < H0.size) [rdE u38 (nth (nowsL WW) i), rowE 3 vM2 (codes (DD ++ WW.take i) : List Int), rowE 29 vN (nowsL WW : List (List Bool)), rowE 22 vP (plansL WW : List (List Int)), blkE g1 (.cells #[I (q.Facts), vf, vg, va] 25), rdE vf q.First, rdE vg q.Goal, rdE va q.Acts] H40 := hS39.ext hxx
      refine wpL_o rfl ?_
      refine e_buildSlice (vs := [I (((codeA (nth (nowsL WW) i) : Nat) : Int))]) (xs := ([((codeA (nth (nowsL WW) i) : Nat) : Int)] : List Int)) rfl Try.underlying22 Try.zeroValue3 rfl Try.sizeOf3 (par1 (v0 := I (((codeA (nth (nowsL WW) i) : Nat) : Int))) rfl) rfl hS41 (RdVs.cons (Rd.int.2 ⟨rfl, by constructor <;> omega⟩) (RdVs.nil)) (by decide) (by decide) (fun v43 H44 hS45 hxx hvv43 => ?_)
      replace hS45 : St H0 NoB (fun b => S b ∧ b < H0.size) [rowE 3 v43 ([((codeA (nth (nowsL WW) i) : Nat) : Int)] : List Int), rdE u38 (nth (nowsL WW) i), rowE 3 vM2 (codes (DD ++ WW.take i) : List Int), rowE 29 vN (nowsL WW : List (List Bool)), rowE 22 vP (plansL WW : List (List Int)), blkE g1 (.cells #[I (q.Facts), vf, vg, va] 25), rdE vf q.First, rdE vg q.Goal, rdE va q.Acts] H44 := hS45
      have hS46 : St H0 NoB (fun b => S b ∧ b < H0.size) [rdE v43 ([((codeA (nth (nowsL WW) i) : Nat) : Int)] : List Int), rdE u38 (nth (nowsL WW) i), rowE 3 vM2 (codes (DD ++ WW.take i) : List Int), rowE 29 vN (nowsL WW : List (List Bool)), rowE 22 vP (plansL WW : List (List Int)), blkE g1 (.cells #[I (q.Facts), vf, vg, va] 25), rdE vf q.First, rdE vg q.Goal, rdE va q.Acts] H44 := St.fin hS45
      have hS47 : St H0 NoB (fun b => S b ∧ b < H0.size) [rowE 3 vM2 (codes (DD ++ WW.take i) : List Int), rdE v43 ([((codeA (nth (nowsL WW) i) : Nat) : Int)] : List Int), rdE u38 (nth (nowsL WW) i), rowE 29 vN (nowsL WW : List (List Bool)), rowE 22 vP (plansL WW : List (List Int)), blkE g1 (.cells #[I (q.Facts), vf, vg, va] 25), rdE vf q.First, rdE vg q.Goal, rdE va q.Acts] H44 := (hS46.front 2 rfl)
      refine wpL_o rfl ?_
      refine e_append rfl Try.underlying22 em_Int_3_PlanR1 rfl rfl hS47 (hS47.rdS 1 rfl) (fun _ h => h) (by have hb : GoT.bytes Int = 8 := rfl; simp [hb]; omega) (by decide) (fun v48 H49 hS50 hxx => ?_)
      replace hS50 : St H0 NoB (fun b => S b ∧ b < H0.size) [rowE 3 v48 ((codes (DD ++ WW.take i)) ++ ([((codeA (nth (nowsL WW) i) : Nat) : Int)]) : List Int), rdE v43 ([((codeA (nth (nowsL WW) i) : Nat) : Int)] : List Int), rdE u38 (nth (nowsL WW) i), rowE 29 vN (nowsL WW : List (List Bool)), rowE 22 vP (plansL WW : List (List Int)), blkE g1 (.cells #[I (q.Facts), vf, vg, va] 25), rdE vf q.First, rdE vg q.Goal, rdE va q.Acts] H49 := hS50
      have hS51 : St H0 NoB (fun b => S b ∧ b < H0.size) [rowE 3 v48 (codes (DD ++ WW.take (i + 1)) : List Int), rdE v43 ([((codeA (nth (nowsL WW) i) : Nat) : Int)] : List Int), rdE u38 (nth (nowsL WW) i), rowE 29 vN (nowsL WW : List (List Bool)), rowE 22 vP (plansL WW : List (List Int)), blkE g1 (.cells #[I (q.Facts), vf, vg, va] 25), rdE vf q.First, rdE vg q.Goal, rdE va q.Acts] H49 := by rw [show (codes (DD ++ WW.take (i + 1))) = ((codes (DD ++ WW.take i)) ++ ([((codeA (nth (nowsL WW) i) : Nat) : Int)])) from (codes_more hiw)]; exact hS50
      refine wpL_q (U := NoB) rfl (q_assign (v := v48) rfl rfl) ?_
      exact ⟨v48, a33_1, a33_4, a33_5, rfl, a33_7, a33_8, (hS51.drop (sk (sn (sn (sk (sk (sk (sk (sk (sk (List.Sublist.slnil)))))))))))⟩
    rintro f52 H52 ⟨v48, a52_1, a52_4, a52_5, a52_6, a52_7, a52_8, hS52⟩
    clear a33_1 a33_4 a33_40 a33_5 a33_6 a33_7 a33_8
    refine wpF_cut (fun f H => f 1 = PT g1 0 ∧ f 4 = vN ∧ f 5 = vP ∧ f 6 = v48 ∧ f 7 = I ((n : Int)) ∧ f 8 = I ((i : Int) + 1) ∧ H52 = H) ?_ ?_
    · refine wpF_region ?_
      refine wpL_q (U := NoB) rfl (q_move (v := I ((i : Int))) rfl a52_8) ?_
      refine wpL_q (U := NoB) rfl (q_add rfl rfl rfl (by constructor <;> omega)) ?_
      refine wpL_q (U := NoB) rfl (q_assign (v := I ((i : Int) + 1)) rfl rfl) ?_
      exact ⟨a52_1, a52_4, a52_5, a52_6, a52_7, rfl, rfl⟩
    rintro f53 _ ⟨a53_1, a53_4, a53_5, a53_6, a53_7, a53_8, rfl⟩
    clear a52_1 a52_4 a52_5 a52_6 a52_7 a52_8
    refine ⟨_, ?_, i + 1, v48, rfl, (by omega), (all_succ hgl hgn), a53_1, a53_4, a53_5, a53_6, a53_7, (Eq.trans a53_8 (congrArg I (by omega))), hS52⟩
    omega
  have hS31 : St H0 NoB (fun b => S b ∧ b < H0.size) [rowE 3 vM2 (codes (DD ++ WW) : List Int), rowE 29 vN (nowsL WW : List (List Bool)), rowE 22 vP (plansL WW : List (List Int)), blkE g1 (.cells #[I (q.Facts), vf, vg, va] 25), rdE vf q.First, rdE vg q.Goal, rdE va q.Acts] H28 := by have h__ := hS28; rw [show codes (DD ++ WW.take i) = codes (DD ++ WW) from by rw [List.take_of_length_le (by rw [nowsL_len] at h32; omega)]] at h__; exact h__
  have hgl2 : ∀ j, j < WW.length → goalA q (nth WW j).1 = false := fun j hj => hgl j (by rw [nowsL_len] at h32; omega)
  refine wpF_exit ?_
  refine atX_here ?_
  refine wpF_seq ?_
  refine wpF_cut (fun f H => f 1 = PT g1 0 ∧ f 4 = vN ∧ f 5 = vP ∧ f 6 = vM2 ∧ f 7 = I ((n : Int)) ∧ f 9 = (Value.slice none 0 0) ∧ H28 = H) ?_ ?_
  · refine wpF_region ?_
    refine wpL_q (U := NoB) rfl (q_assign (v := (Value.slice none 0 0)) rfl rfl) ?_
    exact ⟨a29_1, a29_4, a29_5, a29_6, a29_7, rfl, rfl⟩
  rintro f55 _ ⟨a55_1, a55_4, a55_5, a55_6, a55_7, a55_9, rfl⟩
  clear a29_1 a29_32 a29_4 a29_5 a29_6 a29_7 a29_8
  refine wpF_seq ?_
  refine wpF_cut (fun f H => f 1 = PT g1 0 ∧ f 4 = vN ∧ f 5 = vP ∧ f 6 = vM2 ∧ f 7 = I ((n : Int)) ∧ f 9 = (Value.slice none 0 0) ∧ f 10 = (Value.slice none 0 0) ∧ H28 = H) ?_ ?_
  · refine wpF_region ?_
    refine wpL_q (U := NoB) rfl (q_assign (v := (Value.slice none 0 0)) rfl rfl) ?_
    exact ⟨a55_1, a55_4, a55_5, a55_6, a55_7, a55_9, rfl, rfl⟩
  rintro f56 _ ⟨a56_1, a56_4, a56_5, a56_6, a56_7, a56_9, a56_10, rfl⟩
  clear a55_1 a55_4 a55_5 a55_6 a55_7 a55_9
  refine wpF_seq ?_
  refine wpF_cut (fun f H => f 1 = PT g1 0 ∧ f 4 = vN ∧ f 5 = vP ∧ f 6 = vM2 ∧ f 7 = I ((n : Int)) ∧ f 9 = (Value.slice none 0 0) ∧ f 10 = (Value.slice none 0 0) ∧ f 11 = (Value.slice none 0 0) ∧ H28 = H) ?_ ?_
  · refine wpF_region ?_
    refine wpL_q (U := NoB) rfl (q_assign (v := (Value.slice none 0 0)) rfl rfl) ?_
    exact ⟨a56_1, a56_4, a56_5, a56_6, a56_7, a56_9, a56_10, rfl, rfl⟩
  rintro f57 _ ⟨a57_1, a57_4, a57_5, a57_6, a57_7, a57_9, a57_10, a57_11, rfl⟩
  clear a56_1 a56_10 a56_4 a56_5 a56_6 a56_7 a56_9
  have hS58 : St H0 NoB (fun b => S b ∧ b < H0.size) [rowE 3 (Value.slice none 0 0) ([] : List Int), rowE 3 vM2 (codes (DD ++ WW) : List Int), rowE 29 vN (nowsL WW : List (List Bool)), rowE 22 vP (plansL WW : List (List Int)), blkE g1 (.cells #[I (q.Facts), vf, vg, va] 25), rdE vf q.First, rdE vg q.Goal, rdE va q.Acts] H28 := hS31.row0 3
  have hS59 : St H0 NoB (fun b => S b ∧ b < H0.size) [rowE 22 (Value.slice none 0 0) ([] : List (List Int)), rowE 3 (Value.slice none 0 0) ([] : List Int), rowE 3 vM2 (codes (DD ++ WW) : List Int), rowE 29 vN (nowsL WW : List (List Bool)), rowE 22 vP (plansL WW : List (List Int)), blkE g1 (.cells #[I (q.Facts), vf, vg, va] 25), rdE vf q.First, rdE vg q.Goal, rdE va q.Acts] H28 := hS58.row0 22
  have hS60 : St H0 NoB (fun b => S b ∧ b < H0.size) [rowE 29 (Value.slice none 0 0) ([] : List (List Bool)), rowE 22 (Value.slice none 0 0) ([] : List (List Int)), rowE 3 (Value.slice none 0 0) ([] : List Int), rowE 3 vM2 (codes (DD ++ WW) : List Int), rowE 29 vN (nowsL WW : List (List Bool)), rowE 22 vP (plansL WW : List (List Int)), blkE g1 (.cells #[I (q.Facts), vf, vg, va] 25), rdE vf q.First, rdE vg q.Goal, rdE va q.Acts] H28 := hS59.row0 29
  have hS61 : St H0 NoB (fun b => S b ∧ b < H0.size) [rowE 29 (Value.slice none 0 0) (nowsL [] : List (List Bool)), rowE 22 (Value.slice none 0 0) (plansL [] : List (List Int)), rowE 3 (Value.slice none 0 0) (codes [] : List Int), rowE 3 vM2 (codes (DD ++ WW) : List Int), rowE 29 vN (nowsL WW : List (List Bool)), rowE 22 vP (plansL WW : List (List Int)), blkE g1 (.cells #[I (q.Facts), vf, vg, va] 25), rdE vf q.First, rdE vg q.Goal, rdE va q.Acts] H28 := by have h__ := hS60; skip; exact h__
  refine wpF_seq ?_
  refine wpF_seq ?_
  refine wpF_cut (fun f H => f 1 = PT g1 0 ∧ f 4 = vN ∧ f 5 = vP ∧ f 6 = vM2 ∧ f 7 = I ((n : Int)) ∧ f 9 = (Value.slice none 0 0) ∧ f 10 = (Value.slice none 0 0) ∧ f 11 = (Value.slice none 0 0) ∧ f 12 = I (0) ∧ H28 = H) ?_ ?_
  · refine wpF_region ?_
    refine wpL_q (U := NoB) rfl (q_assign (v := I (0)) rfl rfl) ?_
    exact ⟨a57_1, a57_4, a57_5, a57_6, a57_7, a57_9, a57_10, a57_11, rfl, rfl⟩
  rintro f62 _ ⟨a62_1, a62_4, a62_5, a62_6, a62_7, a62_9, a62_10, a62_11, a62_12, rfl⟩
  clear a57_1 a57_10 a57_11 a57_4 a57_5 a57_6 a57_7 a57_9
  refine wpF_block ?_
  refine wpF_loop (fun mz f H => ∃ (a : Nat), ∃ (NN : List (List Bool × List Int)), ∃ (vX : Value), ∃ (vY : Value), ∃ (vZ : Value), mz = WW.length - a ∧ (a ≤ WW.length) ∧ (Rnd q DD WW NN n a 0) ∧ f 1 = PT g1 0 ∧ f 4 = vN ∧ f 5 = vP ∧ f 6 = vM2 ∧ f 7 = I ((n : Int)) ∧ f 9 = vX ∧ f 10 = vY ∧ f 11 = vZ ∧ f 12 = I ((a : Int)) ∧ St H0 NoB (fun b => S b ∧ b < H0.size) [rowE 3 vZ (codes NN : List Int), rowE 22 vY (plansL NN : List (List Int)), rowE 29 vX (nowsL NN : List (List Bool)), rowE 3 vM2 (codes (DD ++ WW) : List Int), rowE 29 vN (nowsL WW : List (List Bool)), rowE 22 vP (plansL WW : List (List Int)), blkE g1 (.cells #[I (q.Facts), vf, vg, va] 25), rdE vf q.First, rdE vg q.Goal, rdE va q.Acts] H) (WW.length - 0) ?_ ?_
  · exact ⟨0, [], (Value.slice none 0 0), (Value.slice none 0 0), (Value.slice none 0 0), rfl, Nat.zero_le _, hR, a62_1, a62_4, a62_5, a62_6, a62_7, a62_9, a62_10, a62_11, (Eq.trans a62_12 (congrArg I (by omega))), (show St H0 NoB (fun b => S b ∧ b < H0.size) [rowE 3 (Value.slice none 0 0) (codes ([]) : List Int), rowE 22 (Value.slice none 0 0) (plansL ([]) : List (List Int)), rowE 29 (Value.slice none 0 0) (nowsL ([]) : List (List Bool)), rowE 3 vM2 (codes (DD ++ WW) : List Int), rowE 29 vN (nowsL WW : List (List Bool)), rowE 22 vP (plansL WW : List (List Int)), blkE g1 (.cells #[I (q.Facts), vf, vg, va] 25), rdE vf q.First, rdE vg q.Goal, rdE va q.Acts] H28 from (St.drop (show St H0 NoB (fun b => S b ∧ b < H0.size) [rowE 3 (Value.slice none 0 0) (codes [] : List Int), rowE 22 (Value.slice none 0 0) (plansL [] : List (List Int)), rowE 29 (Value.slice none 0 0) (nowsL [] : List (List Bool)), rowE 3 vM2 (codes (DD ++ WW) : List Int), rowE 29 vN (nowsL WW : List (List Bool)), rowE 22 vP (plansL WW : List (List Int)), blkE g1 (.cells #[I (q.Facts), vf, vg, va] 25), rdE vf q.First, rdE vg q.Goal, rdE va q.Acts] H28 from ((hS61.front 1 rfl).front 2 rfl)) (sk (sk (sk (sk (sk (sk (sk (sk (sk (sk (List.Sublist.slnil)))))))))))))⟩
  intro m63 f63 H63 hI63
  obtain ⟨a, NN, vX, vY, vZ, hm63, ha, hR1, a63_1, a63_4, a63_5, a63_6, a63_7, a63_9, a63_10, a63_11, a63_12, hS63⟩ := hI63
  clear a62_1 a62_10 a62_11 a62_12 a62_4 a62_5 a62_6 a62_7 a62_9
  refine wpF_seq ?_
  refine wpF_seq ?_
  refine wpF_cut (fun f H => f 1 = PT g1 0 ∧ f 4 = vN ∧ f 5 = vP ∧ f 6 = vM2 ∧ f 7 = I ((n : Int)) ∧ f 9 = vX ∧ f 10 = vY ∧ f 11 = vZ ∧ f 12 = I ((a : Int)) ∧ f 56 = B (decide ((a : Int) < ((nowsL WW).length : Int))) ∧ H63 = H) ?_ ?_
  · refine wpF_region ?_
    refine wpL_q (U := NoB) rfl (q_move (v := I ((a : Int))) rfl a63_12) ?_
    refine wpL_q (U := NoB) rfl (q_move (v := vN) rfl a63_4) ?_
    refine wpL_q (U := NoB) rfl (q_lenRd rfl Try.underlying77 rfl (hS63.rowl 4 rfl)) ?_
    refine wpL_q (U := NoB) rfl (q_lss rfl rfl rfl) ?_
    exact ⟨a63_1, a63_4, a63_5, a63_6, a63_7, a63_9, a63_10, a63_11, a63_12, rfl, rfl⟩
  rintro f64 _ ⟨a64_1, a64_4, a64_5, a64_6, a64_7, a64_9, a64_10, a64_11, a64_12, a64_56, rfl⟩
  clear a63_1 a63_10 a63_11 a63_12 a63_4 a63_5 a63_6 a63_7 a63_9
  refine wpF_condP a64_56 (fun h56 => ?t155) (fun h56 => ?e155)
  case e155 =>
    have haw : a = WW.length := by rw [nowsL_len] at h56; omega
    have hR4 := hR1.round haw hgl2
    refine wpF_exit ?_
    refine atX_here ?_
    refine wpF_seq ?_
    refine wpF_cut (fun f H => f 1 = PT g1 0 ∧ f 4 = vX ∧ f 6 = vM2 ∧ f 7 = I ((n : Int)) ∧ f 10 = vY ∧ H63 = H) ?_ ?_
    · refine wpF_region ?_
      refine wpL_q (U := NoB) rfl (q_move (v := vX) rfl a64_9) ?_
      refine wpL_q (U := NoB) rfl (q_assign (v := vX) rfl rfl) ?_
      exact ⟨a64_1, rfl, a64_6, a64_7, a64_10, rfl⟩
    rintro f152 _ ⟨a152_1, a152_4, a152_6, a152_7, a152_10, rfl⟩
    clear a64_1 a64_10 a64_11 a64_12 a64_4 a64_5 a64_56 a64_6 a64_7 a64_9
    refine wpF_cut (fun f H => f 1 = PT g1 0 ∧ f 4 = vX ∧ f 5 = vY ∧ f 6 = vM2 ∧ f 7 = I ((n : Int)) ∧ H63 = H) ?_ ?_
    · refine wpF_region ?_
      refine wpL_q (U := NoB) rfl (q_move (v := vY) rfl a152_10) ?_
      refine wpL_q (U := NoB) rfl (q_assign (v := vY) rfl rfl) ?_
      exact ⟨a152_1, a152_4, rfl, a152_6, a152_7, rfl⟩
    rintro f153 _ ⟨a153_1, a153_4, a153_5, a153_6, a153_7, rfl⟩
    clear a152_1 a152_10 a152_4 a152_6 a152_7
    refine wpF_cut (fun f H => f 1 = PT g1 0 ∧ f 4 = vX ∧ f 5 = vY ∧ f 6 = vM2 ∧ f 7 = I ((n : Int) + 1) ∧ H63 = H) ?_ ?_
    · refine wpF_region ?_
      refine wpL_q (U := NoB) rfl (q_move (v := I ((n : Int))) rfl a153_7) ?_
      refine wpL_q (U := NoB) rfl (q_add rfl rfl rfl (by constructor <;> omega)) ?_
      refine wpL_q (U := NoB) rfl (q_assign (v := I ((n : Int) + 1)) rfl rfl) ?_
      exact ⟨a153_1, a153_4, a153_5, a153_6, rfl, rfl⟩
    rintro f154 _ ⟨a154_1, a154_4, a154_5, a154_6, a154_7, rfl⟩
    clear a153_1 a153_4 a153_5 a153_6 a153_7
    refine ⟨_, ?_, n + 1, DD ++ WW, NN, vX, vY, vM2, rfl, (by omega), hR4, a154_1, a154_4, a154_5, a154_6, (Eq.trans a154_7 (congrArg I (by omega))), (St.drop (show St H0 NoB (fun b => S b ∧ b < H0.size) [rowE 3 vM2 (codes (DD ++ WW) : List Int), rowE 29 vX (nowsL NN : List (List Bool)), rowE 3 vZ (codes NN : List Int), rowE 22 vY (plansL NN : List (List Int)), rowE 29 vN (nowsL WW : List (List Bool)), rowE 22 vP (plansL WW : List (List Int)), blkE g1 (.cells #[I (q.Facts), vf, vg, va] 25), rdE vf q.First, rdE vg q.Goal, rdE va q.Acts] H63 from ((hS63.front 2 rfl).front 3 rfl)) (sk (sk (sn (sk (sn (sn (sk (sk (sk (sk (List.Sublist.slnil))))))))))))⟩
    omega
  have haw : a < WW.length := by rw [nowsL_len] at h56; omega
  have hpw := plansL_len (E := WW)
  refine wpF_skip ?_
  refine wpF_seq ?_
  refine wpF_block ?_
  refine wpF_seq ?_
  refine wpF_cut (fun f H => f 1 = PT g1 0 ∧ f 4 = vN ∧ f 5 = vP ∧ f 6 = vM2 ∧ f 7 = I ((n : Int)) ∧ f 9 = vX ∧ f 10 = vY ∧ f 11 = vZ ∧ f 12 = I ((a : Int)) ∧ f 13 = I (0) ∧ H63 = H) ?_ ?_
  · refine wpF_region ?_
    refine wpL_q (U := NoB) rfl (q_assign (v := I (0)) rfl rfl) ?_
    exact ⟨a64_1, a64_4, a64_5, a64_6, a64_7, a64_9, a64_10, a64_11, a64_12, rfl, rfl⟩
  rintro f66 _ ⟨a66_1, a66_4, a66_5, a66_6, a66_7, a66_9, a66_10, a66_11, a66_12, a66_13, rfl⟩
  clear a64_1 a64_10 a64_11 a64_12 a64_4 a64_5 a64_56 a64_6 a64_7 a64_9
  refine wpF_block ?_
  refine wpF_loop (fun mz f H => ∃ (k : Nat), ∃ (NM : List (List Bool × List Int)), ∃ (vX2 : Value), ∃ (vY2 : Value), ∃ (vZ2 : Value), mz = q.Acts.length - k ∧ (k ≤ q.Acts.length) ∧ (Rnd q DD WW NM n a k) ∧ f 1 = PT g1 0 ∧ f 4 = vN ∧ f 5 = vP ∧ f 6 = vM2 ∧ f 7 = I ((n : Int)) ∧ f 9 = vX2 ∧ f 10 = vY2 ∧ f 11 = vZ2 ∧ f 12 = I ((a : Int)) ∧ f 13 = I ((k : Int)) ∧ St H0 NoB (fun b => S b ∧ b < H0.size) [rowE 3 vZ2 (codes NM : List Int), rowE 22 vY2 (plansL NM : List (List Int)), rowE 29 vX2 (nowsL NM : List (List Bool)), rowE 3 vM2 (codes (DD ++ WW) : List Int), rowE 29 vN (nowsL WW : List (List Bool)), rowE 22 vP (plansL WW : List (List Int)), blkE g1 (.cells #[I (q.Facts), vf, vg, va] 25), rdE vf q.First, rdE vg q.Goal, rdE va q.Acts] H) (q.Acts.length - 0) ?_ ?_
  · exact ⟨0, NN, vX, vY, vZ, rfl, Nat.zero_le _, hR1, a66_1, a66_4, a66_5, a66_6, a66_7, a66_9, a66_10, a66_11, a66_12, (Eq.trans a66_13 (congrArg I (by omega))), hS63⟩
  intro m67 f67 H67 hI67
  obtain ⟨k, NM, vX2, vY2, vZ2, hm67, hk, hR2, a67_1, a67_4, a67_5, a67_6, a67_7, a67_9, a67_10, a67_11, a67_12, a67_13, hS67⟩ := hI67
  clear a66_1 a66_10 a66_11 a66_12 a66_13 a66_4 a66_5 a66_6 a66_7 a66_9
  refine wpF_seq ?_
  refine wpF_seq ?_
  refine wpF_cut (fun f H => f 1 = PT g1 0 ∧ f 4 = vN ∧ f 5 = vP ∧ f 6 = vM2 ∧ f 7 = I ((n : Int)) ∧ f 9 = vX2 ∧ f 10 = vY2 ∧ f 11 = vZ2 ∧ f 12 = I ((a : Int)) ∧ f 13 = I ((k : Int)) ∧ f 63 = B (decide ((k : Int) < (q.Acts.length : Int))) ∧ H67 = H) ?_ ?_
  · refine wpF_region ?_
    refine wpL_q (U := NoB) rfl (q_move (v := I ((k : Int))) rfl a67_13) ?_
    refine wpL_q (U := NoB) rfl (q_fieldAddr rfl Try.underlying25 rfl Try.sizeOf23 a67_1) ?_
    refine wpL_q (U := NoB) rfl (q_loadBlk rfl rfl Try.isAgg23 (hS67.blk 6 rfl) rfl (fun h => h)) ?_
    refine wpL_q (U := NoB) rfl (q_lenRd rfl Try.underlying23 rfl (hS67.rdl 9 rfl)) ?_
    refine wpL_q (U := NoB) rfl (q_lss rfl rfl rfl) ?_
    exact ⟨a67_1, a67_4, a67_5, a67_6, a67_7, a67_9, a67_10, a67_11, a67_12, a67_13, rfl, rfl⟩
  rintro f68 _ ⟨a68_1, a68_4, a68_5, a68_6, a68_7, a68_9, a68_10, a68_11, a68_12, a68_13, a68_63, rfl⟩
  clear a67_1 a67_10 a67_11 a67_12 a67_13 a67_4 a67_5 a67_6 a67_7 a67_9
  refine wpF_condP a68_63 (fun h63 => ?t151) (fun h63 => ?e151)
  case e151 =>
    have hR3 := hR2.turn haw (by omega)
    refine wpF_exit ?_
    refine atX_here ?_
    refine wpF_cut (fun f H => f 1 = PT g1 0 ∧ f 4 = vN ∧ f 5 = vP ∧ f 6 = vM2 ∧ f 7 = I ((n : Int)) ∧ f 9 = vX2 ∧ f 10 = vY2 ∧ f 11 = vZ2 ∧ f 12 = I ((a : Int) + 1) ∧ H67 = H) ?_ ?_
    · refine wpF_region ?_
      refine wpL_q (U := NoB) rfl (q_move (v := I ((a : Int))) rfl a68_12) ?_
      refine wpL_q (U := NoB) rfl (q_add rfl rfl rfl (by constructor <;> omega)) ?_
      refine wpL_q (U := NoB) rfl (q_assign (v := I ((a : Int) + 1)) rfl rfl) ?_
      exact ⟨a68_1, a68_4, a68_5, a68_6, a68_7, a68_9, a68_10, a68_11, rfl, rfl⟩
    rintro f150 _ ⟨a150_1, a150_4, a150_5, a150_6, a150_7, a150_9, a150_10, a150_11, a150_12, rfl⟩
    clear a68_1 a68_10 a68_11 a68_12 a68_13 a68_4 a68_5 a68_6 a68_63 a68_7 a68_9
    refine ⟨_, ?_, a + 1, NM, vX2, vY2, vZ2, rfl, (by omega), hR3, a150_1, a150_4, a150_5, a150_6, a150_7, a150_9, a150_10, a150_11, (Eq.trans a150_12 (congrArg I (by omega))), hS67⟩
    omega
  have hkq : k < q.Acts.length := by omega
  have hf2 := hR2.few hQ
  have hnl := nowsL_len (E := NM)
  have hpl := plansL_len (E := NM)
  have hcl := codes_len (E := NM)
  have hpn := hR2.plen haw
  have hpn2 : (nth (plansL WW) a).length = n := by rw [plansL_nth haw]; exact hpn
  refine wpF_skip ?_
  refine wpF_seq ?_
  refine wpF_block ?_
  refine wpF_seq ?_
  refine wpF_seq ?_
  refine wpF_cut (fun f H => f 1 = PT g1 0 ∧ f 4 = vN ∧ f 5 = vP ∧ f 6 = vM2 ∧ f 7 = I ((n : Int)) ∧ f 9 = vX2 ∧ f 10 = vY2 ∧ f 11 = vZ2 ∧ f 12 = I ((a : Int)) ∧ f 13 = I ((k : Int)) ∧ f 76 = B (!(canA (nth q.Acts k) (nth (nowsL WW) a))) ∧ St H0 NoB (fun b => S b ∧ b < H0.size) [rowE 3 vZ2 (codes NM : List Int), rowE 22 vY2 (plansL NM : List (List Int)), rowE 29 vX2 (nowsL NM : List (List Bool)), rowE 3 vM2 (codes (DD ++ WW) : List Int), rowE 29 vN (nowsL WW : List (List Bool)), rowE 22 vP (plansL WW : List (List Int)), blkE g1 (.cells #[I (q.Facts), vf, vg, va] 25), rdE vf q.First, rdE vg q.Goal, rdE va q.Acts] H) ?_ ?_
  · refine wpF_drawn [] [] (fun _ _ => False) (by kernel_rfl) (by kernel_rfl) ?_
    refine wpR_q 0 (by kernel_rfl) rfl (quietAt rfl rfl (q_fieldAddr rfl Try.underlying25 rfl Try.sizeOf23 a68_1)) ?_
    refine wpR_q 1 (by kernel_rfl) rfl (quietAt rfl rfl (q_loadBlk rfl rfl Try.isAgg23 (hS67.blk 6 rfl) rfl (labU_not [] rfl (List.forall_mem_nil _)))) ?_
    refine wpR_q 2 (by kernel_rfl) rfl (quietAt rfl rfl (q_move (v := I ((k : Int))) rfl a68_13)) ?_
    refine wpR_q 3 (by kernel_rfl) rfl (quietAt rfl rfl (q_indexRd (k := k) rfl Try.underlying23 el_Act_37_PlanR1 rfl rfl (hS67.rdl 9 rfl) (by omega) (by omega))) ?_
    obtain ⟨u70o4, huu70o4, hlu70o4⟩ := (Rd.list.1 (hS67.rdS 9 rfl)).elem k (by omega)
    obtain ⟨u70o4n0, u70o4n1, u70o4n2, u70o4n3, rfl, hu70o40, hu70o41, hu70o42, hu70o43⟩ := Rd.act.1 huu70o4
    have hS70o4 : St H0 NoB (fun b => S b ∧ b < H0.size) [rdE u70o4n0 ((nth q.Acts k).Need), rowE 3 vZ2 (codes NM : List Int), rowE 22 vY2 (plansL NM : List (List Int)), rowE 29 vX2 (nowsL NM : List (List Bool)), rowE 3 vM2 (codes (DD ++ WW) : List Int), rowE 29 vN (nowsL WW : List (List Bool)), rowE 22 vP (plansL WW : List (List Int)), blkE g1 (.cells #[I (q.Facts), vf, vg, va] 25), rdE vf q.First, rdE vg q.Goal, rdE va q.Acts] H67 := hS67.rd hu70o40
    have hS70o4x2 : St H0 NoB (fun b => S b ∧ b < H0.size) [rdE u70o4n1 ((nth q.Acts k).Bar), rdE u70o4n0 ((nth q.Acts k).Need), rowE 3 vZ2 (codes NM : List Int), rowE 22 vY2 (plansL NM : List (List Int)), rowE 29 vX2 (nowsL NM : List (List Bool)), rowE 3 vM2 (codes (DD ++ WW) : List Int), rowE 29 vN (nowsL WW : List (List Bool)), rowE 22 vP (plansL WW : List (List Int)), blkE g1 (.cells #[I (q.Facts), vf, vg, va] 25), rdE vf q.First, rdE vg q.Goal, rdE va q.Acts] H67 := hS70o4.rd (hu70o41.sub fun _ hb => SL_rd hb)
    have hS70o4x3 : St H0 NoB (fun b => S b ∧ b < H0.size) [rdE u70o4n2 ((nth q.Acts k).Add), rdE u70o4n1 ((nth q.Acts k).Bar), rdE u70o4n0 ((nth q.Acts k).Need), rowE 3 vZ2 (codes NM : List Int), rowE 22 vY2 (plansL NM : List (List Int)), rowE 29 vX2 (nowsL NM : List (List Bool)), rowE 3 vM2 (codes (DD ++ WW) : List Int), rowE 29 vN (nowsL WW : List (List Bool)), rowE 22 vP (plansL WW : List (List Int)), blkE g1 (.cells #[I (q.Facts), vf, vg, va] 25), rdE vf q.First, rdE vg q.Goal, rdE va q.Acts] H67 := hS70o4x2.rd (hu70o42.sub fun _ hb => SL_rd (SL_rd (hb)))
    have hS70o4x4 : St H0 NoB (fun b => S b ∧ b < H0.size) [rdE u70o4n3 ((nth q.Acts k).Drop), rdE u70o4n2 ((nth q.Acts k).Add), rdE u70o4n1 ((nth q.Acts k).Bar), rdE u70o4n0 ((nth q.Acts k).Need), rowE 3 vZ2 (codes NM : List Int), rowE 22 vY2 (plansL NM : List (List Int)), rowE 29 vX2 (nowsL NM : List (List Bool)), rowE 3 vM2 (codes (DD ++ WW) : List Int), rowE 29 vN (nowsL WW : List (List Bool)), rowE 22 vP (plansL WW : List (List Int)), blkE g1 (.cells #[I (q.Facts), vf, vg, va] 25), rdE vf q.First, rdE vg q.Goal, rdE va q.Acts] H67 := hS70o4x3.rd (hu70o43.sub fun _ hb => SL_rd (SL_rd (SL_rd (hb))))
    refine wpR_q 4 (by kernel_rfl) rfl (quietAt rfl rfl (q_loadE rfl rfl (hlu70o4 Try.prog 37 _ el_Act_37_PlanR1 (labU_sub [] rfl (List.forall_mem_nil _))))) ?_
    refine wpR_q 5 (by kernel_rfl) rfl (quietAt rfl rfl (q_move (v := vN) rfl a68_4)) ?_
    refine wpR_q 6 (by kernel_rfl) rfl (quietAt rfl rfl (q_move (v := I ((a : Int))) rfl a68_12)) ?_
    refine wpR_q 7 (by kernel_rfl) rfl (quietAt rfl rfl (q_indexRd (k := a) rfl Try.underlying77 el_LBool_29_PlanR1 rfl rfl (hS70o4x4.rowl 8 rfl) (by omega) (by omega))) ?_
    obtain ⟨u70o8, huu70o8, hlu70o8⟩ := hS70o4x4.rowElem 8 rfl a (by omega)
    have hS70o8 : St H0 NoB (fun b => S b ∧ b < H0.size) [rdE u70o8 (nth (nowsL WW) a), rdE u70o4n3 ((nth q.Acts k).Drop), rdE u70o4n2 ((nth q.Acts k).Add), rdE u70o4n1 ((nth q.Acts k).Bar), rdE u70o4n0 ((nth q.Acts k).Need), rowE 3 vZ2 (codes NM : List Int), rowE 22 vY2 (plansL NM : List (List Int)), rowE 29 vX2 (nowsL NM : List (List Bool)), rowE 3 vM2 (codes (DD ++ WW) : List Int), rowE 29 vN (nowsL WW : List (List Bool)), rowE 22 vP (plansL WW : List (List Int)), blkE g1 (.cells #[I (q.Facts), vf, vg, va] 25), rdE vf q.First, rdE vg q.Goal, rdE va q.Acts] H67 := hS70o4x4.rd huu70o8
    refine wpR_q 8 (by kernel_rfl) rfl (quietAt rfl rfl (q_loadE rfl rfl (hlu70o8 Try.prog 29 _ el_LBool_29_PlanR1 (labU_sub [] rfl (List.forall_mem_nil _))))) ?_
    refine wpR_n [9] (by kernel_rfl) ?_
    refine List.forall_mem_cons.2 ⟨?_, List.forall_mem_nil _⟩
    refine exE rfl rfl ?_
    refine e_call rfl Try.call18 (arr2 (v0 := Value.agg #[u70o4n0, u70o4n1, u70o4n2, u70o4n3]) (v1 := u70o8) rfl rfl) (Can_R u70o4n0 u70o4n1 u70o4n2 u70o4n3 u70o8 (nth q.Acts k) (nth (nowsL WW) a) (hS70o8.rdN 4 rfl) (hS70o8.rdN 3 rfl) (hS70o8.rdN 2 rfl) (hS70o8.rdN 1 rfl) (hS70o8.rdN 0 rfl) ) ?_
    rintro _ H70o9 ⟨hxx, rfl⟩
    have hS70o9 : St H0 NoB (fun b => S b ∧ b < H0.size) [rdE u70o8 (nth (nowsL WW) a), rdE u70o4n3 ((nth q.Acts k).Drop), rdE u70o4n2 ((nth q.Acts k).Add), rdE u70o4n1 ((nth q.Acts k).Bar), rdE u70o4n0 ((nth q.Acts k).Need), rowE 3 vZ2 (codes NM : List Int), rowE 22 vY2 (plansL NM : List (List Int)), rowE 29 vX2 (nowsL NM : List (List Bool)), rowE 3 vM2 (codes (DD ++ WW) : List Int), rowE 29 vN (nowsL WW : List (List Bool)), rowE 22 vP (plansL WW : List (List Int)), blkE g1 (.cells #[I (q.Facts), vf, vg, va] 25), rdE vf q.First, rdE vg q.Goal, rdE va q.Acts] H70o9 := hS70o8.ext hxx
    refine ⟨Ext.mono hxx (fun _ h => h.elim), ?_⟩
    refine wpR_q 10 (by kernel_rfl) rfl (quietAt rfl rfl (q_not rfl rfl)) ?_
    refine wpR_end (by kernel_rfl) ?_
    exact ⟨a68_1, a68_4, a68_5, a68_6, a68_7, a68_9, a68_10, a68_11, a68_12, a68_13, rfl, (hS70o9.drop (sn (sn (sn (sn (sn (sk (sk (sk (sk (sk (sk (sk (sk (sk (sk (List.Sublist.slnil)))))))))))))))))⟩
  rintro f71 H71 ⟨a71_1, a71_4, a71_5, a71_6, a71_7, a71_9, a71_10, a71_11, a71_12, a71_13, a71_76, hS71⟩
  clear a68_1 a68_10 a68_11 a68_12 a68_13 a68_4 a68_5 a68_6 a68_63 a68_7 a68_9
  refine wpF_cond a71_76 (fun h76 => ?t149) (fun h76 => ?e149)
  case t149 =>
    have hR5 := hR2.cant haw hkq (by rw [nowsL_nth haw] at h76; simpa using h76)
    refine wpF_exit ?_
    refine atX_here ?_
    refine wpF_cut (fun f H => f 1 = PT g1 0 ∧ f 4 = vN ∧ f 5 = vP ∧ f 6 = vM2 ∧ f 7 = I ((n : Int)) ∧ f 9 = vX2 ∧ f 10 = vY2 ∧ f 11 = vZ2 ∧ f 12 = I ((a : Int)) ∧ f 13 = I ((k : Int) + 1) ∧ H71 = H) ?_ ?_
    · refine wpF_region ?_
      refine wpL_q (U := NoB) rfl (q_move (v := I ((k : Int))) rfl a71_13) ?_
      refine wpL_q (U := NoB) rfl (q_add rfl rfl rfl (by constructor <;> omega)) ?_
      refine wpL_q (U := NoB) rfl (q_assign (v := I ((k : Int) + 1)) rfl rfl) ?_
      exact ⟨a71_1, a71_4, a71_5, a71_6, a71_7, a71_9, a71_10, a71_11, a71_12, rfl, rfl⟩
    rintro f73 _ ⟨a73_1, a73_4, a73_5, a73_6, a73_7, a73_9, a73_10, a73_11, a73_12, a73_13, rfl⟩
    clear a71_1 a71_10 a71_11 a71_12 a71_13 a71_4 a71_5 a71_6 a71_7 a71_76 a71_9
    refine ⟨_, ?_, k + 1, NM, vX2, vY2, vZ2, rfl, (by omega), hR5, a73_1, a73_4, a73_5, a73_6, a73_7, a73_9, a73_10, a73_11, a73_12, (Eq.trans a73_13 (congrArg I (by omega))), hS71⟩
    omega
  have hcan : canA (nth q.Acts k) (nth WW a).1 = true := by rw [nowsL_nth haw] at h76; simpa using h76
  refine wpF_skip ?_
  refine wpF_seq ?_
  refine wpF_cut (fun f H => ∃ (r74o9 : Value), f 1 = PT g1 0 ∧ f 4 = vN ∧ f 5 = vP ∧ f 6 = vM2 ∧ f 7 = I ((n : Int)) ∧ f 9 = vX2 ∧ f 10 = vY2 ∧ f 11 = vZ2 ∧ f 12 = I ((a : Int)) ∧ f 13 = I ((k : Int)) ∧ f 14 = r74o9 ∧ St H0 NoB (fun b => S b ∧ b < H0.size) [rdE r74o9 (afterA (nth q.Acts k) (nth (nowsL WW) a)), rowE 3 vZ2 (codes NM : List Int), rowE 22 vY2 (plansL NM : List (List Int)), rowE 29 vX2 (nowsL NM : List (List Bool)), rowE 3 vM2 (codes (DD ++ WW) : List Int), rowE 29 vN (nowsL WW : List (List Bool)), rowE 22 vP (plansL WW : List (List Int)), blkE g1 (.cells #[I (q.Facts), vf, vg, va] 25), rdE vf q.First, rdE vg q.Goal, rdE va q.Acts] H) ?_ ?_
  · refine wpF_drawn [] [] (fun _ _ => False) (by kernel_rfl) (by kernel_rfl) ?_
    refine wpR_q 0 (by kernel_rfl) rfl (quietAt rfl rfl (q_fieldAddr rfl Try.underlying25 rfl Try.sizeOf23 a71_1)) ?_
    refine wpR_q 1 (by kernel_rfl) rfl (quietAt rfl rfl (q_loadBlk rfl rfl Try.isAgg23 (hS71.blk 6 rfl) rfl (labU_not [] rfl (List.forall_mem_nil _)))) ?_
    refine wpR_q 2 (by kernel_rfl) rfl (quietAt rfl rfl (q_move (v := I ((k : Int))) rfl a71_13)) ?_
    refine wpR_q 3 (by kernel_rfl) rfl (quietAt rfl rfl (q_indexRd (k := k) rfl Try.underlying23 el_Act_37_PlanR1 rfl rfl (hS71.rdl 9 rfl) (by omega) (by omega))) ?_
    obtain ⟨u74o4, huu74o4, hlu74o4⟩ := (Rd.list.1 (hS71.rdS 9 rfl)).elem k (by omega)
    obtain ⟨u74o4n0, u74o4n1, u74o4n2, u74o4n3, rfl, hu74o40, hu74o41, hu74o42, hu74o43⟩ := Rd.act.1 huu74o4
    have hS74o4 : St H0 NoB (fun b => S b ∧ b < H0.size) [rdE u74o4n0 ((nth q.Acts k).Need), rowE 3 vZ2 (codes NM : List Int), rowE 22 vY2 (plansL NM : List (List Int)), rowE 29 vX2 (nowsL NM : List (List Bool)), rowE 3 vM2 (codes (DD ++ WW) : List Int), rowE 29 vN (nowsL WW : List (List Bool)), rowE 22 vP (plansL WW : List (List Int)), blkE g1 (.cells #[I (q.Facts), vf, vg, va] 25), rdE vf q.First, rdE vg q.Goal, rdE va q.Acts] H71 := hS71.rd hu74o40
    have hS74o4x2 : St H0 NoB (fun b => S b ∧ b < H0.size) [rdE u74o4n1 ((nth q.Acts k).Bar), rdE u74o4n0 ((nth q.Acts k).Need), rowE 3 vZ2 (codes NM : List Int), rowE 22 vY2 (plansL NM : List (List Int)), rowE 29 vX2 (nowsL NM : List (List Bool)), rowE 3 vM2 (codes (DD ++ WW) : List Int), rowE 29 vN (nowsL WW : List (List Bool)), rowE 22 vP (plansL WW : List (List Int)), blkE g1 (.cells #[I (q.Facts), vf, vg, va] 25), rdE vf q.First, rdE vg q.Goal, rdE va q.Acts] H71 := hS74o4.rd (hu74o41.sub fun _ hb => SL_rd hb)
    have hS74o4x3 : St H0 NoB (fun b => S b ∧ b < H0.size) [rdE u74o4n2 ((nth q.Acts k).Add), rdE u74o4n1 ((nth q.Acts k).Bar), rdE u74o4n0 ((nth q.Acts k).Need), rowE 3 vZ2 (codes NM : List Int), rowE 22 vY2 (plansL NM : List (List Int)), rowE 29 vX2 (nowsL NM : List (List Bool)), rowE 3 vM2 (codes (DD ++ WW) : List Int), rowE 29 vN (nowsL WW : List (List Bool)), rowE 22 vP (plansL WW : List (List Int)), blkE g1 (.cells #[I (q.Facts), vf, vg, va] 25), rdE vf q.First, rdE vg q.Goal, rdE va q.Acts] H71 := hS74o4x2.rd (hu74o42.sub fun _ hb => SL_rd (SL_rd (hb)))
    have hS74o4x4 : St H0 NoB (fun b => S b ∧ b < H0.size) [rdE u74o4n3 ((nth q.Acts k).Drop), rdE u74o4n2 ((nth q.Acts k).Add), rdE u74o4n1 ((nth q.Acts k).Bar), rdE u74o4n0 ((nth q.Acts k).Need), rowE 3 vZ2 (codes NM : List Int), rowE 22 vY2 (plansL NM : List (List Int)), rowE 29 vX2 (nowsL NM : List (List Bool)), rowE 3 vM2 (codes (DD ++ WW) : List Int), rowE 29 vN (nowsL WW : List (List Bool)), rowE 22 vP (plansL WW : List (List Int)), blkE g1 (.cells #[I (q.Facts), vf, vg, va] 25), rdE vf q.First, rdE vg q.Goal, rdE va q.Acts] H71 := hS74o4x3.rd (hu74o43.sub fun _ hb => SL_rd (SL_rd (SL_rd (hb))))
    refine wpR_q 4 (by kernel_rfl) rfl (quietAt rfl rfl (q_loadE rfl rfl (hlu74o4 Try.prog 37 _ el_Act_37_PlanR1 (labU_sub [] rfl (List.forall_mem_nil _))))) ?_
    refine wpR_q 5 (by kernel_rfl) rfl (quietAt rfl rfl (q_move (v := vN) rfl a71_4)) ?_
    refine wpR_q 6 (by kernel_rfl) rfl (quietAt rfl rfl (q_move (v := I ((a : Int))) rfl a71_12)) ?_
    refine wpR_q 7 (by kernel_rfl) rfl (quietAt rfl rfl (q_indexRd (k := a) rfl Try.underlying77 el_LBool_29_PlanR1 rfl rfl (hS74o4x4.rowl 8 rfl) (by omega) (by omega))) ?_
    obtain ⟨u74o8, huu74o8, hlu74o8⟩ := hS74o4x4.rowElem 8 rfl a (by omega)
    have hS74o8 : St H0 NoB (fun b => S b ∧ b < H0.size) [rdE u74o8 (nth (nowsL WW) a), rdE u74o4n3 ((nth q.Acts k).Drop), rdE u74o4n2 ((nth q.Acts k).Add), rdE u74o4n1 ((nth q.Acts k).Bar), rdE u74o4n0 ((nth q.Acts k).Need), rowE 3 vZ2 (codes NM : List Int), rowE 22 vY2 (plansL NM : List (List Int)), rowE 29 vX2 (nowsL NM : List (List Bool)), rowE 3 vM2 (codes (DD ++ WW) : List Int), rowE 29 vN (nowsL WW : List (List Bool)), rowE 22 vP (plansL WW : List (List Int)), blkE g1 (.cells #[I (q.Facts), vf, vg, va] 25), rdE vf q.First, rdE vg q.Goal, rdE va q.Acts] H71 := hS74o4x4.rd huu74o8
    refine wpR_q 8 (by kernel_rfl) rfl (quietAt rfl rfl (q_loadE rfl rfl (hlu74o8 Try.prog 29 _ el_LBool_29_PlanR1 (labU_sub [] rfl (List.forall_mem_nil _))))) ?_
    refine wpR_n [9] (by kernel_rfl) ?_
    refine List.forall_mem_cons.2 ⟨?_, List.forall_mem_nil _⟩
    refine exE rfl rfl ?_
    refine e_call rfl Try.call19 (arr2 (v0 := Value.agg #[u74o4n0, u74o4n1, u74o4n2, u74o4n3]) (v1 := u74o8) rfl rfl) (After_R u74o4n0 u74o4n1 u74o4n2 u74o4n3 u74o8 (nth q.Acts k) (nth (nowsL WW) a) (hS74o8.rdS 4 rfl) (hS74o8.rdS 3 rfl) (hS74o8.rdS 2 rfl) (hS74o8.rdS 1 rfl) (hS74o8.rdS 0 rfl) ) ?_
    rintro r74o9 H74o9 ⟨hxx, hrr74o9⟩
    have hS74o9 : St H0 NoB (fun b => S b ∧ b < H0.size) [rdE r74o9 (afterA (nth q.Acts k) (nth (nowsL WW) a)), rdE u74o8 (nth (nowsL WW) a), rdE u74o4n3 ((nth q.Acts k).Drop), rdE u74o4n2 ((nth q.Acts k).Add), rdE u74o4n1 ((nth q.Acts k).Bar), rdE u74o4n0 ((nth q.Acts k).Need), rowE 3 vZ2 (codes NM : List Int), rowE 22 vY2 (plansL NM : List (List Int)), rowE 29 vX2 (nowsL NM : List (List Bool)), rowE 3 vM2 (codes (DD ++ WW) : List Int), rowE 29 vN (nowsL WW : List (List Bool)), rowE 22 vP (plansL WW : List (List Int)), blkE g1 (.cells #[I (q.Facts), vf, vg, va] 25), rdE vf q.First, rdE vg q.Goal, rdE va q.Acts] H74o9 := hS74o8.res hxx hrr74o9
    refine ⟨Ext.mono hxx (fun _ h => h.elim), ?_⟩
    refine wpR_q 10 (by kernel_rfl) rfl (quietAt rfl rfl (q_assign (v := r74o9) rfl rfl)) ?_
    refine wpR_end (by kernel_rfl) ?_
    exact ⟨r74o9, a71_1, a71_4, a71_5, a71_6, a71_7, a71_9, a71_10, a71_11, a71_12, a71_13, rfl, (hS74o9.drop (sk (sn (sn (sn (sn (sn (sk (sk (sk (sk (sk (sk (sk (sk (sk (sk (List.Sublist.slnil))))))))))))))))))⟩
  rintro f75 H75 ⟨r74o9, a75_1, a75_4, a75_5, a75_6, a75_7, a75_9, a75_10, a75_11, a75_12, a75_13, a75_14, hS75⟩
  clear a71_1 a71_10 a71_11 a71_12 a71_13 a71_4 a71_5 a71_6 a71_7 a71_76 a71_9
  have hS76 : St H0 NoB (fun b => S b ∧ b < H0.size) [rdE r74o9 (afterA (nth q.Acts k) (nth WW a).1), rowE 3 vZ2 (codes NM : List Int), rowE 22 vY2 (plansL NM : List (List Int)), rowE 29 vX2 (nowsL NM : List (List Bool)), rowE 3 vM2 (codes (DD ++ WW) : List Int), rowE 29 vN (nowsL WW : List (List Bool)), rowE 22 vP (plansL WW : List (List Int)), blkE g1 (.cells #[I (q.Facts), vf, vg, va] 25), rdE vf q.First, rdE vg q.Goal, rdE va q.Acts] H75 := by have h__ := hS75; rw [nowsL_nth haw] at h__; exact h__
  refine wpF_seq ?_
  refine wpF_seq ?_
  refine wpF_cut (fun f H => f 1 = PT g1 0 ∧ f 4 = vN ∧ f 5 = vP ∧ f 6 = vM2 ∧ f 7 = I ((n : Int)) ∧ f 9 = vX2 ∧ f 10 = vY2 ∧ f 11 = vZ2 ∧ f 12 = I ((a : Int)) ∧ f 13 = I ((k : Int)) ∧ f 14 = r74o9 ∧ f 96 = B (decide (((hasB (codes (DD ++ WW)) ((codeA (afterA (nth q.Acts k) (nth WW a).1) : Nat) : Int)) = true) ∨ ((hasB (codes NM) ((codeA (afterA (nth q.Acts k) (nth WW a).1) : Nat) : Int)) = true))) ∧ St H0 NoB (fun b => S b ∧ b < H0.size) [rdE r74o9 (afterA (nth q.Acts k) (nth WW a).1), rowE 3 vZ2 (codes NM : List Int), rowE 22 vY2 (plansL NM : List (List Int)), rowE 29 vX2 (nowsL NM : List (List Bool)), rowE 3 vM2 (codes (DD ++ WW) : List Int), rowE 29 vN (nowsL WW : List (List Bool)), rowE 22 vP (plansL WW : List (List Int)), blkE g1 (.cells #[I (q.Facts), vf, vg, va] 25), rdE vf q.First, rdE vg q.Goal, rdE va q.Acts] H) ?_ ?_
  · refine wpF_region ?_
    refine wpL_q (U := NoB) rfl (q_move (v := vM2) rfl a75_6) ?_
    refine wpL_q (U := NoB) rfl (q_move (v := r74o9) rfl a75_14) ?_
    refine wpL_o rfl ?_
    refine e_call rfl Try.call49 (arr1 (v0 := r74o9) rfl) (Code_R r74o9 (afterA (nth q.Acts k) (nth WW a).1) (hS76.rdN 0 rfl) (by rw [afterA_len, hR2.lens haw]; omega)) ?_
    rintro _ H77 ⟨hxx, rfl⟩
    have hS78 : St H0 NoB (fun b => S b ∧ b < H0.size) [rdE r74o9 (afterA (nth q.Acts k) (nth WW a).1), rowE 3 vZ2 (codes NM : List Int), rowE 22 vY2 (plansL NM : List (List Int)), rowE 29 vX2 (nowsL NM : List (List Bool)), rowE 3 vM2 (codes (DD ++ WW) : List Int), rowE 29 vN (nowsL WW : List (List Bool)), rowE 22 vP (plansL WW : List (List Int)), blkE g1 (.cells #[I (q.Facts), vf, vg, va] 25), rdE vf q.First, rdE vg q.Goal, rdE va q.Acts] H77 := hS76.ext hxx
    refine wpL_o rfl ?_
    refine e_call rfl Try.call41 (arr2 (v0 := vM2) (v1 := I (((codeA (afterA (nth q.Acts k) (nth WW a).1) : Nat) : Int))) rfl rfl) (Has_R vM2 (codes (DD ++ WW)) ((codeA (afterA (nth q.Acts k) (nth WW a).1) : Nat) : Int) (hS78.rowN 4 rfl) ) ?_
    rintro _ H80 ⟨hxx, rfl⟩
    have hS81 : St H0 NoB (fun b => S b ∧ b < H0.size) [rdE r74o9 (afterA (nth q.Acts k) (nth WW a).1), rowE 3 vZ2 (codes NM : List Int), rowE 22 vY2 (plansL NM : List (List Int)), rowE 29 vX2 (nowsL NM : List (List Bool)), rowE 3 vM2 (codes (DD ++ WW) : List Int), rowE 29 vN (nowsL WW : List (List Bool)), rowE 22 vP (plansL WW : List (List Int)), blkE g1 (.cells #[I (q.Facts), vf, vg, va] 25), rdE vf q.First, rdE vg q.Goal, rdE va q.Acts] H80 := hS78.ext hxx
    refine wpL_q (U := NoB) rfl (q_move (v := B (hasB (codes (DD ++ WW)) ((codeA (afterA (nth q.Acts k) (nth WW a).1) : Nat) : Int))) rfl rfl) ?_
    by_cases hg83 : (hasB (codes (DD ++ WW)) ((codeA (afterA (nth q.Acts k) (nth WW a).1) : Nat) : Int)) = true
    · have hb84 := Eq.trans rfl (congrArg B hg83)
      refine wpL_gs rfl rfl rfl hb84 rfl ?_
      refine wpL_gs rfl rfl rfl hb84 rfl ?_
      refine wpL_gs rfl rfl rfl hb84 rfl ?_
      refine wpL_gs rfl rfl rfl hb84 rfl ?_
      refine wpL_q (U := NoB) rfl (q_pickT (v := B (true)) rfl hb84 rfl) ?_
      exact ⟨a75_1, a75_4, a75_5, a75_6, a75_7, a75_9, a75_10, a75_11, a75_12, a75_13, a75_14, (Eq.trans rfl (congrArg B ((decide_eq_true (Or.inl hg83)).symm))), hS81⟩
    · have hb85 := Eq.trans rfl (congrArg B (Bool.eq_false_iff.2 hg83))
      refine wpL_gq (U := NoB) rfl rfl rfl hb85 (q_move (v := vZ2) rfl a75_11) ?_
      refine wpL_gq (U := NoB) rfl rfl rfl hb85 (q_move (v := r74o9) rfl a75_14) ?_
      refine wpL_go rfl rfl rfl hb85 ?_
      refine e_call rfl Try.call49 (arr1 (v0 := r74o9) rfl) (Code_R r74o9 (afterA (nth q.Acts k) (nth WW a).1) (hS81.rdN 0 rfl) (by rw [afterA_len, hR2.lens haw]; omega)) ?_
      rintro _ H86 ⟨hxx, rfl⟩
      have hS87 : St H0 NoB (fun b => S b ∧ b < H0.size) [rdE r74o9 (afterA (nth q.Acts k) (nth WW a).1), rowE 3 vZ2 (codes NM : List Int), rowE 22 vY2 (plansL NM : List (List Int)), rowE 29 vX2 (nowsL NM : List (List Bool)), rowE 3 vM2 (codes (DD ++ WW) : List Int), rowE 29 vN (nowsL WW : List (List Bool)), rowE 22 vP (plansL WW : List (List Int)), blkE g1 (.cells #[I (q.Facts), vf, vg, va] 25), rdE vf q.First, rdE vg q.Goal, rdE va q.Acts] H86 := hS81.ext hxx
      refine wpL_go rfl rfl rfl hb85 ?_
      refine e_call rfl Try.call41 (arr2 (v0 := vZ2) (v1 := I (((codeA (afterA (nth q.Acts k) (nth WW a).1) : Nat) : Int))) rfl rfl) (Has_R vZ2 (codes NM) ((codeA (afterA (nth q.Acts k) (nth WW a).1) : Nat) : Int) (hS87.rowN 1 rfl) ) ?_
      rintro _ H89 ⟨hxx, rfl⟩
      have hS90 : St H0 NoB (fun b => S b ∧ b < H0.size) [rdE r74o9 (afterA (nth q.Acts k) (nth WW a).1), rowE 3 vZ2 (codes NM : List Int), rowE 22 vY2 (plansL NM : List (List Int)), rowE 29 vX2 (nowsL NM : List (List Bool)), rowE 3 vM2 (codes (DD ++ WW) : List Int), rowE 29 vN (nowsL WW : List (List Bool)), rowE 22 vP (plansL WW : List (List Int)), blkE g1 (.cells #[I (q.Facts), vf, vg, va] 25), rdE vf q.First, rdE vg q.Goal, rdE va q.Acts] H89 := hS87.ext hxx
      refine wpL_q (U := NoB) rfl (q_pickF (v := B (hasB (codes NM) ((codeA (afterA (nth q.Acts k) (nth WW a).1) : Nat) : Int))) rfl hb85 rfl) ?_
      exact ⟨a75_1, a75_4, a75_5, a75_6, a75_7, a75_9, a75_10, a75_11, a75_12, a75_13, a75_14, (Eq.trans rfl (congrArg B (bool_congr_of ((Iff.rfl).trans (((or_iff_right hg83).trans Iff.rfl)).symm)))), hS90⟩
  rintro f92 H92 ⟨a92_1, a92_4, a92_5, a92_6, a92_7, a92_9, a92_10, a92_11, a92_12, a92_13, a92_14, a92_96, hS92⟩
  clear a75_1 a75_10 a75_11 a75_12 a75_13 a75_14 a75_4 a75_5 a75_6 a75_7 a75_9
  refine wpF_condP a92_96 (fun h96 => ?t148) (fun h96 => ?e148)
  case t148 =>
    have hR5 := hR2.old haw hkq hcan ((hR2.has haw).1 h96)
    refine wpF_exit ?_
    refine atX_here ?_
    refine wpF_cut (fun f H => f 1 = PT g1 0 ∧ f 4 = vN ∧ f 5 = vP ∧ f 6 = vM2 ∧ f 7 = I ((n : Int)) ∧ f 9 = vX2 ∧ f 10 = vY2 ∧ f 11 = vZ2 ∧ f 12 = I ((a : Int)) ∧ f 13 = I ((k : Int) + 1) ∧ H92 = H) ?_ ?_
    · refine wpF_region ?_
      refine wpL_q (U := NoB) rfl (q_move (v := I ((k : Int))) rfl a92_13) ?_
      refine wpL_q (U := NoB) rfl (q_add rfl rfl rfl (by constructor <;> omega)) ?_
      refine wpL_q (U := NoB) rfl (q_assign (v := I ((k : Int) + 1)) rfl rfl) ?_
      exact ⟨a92_1, a92_4, a92_5, a92_6, a92_7, a92_9, a92_10, a92_11, a92_12, rfl, rfl⟩
    rintro f94 _ ⟨a94_1, a94_4, a94_5, a94_6, a94_7, a94_9, a94_10, a94_11, a94_12, a94_13, rfl⟩
    clear a92_1 a92_10 a92_11 a92_12 a92_13 a92_14 a92_4 a92_5 a92_6 a92_7 a92_9 a92_96
    refine ⟨_, ?_, k + 1, NM, vX2, vY2, vZ2, rfl, (by omega), hR5, a94_1, a94_4, a94_5, a94_6, a94_7, a94_9, a94_10, a94_11, a94_12, (Eq.trans a94_13 (congrArg I (by omega))), (hS92.drop (sn (sk (sk (sk (sk (sk (sk (sk (sk (sk (sk (List.Sublist.slnil)))))))))))))⟩
    omega
  have hca := codeA16 (now := afterA (nth q.Acts k) (nth WW a).1) (by rw [afterA_len, hR2.lens haw]; omega)
  have hR5 := hR2.new haw hkq (by omega) hcan (fun h => h96 ((hR2.has haw).2 h))
  refine wpF_skip ?_
  refine wpF_seq ?_
  refine wpF_cut (fun f H => ∃ (v103 : Value), f 1 = PT g1 0 ∧ f 4 = vN ∧ f 5 = vP ∧ f 6 = vM2 ∧ f 7 = I ((n : Int)) ∧ f 9 = vX2 ∧ f 10 = vY2 ∧ f 11 = v103 ∧ f 12 = I ((a : Int)) ∧ f 13 = I ((k : Int)) ∧ f 14 = r74o9 ∧ St H0 NoB (fun b => S b ∧ b < H0.size) [rowE 3 v103 (codes (NM ++ [(afterA (nth q.Acts k) (nth WW a).1, (nth WW a).2 ++ [(k : Int)])]) : List Int), rdE r74o9 (afterA (nth q.Acts k) (nth WW a).1), rowE 22 vY2 (plansL NM : List (List Int)), rowE 29 vX2 (nowsL NM : List (List Bool)), rowE 3 vM2 (codes (DD ++ WW) : List Int), rowE 29 vN (nowsL WW : List (List Bool)), rowE 22 vP (plansL WW : List (List Int)), blkE g1 (.cells #[I (q.Facts), vf, vg, va] 25), rdE vf q.First, rdE vg q.Goal, rdE va q.Acts] H) ?_ ?_
  · refine wpF_region ?_
    refine wpL_q (U := NoB) rfl (q_move (v := vZ2) rfl a92_11) ?_
    refine wpL_q (U := NoB) rfl (q_move (v := r74o9) rfl a92_14) ?_
    refine wpL_o rfl ?_
    refine e_call rfl Try.call49 (arr1 (v0 := r74o9) rfl) (Code_R r74o9 (afterA (nth q.Acts k) (nth WW a).1) (hS92.rdN 0 rfl) (by rw [afterA_len, hR2.lens haw]; omega)) ?_
    rintro _ H95 ⟨hxx, rfl⟩
    have hS96 : St H0 NoB (fun b => S b ∧ b < H0.size) [rdE r74o9 (afterA (nth q.Acts k) (nth WW a).1), rowE 3 vZ2 (codes NM : List Int), rowE 22 vY2 (plansL NM : List (List Int)), rowE 29 vX2 (nowsL NM : List (List Bool)), rowE 3 vM2 (codes (DD ++ WW) : List Int), rowE 29 vN (nowsL WW : List (List Bool)), rowE 22 vP (plansL WW : List (List Int)), blkE g1 (.cells #[I (q.Facts), vf, vg, va] 25), rdE vf q.First, rdE vg q.Goal, rdE va q.Acts] H95 := hS92.ext hxx
    refine wpL_o rfl ?_
    refine e_buildSlice (vs := [I (((codeA (afterA (nth q.Acts k) (nth WW a).1) : Nat) : Int))]) (xs := ([((codeA (afterA (nth q.Acts k) (nth WW a).1) : Nat) : Int)] : List Int)) rfl Try.underlying22 Try.zeroValue3 rfl Try.sizeOf3 (par1 (v0 := I (((codeA (afterA (nth q.Acts k) (nth WW a).1) : Nat) : Int))) rfl) rfl hS96 (RdVs.cons (Rd.int.2 ⟨rfl, by constructor <;> omega⟩) (RdVs.nil)) (by decide) (by decide) (fun v98 H99 hS100 hxx hvv98 => ?_)
    replace hS100 : St H0 NoB (fun b => S b ∧ b < H0.size) [rowE 3 v98 ([((codeA (afterA (nth q.Acts k) (nth WW a).1) : Nat) : Int)] : List Int), rdE r74o9 (afterA (nth q.Acts k) (nth WW a).1), rowE 3 vZ2 (codes NM : List Int), rowE 22 vY2 (plansL NM : List (List Int)), rowE 29 vX2 (nowsL NM : List (List Bool)), rowE 3 vM2 (codes (DD ++ WW) : List Int), rowE 29 vN (nowsL WW : List (List Bool)), rowE 22 vP (plansL WW : List (List Int)), blkE g1 (.cells #[I (q.Facts), vf, vg, va] 25), rdE vf q.First, rdE vg q.Goal, rdE va q.Acts] H99 := hS100
    have hS101 : St H0 NoB (fun b => S b ∧ b < H0.size) [rdE v98 ([((codeA (afterA (nth q.Acts k) (nth WW a).1) : Nat) : Int)] : List Int), rdE r74o9 (afterA (nth q.Acts k) (nth WW a).1), rowE 3 vZ2 (codes NM : List Int), rowE 22 vY2 (plansL NM : List (List Int)), rowE 29 vX2 (nowsL NM : List (List Bool)), rowE 3 vM2 (codes (DD ++ WW) : List Int), rowE 29 vN (nowsL WW : List (List Bool)), rowE 22 vP (plansL WW : List (List Int)), blkE g1 (.cells #[I (q.Facts), vf, vg, va] 25), rdE vf q.First, rdE vg q.Goal, rdE va q.Acts] H99 := St.fin hS100
    have hS102 : St H0 NoB (fun b => S b ∧ b < H0.size) [rowE 3 vZ2 (codes NM : List Int), rdE v98 ([((codeA (afterA (nth q.Acts k) (nth WW a).1) : Nat) : Int)] : List Int), rdE r74o9 (afterA (nth q.Acts k) (nth WW a).1), rowE 22 vY2 (plansL NM : List (List Int)), rowE 29 vX2 (nowsL NM : List (List Bool)), rowE 3 vM2 (codes (DD ++ WW) : List Int), rowE 29 vN (nowsL WW : List (List Bool)), rowE 22 vP (plansL WW : List (List Int)), blkE g1 (.cells #[I (q.Facts), vf, vg, va] 25), rdE vf q.First, rdE vg q.Goal, rdE va q.Acts] H99 := (hS101.front 2 rfl)
    refine wpL_o rfl ?_
    refine e_append rfl Try.underlying22 em_Int_3_PlanR1 rfl rfl hS102 (hS102.rdS 1 rfl) (fun _ h => h) (by have hb : GoT.bytes Int = 8 := rfl; simp [hb]; omega) (by decide) (fun v103 H104 hS105 hxx => ?_)
    replace hS105 : St H0 NoB (fun b => S b ∧ b < H0.size) [rowE 3 v103 ((codes NM) ++ ([((codeA (afterA (nth q.Acts k) (nth WW a).1) : Nat) : Int)]) : List Int), rdE v98 ([((codeA (afterA (nth q.Acts k) (nth WW a).1) : Nat) : Int)] : List Int), rdE r74o9 (afterA (nth q.Acts k) (nth WW a).1), rowE 22 vY2 (plansL NM : List (List Int)), rowE 29 vX2 (nowsL NM : List (List Bool)), rowE 3 vM2 (codes (DD ++ WW) : List Int), rowE 29 vN (nowsL WW : List (List Bool)), rowE 22 vP (plansL WW : List (List Int)), blkE g1 (.cells #[I (q.Facts), vf, vg, va] 25), rdE vf q.First, rdE vg q.Goal, rdE va q.Acts] H104 := hS105
    have hS106 : St H0 NoB (fun b => S b ∧ b < H0.size) [rowE 3 v103 (codes (NM ++ [(afterA (nth q.Acts k) (nth WW a).1, (nth WW a).2 ++ [(k : Int)])]) : List Int), rdE v98 ([((codeA (afterA (nth q.Acts k) (nth WW a).1) : Nat) : Int)] : List Int), rdE r74o9 (afterA (nth q.Acts k) (nth WW a).1), rowE 22 vY2 (plansL NM : List (List Int)), rowE 29 vX2 (nowsL NM : List (List Bool)), rowE 3 vM2 (codes (DD ++ WW) : List Int), rowE 29 vN (nowsL WW : List (List Bool)), rowE 22 vP (plansL WW : List (List Int)), blkE g1 (.cells #[I (q.Facts), vf, vg, va] 25), rdE vf q.First, rdE vg q.Goal, rdE va q.Acts] H104 := by rw [show (codes (NM ++ [(afterA (nth q.Acts k) (nth WW a).1, (nth WW a).2 ++ [(k : Int)])])) = ((codes NM) ++ ([((codeA (afterA (nth q.Acts k) (nth WW a).1) : Nat) : Int)])) from (by rw [codes_app])]; exact hS105
    refine wpL_q (U := NoB) rfl (q_assign (v := v103) rfl rfl) ?_
    exact ⟨v103, a92_1, a92_4, a92_5, a92_6, a92_7, a92_9, a92_10, rfl, a92_12, a92_13, a92_14, (hS106.drop (sk (sn (sk (sk (sk (sk (sk (sk (sk (sk (sk (sk (List.Sublist.slnil))))))))))))))⟩
  rintro f107 H107 ⟨v103, a107_1, a107_4, a107_5, a107_6, a107_7, a107_9, a107_10, a107_11, a107_12, a107_13, a107_14, hS107⟩
  clear a92_1 a92_10 a92_11 a92_12 a92_13 a92_14 a92_4 a92_5 a92_6 a92_7 a92_9 a92_96
  refine wpF_seq ?_
  refine wpF_cut (fun f H => ∃ (v113 : Value), f 1 = PT g1 0 ∧ f 4 = vN ∧ f 5 = vP ∧ f 6 = vM2 ∧ f 7 = I ((n : Int)) ∧ f 9 = v113 ∧ f 10 = vY2 ∧ f 11 = v103 ∧ f 12 = I ((a : Int)) ∧ f 13 = I ((k : Int)) ∧ St H0 NoB (fun b => S b ∧ b < H0.size) [rowE 29 v113 (nowsL (NM ++ [(afterA (nth q.Acts k) (nth WW a).1, (nth WW a).2 ++ [(k : Int)])]) : List (List Bool)), rowE 3 v103 (codes (NM ++ [(afterA (nth q.Acts k) (nth WW a).1, (nth WW a).2 ++ [(k : Int)])]) : List Int), rowE 22 vY2 (plansL NM : List (List Int)), rowE 3 vM2 (codes (DD ++ WW) : List Int), rowE 29 vN (nowsL WW : List (List Bool)), rowE 22 vP (plansL WW : List (List Int)), blkE g1 (.cells #[I (q.Facts), vf, vg, va] 25), rdE vf q.First, rdE vg q.Goal, rdE va q.Acts] H) ?_ ?_
  · refine wpF_region ?_
    refine wpL_q (U := NoB) rfl (q_move (v := vX2) rfl a107_9) ?_
    refine wpL_q (U := NoB) rfl (q_move (v := r74o9) rfl a107_14) ?_
    refine wpL_o rfl ?_
    refine e_buildSlice (vs := [r74o9]) (xs := ([afterA (nth q.Acts k) (nth WW a).1] : List (List Bool))) rfl Try.underlying77 Try.zeroValue29 rfl Try.sizeOf29 (par1 (v0 := r74o9) rfl) rfl hS107 (RdVs.cons (hS107.rdS 1 rfl) (RdVs.nil)) (by decide) (by decide) (fun v108 H109 hS110 hxx hvv108 => ?_)
    replace hS110 : St H0 NoB (fun b => S b ∧ b < H0.size) [rowE 29 v108 ([afterA (nth q.Acts k) (nth WW a).1] : List (List Bool)), rowE 3 v103 (codes (NM ++ [(afterA (nth q.Acts k) (nth WW a).1, (nth WW a).2 ++ [(k : Int)])]) : List Int), rdE r74o9 (afterA (nth q.Acts k) (nth WW a).1), rowE 22 vY2 (plansL NM : List (List Int)), rowE 29 vX2 (nowsL NM : List (List Bool)), rowE 3 vM2 (codes (DD ++ WW) : List Int), rowE 29 vN (nowsL WW : List (List Bool)), rowE 22 vP (plansL WW : List (List Int)), blkE g1 (.cells #[I (q.Facts), vf, vg, va] 25), rdE vf q.First, rdE vg q.Goal, rdE va q.Acts] H109 := hS110
    have hS111 : St H0 NoB (fun b => S b ∧ b < H0.size) [rdE v108 ([afterA (nth q.Acts k) (nth WW a).1] : List (List Bool)), rowE 3 v103 (codes (NM ++ [(afterA (nth q.Acts k) (nth WW a).1, (nth WW a).2 ++ [(k : Int)])]) : List Int), rdE r74o9 (afterA (nth q.Acts k) (nth WW a).1), rowE 22 vY2 (plansL NM : List (List Int)), rowE 29 vX2 (nowsL NM : List (List Bool)), rowE 3 vM2 (codes (DD ++ WW) : List Int), rowE 29 vN (nowsL WW : List (List Bool)), rowE 22 vP (plansL WW : List (List Int)), blkE g1 (.cells #[I (q.Facts), vf, vg, va] 25), rdE vf q.First, rdE vg q.Goal, rdE va q.Acts] H109 := St.fin hS110
    have hS112 : St H0 NoB (fun b => S b ∧ b < H0.size) [rowE 29 vX2 (nowsL NM : List (List Bool)), rdE v108 ([afterA (nth q.Acts k) (nth WW a).1] : List (List Bool)), rowE 3 v103 (codes (NM ++ [(afterA (nth q.Acts k) (nth WW a).1, (nth WW a).2 ++ [(k : Int)])]) : List Int), rdE r74o9 (afterA (nth q.Acts k) (nth WW a).1), rowE 22 vY2 (plansL NM : List (List Int)), rowE 3 vM2 (codes (DD ++ WW) : List Int), rowE 29 vN (nowsL WW : List (List Bool)), rowE 22 vP (plansL WW : List (List Int)), blkE g1 (.cells #[I (q.Facts), vf, vg, va] 25), rdE vf q.First, rdE vg q.Goal, rdE va q.Acts] H109 := (hS111.front 4 rfl)
    refine wpL_o rfl ?_
    refine e_append rfl Try.underlying77 em_LBool_29_PlanR1 rfl rfl hS112 (hS112.rdS 1 rfl) (fun _ h => h) (by have hb : GoT.bytes (List Bool) = 24 := rfl; simp [hb]; omega) (by decide) (fun v113 H114 hS115 hxx => ?_)
    replace hS115 : St H0 NoB (fun b => S b ∧ b < H0.size) [rowE 29 v113 ((nowsL NM) ++ ([afterA (nth q.Acts k) (nth WW a).1]) : List (List Bool)), rdE v108 ([afterA (nth q.Acts k) (nth WW a).1] : List (List Bool)), rowE 3 v103 (codes (NM ++ [(afterA (nth q.Acts k) (nth WW a).1, (nth WW a).2 ++ [(k : Int)])]) : List Int), rdE r74o9 (afterA (nth q.Acts k) (nth WW a).1), rowE 22 vY2 (plansL NM : List (List Int)), rowE 3 vM2 (codes (DD ++ WW) : List Int), rowE 29 vN (nowsL WW : List (List Bool)), rowE 22 vP (plansL WW : List (List Int)), blkE g1 (.cells #[I (q.Facts), vf, vg, va] 25), rdE vf q.First, rdE vg q.Goal, rdE va q.Acts] H114 := hS115
    have hS116 : St H0 NoB (fun b => S b ∧ b < H0.size) [rowE 29 v113 (nowsL (NM ++ [(afterA (nth q.Acts k) (nth WW a).1, (nth WW a).2 ++ [(k : Int)])]) : List (List Bool)), rdE v108 ([afterA (nth q.Acts k) (nth WW a).1] : List (List Bool)), rowE 3 v103 (codes (NM ++ [(afterA (nth q.Acts k) (nth WW a).1, (nth WW a).2 ++ [(k : Int)])]) : List Int), rdE r74o9 (afterA (nth q.Acts k) (nth WW a).1), rowE 22 vY2 (plansL NM : List (List Int)), rowE 3 vM2 (codes (DD ++ WW) : List Int), rowE 29 vN (nowsL WW : List (List Bool)), rowE 22 vP (plansL WW : List (List Int)), blkE g1 (.cells #[I (q.Facts), vf, vg, va] 25), rdE vf q.First, rdE vg q.Goal, rdE va q.Acts] H114 := by rw [show (nowsL (NM ++ [(afterA (nth q.Acts k) (nth WW a).1, (nth WW a).2 ++ [(k : Int)])])) = ((nowsL NM) ++ ([afterA (nth q.Acts k) (nth WW a).1])) from (by rw [nowsL_app])]; exact hS115
    refine wpL_q (U := NoB) rfl (q_assign (v := v113) rfl rfl) ?_
    exact ⟨v113, a107_1, a107_4, a107_5, a107_6, a107_7, rfl, a107_10, a107_11, a107_12, a107_13, (hS116.drop (sk (sn (sk (sn (sk (sk (sk (sk (sk (sk (sk (sk (List.Sublist.slnil))))))))))))))⟩
  rintro f117 H117 ⟨v113, a117_1, a117_4, a117_5, a117_6, a117_7, a117_9, a117_10, a117_11, a117_12, a117_13, hS117⟩
  clear a107_1 a107_10 a107_11 a107_12 a107_13 a107_14 a107_4 a107_5 a107_6 a107_7 a107_9
  refine wpF_seq ?_
  refine wpF_cut (fun f H => f 1 = PT g1 0 ∧ f 4 = vN ∧ f 5 = vP ∧ f 6 = vM2 ∧ f 7 = I ((n : Int)) ∧ f 9 = v113 ∧ f 10 = vY2 ∧ f 11 = v103 ∧ f 12 = I ((a : Int)) ∧ f 13 = I ((k : Int)) ∧ f 15 = (Value.slice none 0 0) ∧ H117 = H) ?_ ?_
  · refine wpF_region ?_
    refine wpL_q (U := NoB) rfl (q_assign (v := (Value.slice none 0 0)) rfl rfl) ?_
    exact ⟨a117_1, a117_4, a117_5, a117_6, a117_7, a117_9, a117_10, a117_11, a117_12, a117_13, rfl, rfl⟩
  rintro f118 _ ⟨a118_1, a118_4, a118_5, a118_6, a118_7, a118_9, a118_10, a118_11, a118_12, a118_13, a118_15, rfl⟩
  clear a117_1 a117_10 a117_11 a117_12 a117_13 a117_4 a117_5 a117_6 a117_7 a117_9
  refine wpF_seq ?_
  obtain ⟨u119, huu119, hlu119⟩ := hS117.rowElem 5 rfl a (by omega)
  have hS120 : St H0 NoB (fun b => S b ∧ b < H0.size) [rdE u119 (nth (plansL WW) a), rowE 29 v113 (nowsL (NM ++ [(afterA (nth q.Acts k) (nth WW a).1, (nth WW a).2 ++ [(k : Int)])]) : List (List Bool)), rowE 3 v103 (codes (NM ++ [(afterA (nth q.Acts k) (nth WW a).1, (nth WW a).2 ++ [(k : Int)])]) : List Int), rowE 22 vY2 (plansL NM : List (List Int)), rowE 3 vM2 (codes (DD ++ WW) : List Int), rowE 29 vN (nowsL WW : List (List Bool)), rowE 22 vP (plansL WW : List (List Int)), blkE g1 (.cells #[I (q.Facts), vf, vg, va] 25), rdE vf q.First, rdE vg q.Goal, rdE va q.Acts] H117 := hS117.rd huu119
  refine wpF_cut (fun f H => ∃ (v123 : Value), f 1 = PT g1 0 ∧ f 4 = vN ∧ f 5 = vP ∧ f 6 = vM2 ∧ f 7 = I ((n : Int)) ∧ f 9 = v113 ∧ f 10 = vY2 ∧ f 11 = v103 ∧ f 12 = I ((a : Int)) ∧ f 13 = I ((k : Int)) ∧ f 15 = v123 ∧ St H0 NoB (fun b => S b ∧ b < H0.size) [rowE 3 v123 (nth (plansL WW) a : List Int), rowE 29 v113 (nowsL (NM ++ [(afterA (nth q.Acts k) (nth WW a).1, (nth WW a).2 ++ [(k : Int)])]) : List (List Bool)), rowE 3 v103 (codes (NM ++ [(afterA (nth q.Acts k) (nth WW a).1, (nth WW a).2 ++ [(k : Int)])]) : List Int), rowE 22 vY2 (plansL NM : List (List Int)), rowE 3 vM2 (codes (DD ++ WW) : List Int), rowE 29 vN (nowsL WW : List (List Bool)), rowE 22 vP (plansL WW : List (List Int)), blkE g1 (.cells #[I (q.Facts), vf, vg, va] 25), rdE vf q.First, rdE vg q.Goal, rdE va q.Acts] H) ?_ ?_
  · refine wpF_region ?_
    refine wpL_q (U := NoB) rfl (q_move (v := (Value.slice none 0 0)) rfl a118_15) ?_
    refine wpL_q (U := NoB) rfl (q_move (v := vP) rfl a118_5) ?_
    refine wpL_q (U := NoB) rfl (q_move (v := I ((a : Int))) rfl a118_12) ?_
    refine wpL_q (U := NoB) rfl (q_indexRd (k := a) rfl Try.underlying56 el_LInt_22_PlanR1 rfl rfl (hS117.rowl 5 rfl) (by omega) (by omega)) ?_
    refine wpL_q (U := NoB) rfl (q_loadE rfl rfl (hlu119 Try.prog 22 _ el_LInt_22_PlanR1 (fun _ h => False.elim h))) ?_
    have hS121 : St H0 NoB (fun b => S b ∧ b < H0.size) [rowE 3 (Value.slice none 0 0) ([] : List Int), rdE u119 (nth (plansL WW) a), rowE 29 v113 (nowsL (NM ++ [(afterA (nth q.Acts k) (nth WW a).1, (nth WW a).2 ++ [(k : Int)])]) : List (List Bool)), rowE 3 v103 (codes (NM ++ [(afterA (nth q.Acts k) (nth WW a).1, (nth WW a).2 ++ [(k : Int)])]) : List Int), rowE 22 vY2 (plansL NM : List (List Int)), rowE 3 vM2 (codes (DD ++ WW) : List Int), rowE 29 vN (nowsL WW : List (List Bool)), rowE 22 vP (plansL WW : List (List Int)), blkE g1 (.cells #[I (q.Facts), vf, vg, va] 25), rdE vf q.First, rdE vg q.Goal, rdE va q.Acts] H117 := hS120.row0 3
    have hS122 : St H0 NoB (fun b => S b ∧ b < H0.size) [rowE 3 (Value.slice none 0 0) ([] : List Int), rdE u119 (nth (plansL WW) a), rowE 29 v113 (nowsL (NM ++ [(afterA (nth q.Acts k) (nth WW a).1, (nth WW a).2 ++ [(k : Int)])]) : List (List Bool)), rowE 3 v103 (codes (NM ++ [(afterA (nth q.Acts k) (nth WW a).1, (nth WW a).2 ++ [(k : Int)])]) : List Int), rowE 22 vY2 (plansL NM : List (List Int)), rowE 3 vM2 (codes (DD ++ WW) : List Int), rowE 29 vN (nowsL WW : List (List Bool)), rowE 22 vP (plansL WW : List (List Int)), blkE g1 (.cells #[I (q.Facts), vf, vg, va] 25), rdE vf q.First, rdE vg q.Goal, rdE va q.Acts] H117 := hS121
    refine wpL_o rfl ?_
    refine e_append rfl Try.underlying22 em_Int_3_PlanR1 rfl rfl hS122 (hS122.rdS 1 rfl) (fun _ h => h) (by have hb : GoT.bytes Int = 8 := rfl; simp [hb]; omega) (by decide) (fun v123 H124 hS125 hxx => ?_)
    replace hS125 : St H0 NoB (fun b => S b ∧ b < H0.size) [rowE 3 v123 (nth (plansL WW) a : List Int), rdE u119 (nth (plansL WW) a), rowE 29 v113 (nowsL (NM ++ [(afterA (nth q.Acts k) (nth WW a).1, (nth WW a).2 ++ [(k : Int)])]) : List (List Bool)), rowE 3 v103 (codes (NM ++ [(afterA (nth q.Acts k) (nth WW a).1, (nth WW a).2 ++ [(k : Int)])]) : List Int), rowE 22 vY2 (plansL NM : List (List Int)), rowE 3 vM2 (codes (DD ++ WW) : List Int), rowE 29 vN (nowsL WW : List (List Bool)), rowE 22 vP (plansL WW : List (List Int)), blkE g1 (.cells #[I (q.Facts), vf, vg, va] 25), rdE vf q.First, rdE vg q.Goal, rdE va q.Acts] H124 := by simpa using hS125
    have hS126 : St H0 NoB (fun b => S b ∧ b < H0.size) [rowE 3 v123 (nth (plansL WW) a : List Int), rdE u119 (nth (plansL WW) a), rowE 29 v113 (nowsL (NM ++ [(afterA (nth q.Acts k) (nth WW a).1, (nth WW a).2 ++ [(k : Int)])]) : List (List Bool)), rowE 3 v103 (codes (NM ++ [(afterA (nth q.Acts k) (nth WW a).1, (nth WW a).2 ++ [(k : Int)])]) : List Int), rowE 22 vY2 (plansL NM : List (List Int)), rowE 3 vM2 (codes (DD ++ WW) : List Int), rowE 29 vN (nowsL WW : List (List Bool)), rowE 22 vP (plansL WW : List (List Int)), blkE g1 (.cells #[I (q.Facts), vf, vg, va] 25), rdE vf q.First, rdE vg q.Goal, rdE va q.Acts] H124 := by rw [show (nth (plansL WW) a) = (nth (plansL WW) a) from rfl]; exact hS125
    refine wpL_q (U := NoB) rfl (q_assign (v := v123) rfl rfl) ?_
    exact ⟨v123, a118_1, a118_4, a118_5, a118_6, a118_7, a118_9, a118_10, a118_11, a118_12, a118_13, rfl, (hS126.drop (sk (sn (sk (sk (sk (sk (sk (sk (sk (sk (sk (sk (List.Sublist.slnil))))))))))))))⟩
  rintro f127 H127 ⟨v123, a127_1, a127_4, a127_5, a127_6, a127_7, a127_9, a127_10, a127_11, a127_12, a127_13, a127_15, hS127⟩
  clear a118_1 a118_10 a118_11 a118_12 a118_13 a118_15 a118_4 a118_5 a118_6 a118_7 a118_9
  refine wpF_cut (fun f H => ∃ (v142 : Value), f 1 = PT g1 0 ∧ f 4 = vN ∧ f 5 = vP ∧ f 6 = vM2 ∧ f 7 = I ((n : Int)) ∧ f 9 = v113 ∧ f 10 = v142 ∧ f 11 = v103 ∧ f 12 = I ((a : Int)) ∧ f 13 = I ((k : Int)) ∧ St H0 NoB (fun b => S b ∧ b < H0.size) [rowE 22 v142 (plansL (NM ++ [(afterA (nth q.Acts k) (nth WW a).1, (nth WW a).2 ++ [(k : Int)])]) : List (List Int)), rowE 29 v113 (nowsL (NM ++ [(afterA (nth q.Acts k) (nth WW a).1, (nth WW a).2 ++ [(k : Int)])]) : List (List Bool)), rowE 3 v103 (codes (NM ++ [(afterA (nth q.Acts k) (nth WW a).1, (nth WW a).2 ++ [(k : Int)])]) : List Int), rowE 3 vM2 (codes (DD ++ WW) : List Int), rowE 29 vN (nowsL WW : List (List Bool)), rowE 22 vP (plansL WW : List (List Int)), blkE g1 (.cells #[I (q.Facts), vf, vg, va] 25), rdE vf q.First, rdE vg q.Goal, rdE va q.Acts] H) ?_ ?_
  · refine wpF_region ?_
    refine wpL_q (U := NoB) rfl (q_move (v := vY2) rfl a127_10) ?_
    refine wpL_q (U := NoB) rfl (q_move (v := v123) rfl a127_15) ?_
    refine wpL_q (U := NoB) rfl (q_move (v := I ((k : Int))) rfl a127_13) ?_
    refine wpL_o rfl ?_
    refine e_buildSlice (vs := [I ((k : Int))]) (xs := ([(k : Int)] : List Int)) rfl Try.underlying22 Try.zeroValue3 rfl Try.sizeOf3 (par1 (v0 := I ((k : Int))) rfl) rfl hS127 (RdVs.cons (Rd.int.2 ⟨rfl, by constructor <;> omega⟩) (RdVs.nil)) (by decide) (by decide) (fun v128 H129 hS130 hxx hvv128 => ?_)
    replace hS130 : St H0 NoB (fun b => S b ∧ b < H0.size) [rowE 3 v128 ([(k : Int)] : List Int), rowE 3 v123 (nth (plansL WW) a : List Int), rowE 29 v113 (nowsL (NM ++ [(afterA (nth q.Acts k) (nth WW a).1, (nth WW a).2 ++ [(k : Int)])]) : List (List Bool)), rowE 3 v103 (codes (NM ++ [(afterA (nth q.Acts k) (nth WW a).1, (nth WW a).2 ++ [(k : Int)])]) : List Int), rowE 22 vY2 (plansL NM : List (List Int)), rowE 3 vM2 (codes (DD ++ WW) : List Int), rowE 29 vN (nowsL WW : List (List Bool)), rowE 22 vP (plansL WW : List (List Int)), blkE g1 (.cells #[I (q.Facts), vf, vg, va] 25), rdE vf q.First, rdE vg q.Goal, rdE va q.Acts] H129 := hS130
    have hS131 : St H0 NoB (fun b => S b ∧ b < H0.size) [rdE v128 ([(k : Int)] : List Int), rowE 3 v123 (nth (plansL WW) a : List Int), rowE 29 v113 (nowsL (NM ++ [(afterA (nth q.Acts k) (nth WW a).1, (nth WW a).2 ++ [(k : Int)])]) : List (List Bool)), rowE 3 v103 (codes (NM ++ [(afterA (nth q.Acts k) (nth WW a).1, (nth WW a).2 ++ [(k : Int)])]) : List Int), rowE 22 vY2 (plansL NM : List (List Int)), rowE 3 vM2 (codes (DD ++ WW) : List Int), rowE 29 vN (nowsL WW : List (List Bool)), rowE 22 vP (plansL WW : List (List Int)), blkE g1 (.cells #[I (q.Facts), vf, vg, va] 25), rdE vf q.First, rdE vg q.Goal, rdE va q.Acts] H129 := St.fin hS130
    have hS132 : St H0 NoB (fun b => S b ∧ b < H0.size) [rowE 3 v123 (nth (plansL WW) a : List Int), rdE v128 ([(k : Int)] : List Int), rowE 29 v113 (nowsL (NM ++ [(afterA (nth q.Acts k) (nth WW a).1, (nth WW a).2 ++ [(k : Int)])]) : List (List Bool)), rowE 3 v103 (codes (NM ++ [(afterA (nth q.Acts k) (nth WW a).1, (nth WW a).2 ++ [(k : Int)])]) : List Int), rowE 22 vY2 (plansL NM : List (List Int)), rowE 3 vM2 (codes (DD ++ WW) : List Int), rowE 29 vN (nowsL WW : List (List Bool)), rowE 22 vP (plansL WW : List (List Int)), blkE g1 (.cells #[I (q.Facts), vf, vg, va] 25), rdE vf q.First, rdE vg q.Goal, rdE va q.Acts] H129 := (hS131.front 1 rfl)
    refine wpL_o rfl ?_
    refine e_append rfl Try.underlying22 em_Int_3_PlanR1 rfl rfl hS132 (hS132.rdS 1 rfl) (fun _ h => h) (by have hb : GoT.bytes Int = 8 := rfl; simp [hb]; omega) (by decide) (fun v133 H134 hS135 hxx => ?_)
    replace hS135 : St H0 NoB (fun b => S b ∧ b < H0.size) [rowE 3 v133 ((nth (plansL WW) a) ++ ([(k : Int)]) : List Int), rdE v128 ([(k : Int)] : List Int), rowE 29 v113 (nowsL (NM ++ [(afterA (nth q.Acts k) (nth WW a).1, (nth WW a).2 ++ [(k : Int)])]) : List (List Bool)), rowE 3 v103 (codes (NM ++ [(afterA (nth q.Acts k) (nth WW a).1, (nth WW a).2 ++ [(k : Int)])]) : List Int), rowE 22 vY2 (plansL NM : List (List Int)), rowE 3 vM2 (codes (DD ++ WW) : List Int), rowE 29 vN (nowsL WW : List (List Bool)), rowE 22 vP (plansL WW : List (List Int)), blkE g1 (.cells #[I (q.Facts), vf, vg, va] 25), rdE vf q.First, rdE vg q.Goal, rdE va q.Acts] H134 := hS135
    have hS136 : St H0 NoB (fun b => S b ∧ b < H0.size) [rdE v133 ((nth (plansL WW) a) ++ ([(k : Int)])), rdE v128 ([(k : Int)] : List Int), rowE 29 v113 (nowsL (NM ++ [(afterA (nth q.Acts k) (nth WW a).1, (nth WW a).2 ++ [(k : Int)])]) : List (List Bool)), rowE 3 v103 (codes (NM ++ [(afterA (nth q.Acts k) (nth WW a).1, (nth WW a).2 ++ [(k : Int)])]) : List Int), rowE 22 vY2 (plansL NM : List (List Int)), rowE 3 vM2 (codes (DD ++ WW) : List Int), rowE 29 vN (nowsL WW : List (List Bool)), rowE 22 vP (plansL WW : List (List Int)), blkE g1 (.cells #[I (q.Facts), vf, vg, va] 25), rdE vf q.First, rdE vg q.Goal, rdE va q.Acts] H134 := St.fin hS135
    refine wpL_o rfl ?_
    refine e_buildSlice (vs := [v133]) (xs := ([(nth (plansL WW) a) ++ ([(k : Int)])] : List (List Int))) rfl Try.underlying56 Try.zeroValue22 rfl Try.sizeOf22 (par1 (v0 := v133) rfl) rfl hS136 (RdVs.cons (hS136.rdS 0 rfl) (RdVs.nil)) (by decide) (by decide) (fun v137 H138 hS139 hxx hvv137 => ?_)
    replace hS139 : St H0 NoB (fun b => S b ∧ b < H0.size) [rowE 22 v137 ([(nth (plansL WW) a) ++ ([(k : Int)])] : List (List Int)), rdE v133 ((nth (plansL WW) a) ++ ([(k : Int)])), rdE v128 ([(k : Int)] : List Int), rowE 29 v113 (nowsL (NM ++ [(afterA (nth q.Acts k) (nth WW a).1, (nth WW a).2 ++ [(k : Int)])]) : List (List Bool)), rowE 3 v103 (codes (NM ++ [(afterA (nth q.Acts k) (nth WW a).1, (nth WW a).2 ++ [(k : Int)])]) : List Int), rowE 22 vY2 (plansL NM : List (List Int)), rowE 3 vM2 (codes (DD ++ WW) : List Int), rowE 29 vN (nowsL WW : List (List Bool)), rowE 22 vP (plansL WW : List (List Int)), blkE g1 (.cells #[I (q.Facts), vf, vg, va] 25), rdE vf q.First, rdE vg q.Goal, rdE va q.Acts] H138 := hS139
    have hS140 : St H0 NoB (fun b => S b ∧ b < H0.size) [rdE v137 ([(nth (plansL WW) a) ++ ([(k : Int)])] : List (List Int)), rdE v133 ((nth (plansL WW) a) ++ ([(k : Int)])), rdE v128 ([(k : Int)] : List Int), rowE 29 v113 (nowsL (NM ++ [(afterA (nth q.Acts k) (nth WW a).1, (nth WW a).2 ++ [(k : Int)])]) : List (List Bool)), rowE 3 v103 (codes (NM ++ [(afterA (nth q.Acts k) (nth WW a).1, (nth WW a).2 ++ [(k : Int)])]) : List Int), rowE 22 vY2 (plansL NM : List (List Int)), rowE 3 vM2 (codes (DD ++ WW) : List Int), rowE 29 vN (nowsL WW : List (List Bool)), rowE 22 vP (plansL WW : List (List Int)), blkE g1 (.cells #[I (q.Facts), vf, vg, va] 25), rdE vf q.First, rdE vg q.Goal, rdE va q.Acts] H138 := St.fin hS139
    have hS141 : St H0 NoB (fun b => S b ∧ b < H0.size) [rowE 22 vY2 (plansL NM : List (List Int)), rdE v137 ([(nth (plansL WW) a) ++ ([(k : Int)])] : List (List Int)), rdE v133 ((nth (plansL WW) a) ++ ([(k : Int)])), rdE v128 ([(k : Int)] : List Int), rowE 29 v113 (nowsL (NM ++ [(afterA (nth q.Acts k) (nth WW a).1, (nth WW a).2 ++ [(k : Int)])]) : List (List Bool)), rowE 3 v103 (codes (NM ++ [(afterA (nth q.Acts k) (nth WW a).1, (nth WW a).2 ++ [(k : Int)])]) : List Int), rowE 3 vM2 (codes (DD ++ WW) : List Int), rowE 29 vN (nowsL WW : List (List Bool)), rowE 22 vP (plansL WW : List (List Int)), blkE g1 (.cells #[I (q.Facts), vf, vg, va] 25), rdE vf q.First, rdE vg q.Goal, rdE va q.Acts] H138 := (hS140.front 5 rfl)
    refine wpL_o rfl ?_
    refine e_append rfl Try.underlying56 em_LInt_22_PlanR1 rfl rfl hS141 (hS141.rdS 1 rfl) (fun _ h => h) (by have hb : GoT.bytes (List Int) = 24 := rfl; simp [hb]; omega) (by decide) (fun v142 H143 hS144 hxx => ?_)
    replace hS144 : St H0 NoB (fun b => S b ∧ b < H0.size) [rowE 22 v142 ((plansL NM) ++ ([(nth (plansL WW) a) ++ ([(k : Int)])]) : List (List Int)), rdE v137 ([(nth (plansL WW) a) ++ ([(k : Int)])] : List (List Int)), rdE v133 ((nth (plansL WW) a) ++ ([(k : Int)])), rdE v128 ([(k : Int)] : List Int), rowE 29 v113 (nowsL (NM ++ [(afterA (nth q.Acts k) (nth WW a).1, (nth WW a).2 ++ [(k : Int)])]) : List (List Bool)), rowE 3 v103 (codes (NM ++ [(afterA (nth q.Acts k) (nth WW a).1, (nth WW a).2 ++ [(k : Int)])]) : List Int), rowE 3 vM2 (codes (DD ++ WW) : List Int), rowE 29 vN (nowsL WW : List (List Bool)), rowE 22 vP (plansL WW : List (List Int)), blkE g1 (.cells #[I (q.Facts), vf, vg, va] 25), rdE vf q.First, rdE vg q.Goal, rdE va q.Acts] H143 := hS144
    have hS145 : St H0 NoB (fun b => S b ∧ b < H0.size) [rowE 22 v142 (plansL (NM ++ [(afterA (nth q.Acts k) (nth WW a).1, (nth WW a).2 ++ [(k : Int)])]) : List (List Int)), rdE v137 ([(nth (plansL WW) a) ++ ([(k : Int)])] : List (List Int)), rdE v133 ((nth (plansL WW) a) ++ ([(k : Int)])), rdE v128 ([(k : Int)] : List Int), rowE 29 v113 (nowsL (NM ++ [(afterA (nth q.Acts k) (nth WW a).1, (nth WW a).2 ++ [(k : Int)])]) : List (List Bool)), rowE 3 v103 (codes (NM ++ [(afterA (nth q.Acts k) (nth WW a).1, (nth WW a).2 ++ [(k : Int)])]) : List Int), rowE 3 vM2 (codes (DD ++ WW) : List Int), rowE 29 vN (nowsL WW : List (List Bool)), rowE 22 vP (plansL WW : List (List Int)), blkE g1 (.cells #[I (q.Facts), vf, vg, va] 25), rdE vf q.First, rdE vg q.Goal, rdE va q.Acts] H143 := by rw [show (plansL (NM ++ [(afterA (nth q.Acts k) (nth WW a).1, (nth WW a).2 ++ [(k : Int)])])) = ((plansL NM) ++ ([(nth (plansL WW) a) ++ ([(k : Int)])])) from (by rw [plansL_app, plansL_nth haw])]; exact hS144
    refine wpL_q (U := NoB) rfl (q_assign (v := v142) rfl rfl) ?_
    exact ⟨v142, a127_1, a127_4, a127_5, a127_6, a127_7, a127_9, rfl, a127_11, a127_12, a127_13, (hS145.drop (sk (sn (sn (sn (sk (sk (sk (sk (sk (sk (sk (sk (sk (List.Sublist.slnil)))))))))))))))⟩
  rintro f146 H146 ⟨v142, a146_1, a146_4, a146_5, a146_6, a146_7, a146_9, a146_10, a146_11, a146_12, a146_13, hS146⟩
  clear a127_1 a127_10 a127_11 a127_12 a127_13 a127_15 a127_4 a127_5 a127_6 a127_7 a127_9
  refine wpF_cut (fun f H => f 1 = PT g1 0 ∧ f 4 = vN ∧ f 5 = vP ∧ f 6 = vM2 ∧ f 7 = I ((n : Int)) ∧ f 9 = v113 ∧ f 10 = v142 ∧ f 11 = v103 ∧ f 12 = I ((a : Int)) ∧ f 13 = I ((k : Int) + 1) ∧ H146 = H) ?_ ?_
  · refine wpF_region ?_
    refine wpL_q (U := NoB) rfl (q_move (v := I ((k : Int))) rfl a146_13) ?_
    refine wpL_q (U := NoB) rfl (q_add rfl rfl rfl (by constructor <;> omega)) ?_
    refine wpL_q (U := NoB) rfl (q_assign (v := I ((k : Int) + 1)) rfl rfl) ?_
    exact ⟨a146_1, a146_4, a146_5, a146_6, a146_7, a146_9, a146_10, a146_11, a146_12, rfl, rfl⟩
  rintro f147 _ ⟨a147_1, a147_4, a147_5, a147_6, a147_7, a147_9, a147_10, a147_11, a147_12, a147_13, rfl⟩
  clear a146_1 a146_10 a146_11 a146_12 a146_13 a146_4 a146_5 a146_6 a146_7 a146_9
  refine ⟨_, ?_, k + 1, (NM ++ [(afterA (nth q.Acts k) (nth WW a).1, (nth WW a).2 ++ [(k : Int)])]), v113, v142, v103, rfl, (by omega), hR5, a147_1, a147_4, a147_5, a147_6, a147_7, a147_9, a147_10, a147_11, a147_12, (Eq.trans a147_13 (congrArg I (by omega))), (St.drop (show St H0 NoB (fun b => S b ∧ b < H0.size) [rowE 3 v103 (codes (NM ++ [(afterA (nth q.Acts k) (nth WW a).1, (nth WW a).2 ++ [(k : Int)])]) : List Int), rowE 22 v142 (plansL (NM ++ [(afterA (nth q.Acts k) (nth WW a).1, (nth WW a).2 ++ [(k : Int)])]) : List (List Int)), rowE 29 v113 (nowsL (NM ++ [(afterA (nth q.Acts k) (nth WW a).1, (nth WW a).2 ++ [(k : Int)])]) : List (List Bool)), rowE 3 vM2 (codes (DD ++ WW) : List Int), rowE 29 vN (nowsL WW : List (List Bool)), rowE 22 vP (plansL WW : List (List Int)), blkE g1 (.cells #[I (q.Facts), vf, vg, va] 25), rdE vf q.First, rdE vg q.Goal, rdE va q.Acts] H146 from (hS146.front 2 rfl)) (sk (sk (sk (sk (sk (sk (sk (sk (sk (sk (List.Sublist.slnil))))))))))))⟩
  omega

end Go.Um
