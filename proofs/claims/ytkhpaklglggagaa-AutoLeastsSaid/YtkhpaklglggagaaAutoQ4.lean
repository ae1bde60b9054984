import Derived.Test.YtkhpaklglggagaaProg
import Derived.Test.YtkhpaklglggagaaAutoA3
import Derived.Test.YtkhpaklglggagaaAutoSho
import Derived.Test.YtkhpaklglggagaaUmRowEl
import Derived.Test.YtkhpaklglggagaaUmSub
namespace Go.Um
open Go.Proofs
open GoT (sz ag rdc)
open KeyT (kv)

theorem el_Bool_4_AutoQ4 : ElT Try.prog Bool 4 := ⟨Try.isAgg4, Try.sizeOf4⟩
theorem el_Int_3_AutoQ4 : ElT Try.prog Int 3 := ⟨Try.isAgg3, Try.sizeOf3⟩
theorem el_LInt_22_AutoQ4 : ElT Try.prog (List Int) 22 := ⟨Try.isAgg22, Try.sizeOf22⟩
theorem em_Int_3_AutoQ4 : ElemOk Try.prog Int 3 := ⟨Try.t3, (.int .i64 0), by kernel_rfl, by kernel_rfl, by kernel_rfl, by kernel_rfl, by kernel_rfl⟩
theorem em_LInt_22_AutoQ4 : ElemOk Try.prog (List Int) 22 := ⟨Try.t22, (.slice none 0 0), by kernel_rfl, by kernel_rfl, by kernel_rfl, by kernel_rfl, by kernel_rfl⟩

set_option maxRecDepth 100000 in
theorem Has_R {H0 : Heap} (vl : Value) (l : List Int) (n : Int) (rl : Rd NoB H0 vl l) : CallsH Try.prog 72 #[vl, I (n)] H0 (fun rv_ H' => Ext NoB H0 H' ∧ rv_ = B (hasB l n)) := by
  have hsm := (Rd.list.1 rl).small
  have hS0 : St H0 NoB NoB [rdE vl l] H0 := St.arg (St.start (fun _ h => h.elim)) (Bl0.nil) rl (fun _ h => h)
  refine callsH_of_wpF (args := [vl, I (n)]) (rs := [.tmp 4]) Try.func72 rfl Try.ntmps72 Try.results72 (by kernel_rfl) (Nat.le_of_ble_eq_true rfl) ?_
  have a0_0 : argF [vl, I (n)] 0 = vl := rfl
  have a0_1 : argF [vl, I (n)] 1 = I (n) := rfl
  generalize argF [vl, I (n)] = f0 at *
  refine wpF_seq ?_
  refine wpF_cut (fun f H => f 0 = vl ∧ f 1 = I (n) ∧ H0 = H) ?_ ?_
  · refine wpF_region ?_
    refine wpL_q (U := NoB) rfl (q_assign (v := B (false)) rfl rfl) ?_
    exact ⟨a0_0, a0_1, rfl⟩
  rintro f1 _ ⟨a1_0, a1_1, rfl⟩
  clear a0_0 a0_1
  refine wpF_seq ?_
  refine wpF_seq ?_
  refine wpF_cut (fun f H => f 0 = vl ∧ f 1 = I (n) ∧ f 5 = I (0) ∧ H0 = H) ?_ ?_
  · refine wpF_region ?_
    refine wpL_q (U := NoB) rfl (q_assign (v := I (0)) rfl rfl) ?_
    exact ⟨a1_0, a1_1, rfl, rfl⟩
  rintro f2 _ ⟨a2_0, a2_1, a2_5, rfl⟩
  clear a1_0 a1_1
  refine wpF_block ?_
  refine wpF_loop (fun mz f H => ∃ (k : Nat), mz = l.length - k ∧ (k ≤ l.length) ∧ (∀ j, j < k → nth l j ≠ n) ∧ f 0 = vl ∧ f 1 = I (n) ∧ f 5 = I ((k : Int)) ∧ H0 = H) (l.length - 0) ?_ ?_
  · exact ⟨0, rfl, Nat.zero_le _, (fun j hj => absurd hj (Nat.not_lt_zero j)), a2_0, a2_1, (Eq.trans a2_5 (congrArg I (by omega))), rfl⟩
  intro m3 f3 H3 hI3
  obtain ⟨k, hm3, hk, hno, a3_0, a3_1, a3_5, rfl⟩ := hI3
  clear a2_0 a2_1 a2_5
  refine wpF_seq ?_
  refine wpF_seq ?_
  refine wpF_cut (fun f H => f 0 = vl ∧ f 1 = I (n) ∧ f 5 = I ((k : Int)) ∧ f 9 = B (decide ((k : Int) < (l.length : Int))) ∧ H0 = H) ?_ ?_
  · refine wpF_region ?_
    refine wpL_q (U := NoB) rfl (q_move (v := I ((k : Int))) rfl a3_5) ?_
    refine wpL_q (U := NoB) rfl (q_move (v := vl) rfl a3_0) ?_
    refine wpL_q (U := NoB) rfl (q_lenRd rfl Try.underlying22 rfl (hS0.rdl 0 rfl)) ?_
    refine wpL_q (U := NoB) rfl (q_lss rfl rfl rfl) ?_
    exact ⟨a3_0, a3_1, a3_5, rfl, rfl⟩
  rintro f4 _ ⟨a4_0, a4_1, a4_5, a4_9, rfl⟩
  clear a3_0 a3_1 a3_5
  refine wpF_condP a4_9 (fun hlt => ?t12) (fun hlt => ?e12)
  case e12 =>
    refine wpF_exit ?_
    refine atX_here ?_
    refine wpF_seq ?_
    refine wpF_cut (fun f H => f 4 = B (false) ∧ H0 = H) ?_ ?_
    · refine wpF_region ?_
      refine wpL_q (U := NoB) rfl (q_assign (v := B (false)) rfl rfl) ?_
      exact ⟨rfl, rfl⟩
    rintro f11 _ ⟨a11_4, rfl⟩
    clear a4_0 a4_1 a4_5 a4_9
    refine wpF_ret ?_
    refine ⟨_, resT a11_4 resN, hS0.frame, ?_⟩
    show (B (false)) = B (hasB l n)
    exact congrArg B (decide_eq_false (fun h => by obtain ⟨j, hj, he⟩ := nth_of_mem h; exact hno j (by omega) he)).symm
  refine wpF_skip ?_
  refine wpF_seq ?_
  refine wpF_block ?_
  refine wpF_seq ?_
  refine wpF_cut (fun f H => f 0 = vl ∧ f 1 = I (n) ∧ f 5 = I ((k : Int)) ∧ f 17 = B (decide ((nth l k) = n)) ∧ H0 = H) ?_ ?_
  · refine wpF_region ?_
    refine wpL_q (U := NoB) rfl (q_move (v := vl) rfl a4_0) ?_
    refine wpL_q (U := NoB) rfl (q_move (v := I ((k : Int))) rfl a4_5) ?_
    refine wpL_q (U := NoB) rfl (q_indexRd (k := k) rfl Try.underlying22 el_Int_3_AutoQ4 rfl rfl (hS0.rdl 0 rfl) (by omega) (by omega)) ?_
    refine wpL_q (U := NoB) rfl (q_loadInt (k := k) rfl rfl el_Int_3_AutoQ4 (hS0.rdl 0 rfl) (by omega) (fun _ h => h)) ?_
    refine wpL_q (U := NoB) rfl (q_move (v := I (n)) rfl a4_1) ?_
    refine wpL_q (U := NoB) rfl (q_eql rfl rfl rfl) ?_
    exact ⟨a4_0, a4_1, a4_5, rfl, rfl⟩
  rintro f6 _ ⟨a6_0, a6_1, a6_5, a6_17, rfl⟩
  clear a4_0 a4_1 a4_5 a4_9
  refine wpF_condP a6_17 (fun heq => ?t10) (fun heq => ?e10)
  case t10 =>
    refine wpF_seq ?_
    refine wpF_cut (fun f H => f 4 = B (true) ∧ H0 = H) ?_ ?_
    · refine wpF_region ?_
      refine wpL_q (U := NoB) rfl (q_assign (v := B (true)) rfl rfl) ?_
      exact ⟨rfl, rfl⟩
    rintro f8 _ ⟨a8_4, rfl⟩
    clear a6_0 a6_1 a6_17 a6_5
    refine wpF_ret ?_
    refine ⟨_, resT a8_4 resN, hS0.frame, ?_⟩
    show (B (true)) = B (hasB l n)
    exact congrArg B (decide_eq_true (heq ▸ nth_mem (by omega))).symm
  refine wpF_skip ?_
  refine wpF_cut (fun f H => f 0 = vl ∧ f 1 = I (n) ∧ f 5 = I ((k : Int) + 1) ∧ H0 = H) ?_ ?_
  · refine wpF_region ?_
    refine wpL_q (U := NoB) rfl (q_move (v := I ((k : Int))) rfl a6_5) ?_
    refine wpL_q (U := NoB) rfl (q_add rfl rfl rfl (by constructor <;> omega)) ?_
    refine wpL_q (U := NoB) rfl (q_assign (v := I ((k : Int) + 1)) rfl rfl) ?_
    exact ⟨a6_0, a6_1, rfl, rfl⟩
  rintro f9 _ ⟨a9_0, a9_1, a9_5, rfl⟩
  clear a6_0 a6_1 a6_17 a6_5
  refine ⟨_, ?_, k + 1, rfl, (by omega), (all_succ hno heq), a9_0, a9_1, (Eq.trans a9_5 (congrArg I (by omega))), rfl⟩
  omega

set_option maxHeartbeats 4000000 in
set_option maxRecDepth 100000 in
theorem Shortest_R {H0 : Heap} {S : Nat → Prop} (vn vt : Value) (a : Auto) (rn : Rd S H0 vn a.Next) (rt : Rd S H0 vt a.Takes) (hsg : In64 a.Signs) (hW : WF a) : CallsH Try.prog 42 #[Value.agg #[I (a.Signs), vn, vt]] H0 (fun rv_ H' => Ext NoB H0 H' ∧ ∃ w_ m_ s_, rv_ = Value.tuple #[w_, B s_] ∧ Rd (fun b => S b ∧ b < H0.size) H' w_ m_ ∧ AnyIs a m_ s_) := by
  have hsn := (Rd.list.1 rn).small
  have hst := (Rd.list.1 rt).small
  have hm := hW.takes
  have hm2 := hW.many
  have hsgw := hW.signs
  have hS0 : St H0 NoB (fun b => S b ∧ b < H0.size) [rdE vn a.Next, rdE vt a.Takes] H0 := St.arg (St.arg (St.start (fun _ h => h.2)) (Bl0.nil) rt (fun _ h => h.1)) (Bl0.cons (Bl0.nil)) rn (fun _ h => h.1)
  refine callsH_of_wpF (args := [Value.agg #[I (a.Signs), vn, vt]]) (rs := [.tmp 2, .tmp 3]) Try.func42 rfl Try.ntmps42 Try.results42 (by kernel_rfl) (Nat.le_of_ble_eq_true rfl) ?_
  have a0_0 : argF [Value.agg #[I (a.Signs), vn, vt]] 0 = Value.agg #[I (a.Signs), vn, vt] := rfl
  generalize argF [Value.agg #[I (a.Signs), vn, vt]] = f0 at *
  refine wpF_seq ?_
  refine wpF_cut (fun f H => ∃ (g1 : Nat), f 1 = PT g1 0 ∧ St H0 NoB (fun b => S b ∧ b < H0.size) [blkE g1 (.cells #[I (a.Signs), vn, vt] 36), rdE vn a.Next, rdE vt a.Takes] H) ?_ ?_
  · refine wpF_region ?_
    refine wpL_o rfl ?_
    refine e_box (v := Value.agg #[I (a.Signs), vn, vt]) rfl a0_0 hS0 (fun g1 H2 hS3 hxx => ?_)
    replace hS3 : St H0 NoB (fun b => S b ∧ b < H0.size) [blkE g1 (.cells #[I (a.Signs), vn, vt] 36), rdE vn a.Next, rdE vt a.Takes] H2 := hS3
    refine wpL_q (U := NoB) rfl (q_assign (v := (Value.slice none 0 0)) rfl rfl) ?_
    refine wpL_q (U := NoB) rfl (q_assign (v := B (false)) rfl rfl) ?_
    exact ⟨g1, rfl, hS3⟩
  rintro f4 H4 ⟨g1, a4_1, hS4⟩
  clear a0_0
  refine wpF_seq ?_
  refine wpF_cut (fun f H => ∃ (v5 : Value), f 1 = PT g1 0 ∧ f 4 = v5 ∧ St H0 NoB (fun b => S b ∧ b < H0.size) [rowE 22 v5 ([[]] : List (List Int)), blkE g1 (.cells #[I (a.Signs), vn, vt] 36), rdE vn a.Next, rdE vt a.Takes] H) ?_ ?_
  · refine wpF_region ?_
    refine wpL_o rfl ?_
    refine e_buildSlice (vs := [(Value.slice none 0 0)]) (xs := ([[]] : List (List Int))) rfl Try.underlying27 Try.zeroValue22 rfl Try.sizeOf22 (par1 (v0 := (Value.slice none 0 0)) rfl) rfl hS4 (RdVs.cons (rdNil) (RdVs.nil)) (by decide) (by decide) (fun v5 H6 hS7 hxx hvv5 => ?_)
    replace hS7 : St H0 NoB (fun b => S b ∧ b < H0.size) [rowE 22 v5 ([[]] : List (List Int)), blkE g1 (.cells #[I (a.Signs), vn, vt] 36), rdE vn a.Next, rdE vt a.Takes] H6 := hS7
    refine wpL_q (U := NoB) rfl (q_assign (v := v5) rfl rfl) ?_
    exact ⟨v5, a4_1, rfl, hS7⟩
  rintro f8 H8 ⟨v5, a8_1, a8_4, hS8⟩
  clear a4_1
  refine wpF_seq ?_
  refine wpF_cut (fun f H => ∃ (v9 : Value), f 1 = PT g1 0 ∧ f 4 = v5 ∧ f 5 = v9 ∧ St H0 NoB (fun b => S b ∧ b < H0.size) [rowE 3 v9 ([0] : List Int), rowE 22 v5 ([[]] : List (List Int)), blkE g1 (.cells #[I (a.Signs), vn, vt] 36), rdE vn a.Next, rdE vt a.Takes] H) ?_ ?_
  · refine wpF_region ?_
    refine wpL_o rfl ?_
    refine e_buildSlice (vs := [I (0)]) (xs := ([0] : List Int)) rfl Try.underlying22 Try.zeroValue3 rfl Try.sizeOf3 (par1 (v0 := I (0)) rfl) rfl hS8 (RdVs.cons (Rd.int.2 ⟨rfl, by first | assumption | (constructor <;> omega)⟩) (RdVs.nil)) (by decide) (by decide) (fun v9 H10 hS11 hxx hvv9 => ?_)
    replace hS11 : St H0 NoB (fun b => S b ∧ b < H0.size) [rowE 3 v9 ([0] : List Int), rowE 22 v5 ([[]] : List (List Int)), blkE g1 (.cells #[I (a.Signs), vn, vt] 36), rdE vn a.Next, rdE vt a.Takes] H10 := hS11
    refine wpL_q (U := NoB) rfl (q_assign (v := v9) rfl rfl) ?_
    exact ⟨v9, a8_1, a8_4, rfl, hS11⟩
  rintro f12 H12 ⟨v9, a12_1, a12_4, a12_5, hS12⟩
  clear a8_1 a8_4
  refine wpF_seq ?_
  refine wpF_cut (fun f H => ∃ (v13 : Value), f 1 = PT g1 0 ∧ f 4 = v5 ∧ f 5 = v9 ∧ f 6 = v13 ∧ St H0 NoB (fun b => S b ∧ b < H0.size) [rowE 3 v13 ([0] : List Int), rowE 3 v9 ([0] : List Int), rowE 22 v5 ([[]] : List (List Int)), blkE g1 (.cells #[I (a.Signs), vn, vt] 36), rdE vn a.Next, rdE vt a.Takes] H) ?_ ?_
  · refine wpF_region ?_
    refine wpL_o rfl ?_
    refine e_buildSlice (vs := [I (0)]) (xs := ([0] : List Int)) rfl Try.underlying22 Try.zeroValue3 rfl Try.sizeOf3 (par1 (v0 := I (0)) rfl) rfl hS12 (RdVs.cons (Rd.int.2 ⟨rfl, by first | assumption | (constructor <;> omega)⟩) (RdVs.nil)) (by decide) (by decide) (fun v13 H14 hS15 hxx hvv13 => ?_)
    replace hS15 : St H0 NoB (fun b => S b ∧ b < H0.size) [rowE 3 v13 ([0] : List Int), rowE 3 v9 ([0] : List Int), rowE 22 v5 ([[]] : List (List Int)), blkE g1 (.cells #[I (a.Signs), vn, vt] 36), rdE vn a.Next, rdE vt a.Takes] H14 := hS15
    refine wpL_q (U := NoB) rfl (q_assign (v := v13) rfl rfl) ?_
    exact ⟨v13, a12_1, a12_4, a12_5, rfl, hS15⟩
  rintro f16 H16 ⟨v13, a16_1, a16_4, a16_5, a16_6, hS16⟩
  clear a12_1 a12_4 a12_5
  have hS17 : St H0 NoB (fun b => S b ∧ b < H0.size) [rowE 3 v13 ([] ++ [0] : List Int), rowE 3 v9 ([0] : List Int), rowE 22 v5 ([[]] : List (List Int)), blkE g1 (.cells #[I (a.Signs), vn, vt] 36), rdE vn a.Next, rdE vt a.Takes] H16 := by have h__ := hS16; skip; exact h__
  refine wpF_seq ?_
  refine wpF_block ?_
  refine wpF_loop (fun mz f H => ∃ (D : List Int), ∃ (A : List Int), ∃ (P : List (List Int)), ∃ (vP : Value), ∃ (vA : Value), ∃ (vM : Value), mz = a.Next.length + 1 - D.length ∧ (ShS a D A [] P [] 0 0) ∧ f 1 = PT g1 0 ∧ f 4 = vP ∧ f 5 = vA ∧ f 6 = vM ∧ St H0 NoB (fun b => S b ∧ b < H0.size) [rowE 22 vP (P : List (List Int)), rowE 3 vA (A : List Int), rowE 3 vM (D ++ A : List Int), blkE g1 (.cells #[I (a.Signs), vn, vt] 36), rdE vn a.Next, rdE vt a.Takes] H) (a.Next.length + 1 - ([] : List Int).length) ?_ ?_
  · exact ⟨([] : List Int), [0], [[]], v5, v9, v13, rfl, (ShS.start hW), a16_1, a16_4, a16_5, a16_6, (show St H0 NoB (fun b => S b ∧ b < H0.size) [rowE 22 v5 (([[]]) : List (List Int)), rowE 3 v9 (([0]) : List Int), rowE 3 v13 (([] : List Int) ++ ([0]) : List Int), blkE g1 (.cells #[I (a.Signs), vn, vt] 36), rdE vn a.Next, rdE vt a.Takes] H16 from (St.drop (show St H0 NoB (fun b => S b ∧ b < H0.size) [rowE 22 v5 ([[]] : List (List Int)), rowE 3 v9 ([0] : List Int), rowE 3 v13 ([] ++ [0] : List Int), blkE g1 (.cells #[I (a.Signs), vn, vt] 36), rdE vn a.Next, rdE vt a.Takes] H16 from ((hS17.front 1 rfl).front 2 rfl)) (sk (sk (sk (sk (sk (sk (List.Sublist.slnil)))))))))⟩
  intro m18 f18 H18 hI18
  obtain ⟨D, A, P, vP, vA, vM, hm18, hS, a18_1, a18_4, a18_5, a18_6, hS18⟩ := hI18
  clear a16_1 a16_4 a16_5 a16_6
  refine wpF_seq ?_
  refine wpF_seq ?_
  refine wpF_cut (fun f H => f 1 = PT g1 0 ∧ f 4 = vP ∧ f 5 = vA ∧ f 6 = vM ∧ f 19 = B (decide (0 < (P.length : Int))) ∧ H18 = H) ?_ ?_
  · refine wpF_region ?_
    refine wpL_q (U := NoB) rfl (q_move (v := vP) rfl a18_4) ?_
    refine wpL_q (U := NoB) rfl (q_lenRd rfl Try.underlying27 rfl (hS18.rowl 0 rfl)) ?_
    refine wpL_q (U := NoB) rfl (q_gtr rfl rfl rfl) ?_
    exact ⟨a18_1, a18_4, a18_5, a18_6, rfl, rfl⟩
  rintro f19 _ ⟨a19_1, a19_4, a19_5, a19_6, a19_19, rfl⟩
  clear a18_1 a18_4 a18_5 a18_6
  refine wpF_condP a19_19 (fun h19 => ?t113) (fun h19 => ?e113)
  case e113 =>
    have hln := hS.lens
    refine wpF_exit ?_
    refine atX_here ?_
    refine wpF_seq ?_
    refine wpF_cut (fun f H => f 2 = (Value.slice none 0 0) ∧ f 3 = B (false) ∧ H18 = H) ?_ ?_
    · refine wpF_region ?_
      refine wpL_q (U := NoB) rfl (q_assign (v := (Value.slice none 0 0)) rfl rfl) ?_
      refine wpL_q (U := NoB) rfl (q_assign (v := B (false)) rfl rfl) ?_
      exact ⟨rfl, rfl, rfl⟩
    rintro f112 _ ⟨a112_2, a112_3, rfl⟩
    clear a19_1 a19_19 a19_4 a19_5 a19_6
    refine wpF_ret ?_
    refine ⟨_, resT a112_2 (resT a112_3 resN), hS18.frame, ?_⟩
    show ∃ w_ m_ s_, (Value.tuple #[(Value.slice none 0 0), B (false)]) = Value.tuple #[w_, B s_] ∧ Rd (fun b => S b ∧ b < H0.size) H18 w_ m_ ∧ AnyIs a m_ s_
    exact ⟨(Value.slice none 0 0), [], false, rfl, rdNil, (hS.lost (by omega))⟩
  have hln := hS.lens
  have hfw := hS.few
  refine wpF_skip ?_
  refine wpF_block ?_
  refine wpF_seq ?_
  refine wpF_seq ?_
  refine wpF_cut (fun f H => f 1 = PT g1 0 ∧ f 4 = vP ∧ f 5 = vA ∧ f 6 = vM ∧ f 7 = I (0) ∧ H18 = H) ?_ ?_
  · refine wpF_region ?_
    refine wpL_q (U := NoB) rfl (q_assign (v := I (0)) rfl rfl) ?_
    exact ⟨a19_1, a19_4, a19_5, a19_6, rfl, rfl⟩
  rintro f21 _ ⟨a21_1, a21_4, a21_5, a21_6, a21_7, rfl⟩
  clear a19_1 a19_19 a19_4 a19_5 a19_6
  refine wpF_block ?_
  refine wpF_loop (fun mz f H => ∃ (i : Nat), mz = P.length - i ∧ (i ≤ P.length) ∧ (∀ j, j < i → nth a.Takes (nth A j).toNat = false) ∧ f 1 = PT g1 0 ∧ f 4 = vP ∧ f 5 = vA ∧ f 6 = vM ∧ f 7 = I ((i : Int)) ∧ St H0 NoB (fun b => S b ∧ b < H0.size) [rowE 22 vP (P : List (List Int)), rowE 3 vA (A : List Int), rowE 3 vM (D ++ A : List Int), blkE g1 (.cells #[I (a.Signs), vn, vt] 36), rdE vn a.Next, rdE vt a.Takes] H) (P.length - 0) ?_ ?_
  · exact ⟨0, rfl, Nat.zero_le _, (fun j hj => absurd hj (Nat.not_lt_zero j)), a21_1, a21_4, a21_5, a21_6, (Eq.trans a21_7 (congrArg I (by omega))), hS18⟩
  intro m22 f22 H22 hI22
  obtain ⟨i, hm22, hi, hno, a22_1, a22_4, a22_5, a22_6, a22_7, hS22⟩ := hI22
  clear a21_1 a21_4 a21_5 a21_6 a21_7
  refine wpF_seq ?_
  refine wpF_seq ?_
  refine wpF_cut (fun f H => f 1 = PT g1 0 ∧ f 4 = vP ∧ f 5 = vA ∧ f 6 = vM ∧ f 7 = I ((i : Int)) ∧ f 23 = B (decide ((i : Int) < (P.length : Int))) ∧ H22 = H) ?_ ?_
  · refine wpF_region ?_
    refine wpL_q (U := NoB) rfl (q_move (v := I ((i : Int))) rfl a22_7) ?_
    refine wpL_q (U := NoB) rfl (q_move (v := vP) rfl a22_4) ?_
    refine wpL_q (U := NoB) rfl (q_lenRd rfl Try.underlying27 rfl (hS22.rowl 0 rfl)) ?_
    refine wpL_q (U := NoB) rfl (q_lss rfl rfl rfl) ?_
    exact ⟨a22_1, a22_4, a22_5, a22_6, a22_7, rfl, rfl⟩
  rintro f23 _ ⟨a23_1, a23_4, a23_5, a23_6, a23_7, a23_23, rfl⟩
  clear a22_1 a22_4 a22_5 a22_6 a22_7
  refine wpF_condP a23_23 (fun h23 => ?t111) (fun h23 => ?e111)
  case t111 =>
    have hri := hS.rng (k := i) (by omega)
    have hwl := hS.wlen (k := i) (by omega)
    refine wpF_skip ?_
    refine wpF_seq ?_
    refine wpF_block ?_
    refine wpF_seq ?_
    refine wpF_cut (fun f H => f 1 = PT g1 0 ∧ f 4 = vP ∧ f 5 = vA ∧ f 6 = vM ∧ f 7 = I ((i : Int)) ∧ f 33 = B (nth a.Takes ((nth A i).toNat)) ∧ H22 = H) ?_ ?_
    · refine wpF_drawn [] [] (fun _ _ => False) (by kernel_rfl) (by kernel_rfl) ?_
      refine wpR_q 0 (by kernel_rfl) rfl (quietAt rfl rfl (q_fieldAddr rfl Try.underlying36 rfl Try.sizeOf32 a23_1)) ?_
      refine wpR_q 1 (by kernel_rfl) rfl (quietAt rfl rfl (q_loadBlk rfl rfl Try.isAgg32 (hS22.blk 3 rfl) rfl (labU_not [] rfl (List.forall_mem_nil _)))) ?_
      refine wpR_q 2 (by kernel_rfl) rfl (quietAt rfl rfl (q_move (v := vA) rfl a23_5)) ?_
      refine wpR_q 3 (by kernel_rfl) rfl (quietAt rfl rfl (q_move (v := I ((i : Int))) rfl a23_7)) ?_
      refine wpR_q 4 (by kernel_rfl) rfl (quietAt rfl rfl (q_indexRd (k := i) rfl Try.underlying22 el_Int_3_AutoQ4 rfl rfl (hS22.rowl 1 rfl) (by omega) (by omega))) ?_
      refine wpR_q 5 (by kernel_rfl) rfl (quietAt rfl rfl (q_loadInt (k := i) rfl rfl el_Int_3_AutoQ4 (hS22.rowl 1 rfl) (by omega) (labU_sub [] rfl (List.forall_mem_nil _)))) ?_
      refine wpR_q 6 (by kernel_rfl) rfl (quietAt rfl rfl (q_indexRd (k := (nth A i).toNat) rfl Try.underlying32 el_Bool_4_AutoQ4 rfl rfl (hS22.rdl 5 rfl) (by omega) (by omega))) ?_
      refine wpR_q 7 (by kernel_rfl) rfl (quietAt rfl rfl (q_loadBool (k := (nth A i).toNat) rfl rfl el_Bool_4_AutoQ4 (hS22.rdl 5 rfl) (by omega) (labU_sub [] rfl (List.forall_mem_nil _)))) ?_
      refine wpR_end (by kernel_rfl) ?_
      exact ⟨a23_1, a23_4, a23_5, a23_6, a23_7, rfl, rfl⟩
    rintro f26 _ ⟨a26_1, a26_4, a26_5, a26_6, a26_7, a26_33, rfl⟩
    clear a23_1 a23_23 a23_4 a23_5 a23_6 a23_7
    refine wpF_cond a26_33 (fun h33 => ?t32) (fun h33 => ?e32)
    case e32 =>
      have hgn : nth a.Takes (nth A i).toNat = false := by simpa using h33
      refine wpF_skip ?_
      refine wpF_cut (fun f H => f 1 = PT g1 0 ∧ f 4 = vP ∧ f 5 = vA ∧ f 6 = vM ∧ f 7 = I ((i : Int) + 1) ∧ H22 = H) ?_ ?_
      · refine wpF_region ?_
        refine wpL_q (U := NoB) rfl (q_move (v := I ((i : Int))) rfl a26_7) ?_
        refine wpL_q (U := NoB) rfl (q_add rfl rfl rfl (by constructor <;> omega)) ?_
        refine wpL_q (U := NoB) rfl (q_assign (v := I ((i : Int) + 1)) rfl rfl) ?_
        exact ⟨a26_1, a26_4, a26_5, a26_6, rfl, rfl⟩
      rintro f31 _ ⟨a31_1, a31_4, a31_5, a31_6, a31_7, rfl⟩
      clear a26_1 a26_33 a26_4 a26_5 a26_6 a26_7
      refine ⟨_, ?_, i + 1, rfl, (by omega), (all_succ hno hgn), a31_1, a31_4, a31_5, a31_6, (Eq.trans a31_7 (congrArg I (by omega))), hS22⟩
      omega
    refine wpF_seq ?_
    obtain ⟨u28, huu28, hlu28⟩ := hS22.rowElem 0 rfl i (by omega)
    have hS29 : St H0 NoB (fun b => S b ∧ b < H0.size) [rdE u28 (nth P i), rowE 22 vP (P : List (List Int)), rowE 3 vA (A : List Int), rowE 3 vM (D ++ A : List Int), blkE g1 (.cells #[I (a.Signs), vn, vt] 36), rdE vn a.Next, rdE vt a.Takes] H22 := hS22.rd huu28
    refine wpF_cut (fun f H => f 2 = u28 ∧ f 3 = B (true) ∧ St H0 NoB (fun b => S b ∧ b < H0.size) [rdE u28 (nth P i), rowE 22 vP (P : List (List Int)), rowE 3 vA (A : List Int), rowE 3 vM (D ++ A : List Int), blkE g1 (.cells #[I (a.Signs), vn, vt] 36), rdE vn a.Next, rdE vt a.Takes] H) ?_ ?_
    · refine wpF_region ?_
      refine wpL_q (U := NoB) rfl (q_move (v := vP) rfl a26_4) ?_
      refine wpL_q (U := NoB) rfl (q_move (v := I ((i : Int))) rfl a26_7) ?_
      refine wpL_q (U := NoB) rfl (q_indexRd (k := i) rfl Try.underlying27 el_LInt_22_AutoQ4 rfl rfl (hS22.rowl 0 rfl) (by omega) (by omega)) ?_
      refine wpL_q (U := NoB) rfl (q_loadE rfl rfl (hlu28 Try.prog 22 _ el_LInt_22_AutoQ4 (fun _ h => False.elim h))) ?_
      refine wpL_q (U := NoB) rfl (q_assign (v := u28) rfl rfl) ?_
      refine wpL_q (U := NoB) rfl (q_assign (v := B (true)) rfl rfl) ?_
      exact ⟨rfl, rfl, hS29⟩
    rintro f30 H30 ⟨a30_2, a30_3, hS30⟩
    clear a26_1 a26_33 a26_4 a26_5 a26_6 a26_7
    refine wpF_ret ?_
    refine ⟨_, resT a30_2 (resT a30_3 resN), hS30.frame, ?_⟩
    show ∃ w_ m_ s_, (Value.tuple #[u28, B (true)]) = Value.tuple #[w_, B s_] ∧ Rd (fun b => S b ∧ b < H0.size) H30 w_ m_ ∧ AnyIs a m_ s_
    exact ⟨u28, nth P i, true, rfl, (hS30.result (hS30.rdS 0 rfl)), (hS.yes hW (by omega) hno (by simpa using h33))⟩
  have hgl2 : ∀ j, j < A.length → nth a.Takes (nth A j).toNat = false := fun j hj => hno j (by omega)
  refine wpF_exit ?_
  refine atX_here ?_
  refine wpF_seq ?_
  refine wpF_cut (fun f H => f 1 = PT g1 0 ∧ f 4 = vP ∧ f 5 = vA ∧ f 6 = vM ∧ f 8 = (Value.slice none 0 0) ∧ H22 = H) ?_ ?_
  · refine wpF_region ?_
    refine wpL_q (U := NoB) rfl (q_assign (v := (Value.slice none 0 0)) rfl rfl) ?_
    exact ⟨a23_1, a23_4, a23_5, a23_6, rfl, rfl⟩
  rintro f33 _ ⟨a33_1, a33_4, a33_5, a33_6, a33_8, rfl⟩
  clear a23_1 a23_23 a23_4 a23_5 a23_6 a23_7
  refine wpF_seq ?_
  refine wpF_cut (fun f H => f 1 = PT g1 0 ∧ f 4 = vP ∧ f 5 = vA ∧ f 6 = vM ∧ f 8 = (Value.slice none 0 0) ∧ f 9 = (Value.slice none 0 0) ∧ H22 = H) ?_ ?_
  · refine wpF_region ?_
    refine wpL_q (U := NoB) rfl (q_assign (v := (Value.slice none 0 0)) rfl rfl) ?_
    exact ⟨a33_1, a33_4, a33_5, a33_6, a33_8, rfl, rfl⟩
  rintro f34 _ ⟨a34_1, a34_4, a34_5, a34_6, a34_8, a34_9, rfl⟩
  clear a33_1 a33_4 a33_5 a33_6 a33_8
  have hS35 : St H0 NoB (fun b => S b ∧ b < H0.size) [rowE 22 (Value.slice none 0 0) ([] : List (List Int)), rowE 22 vP (P : List (List Int)), rowE 3 vA (A : List Int), rowE 3 vM (D ++ A : List Int), blkE g1 (.cells #[I (a.Signs), vn, vt] 36), rdE vn a.Next, rdE vt a.Takes] H22 := hS22.row0 22
  have hS36 : St H0 NoB (fun b => S b ∧ b < H0.size) [rowE 3 (Value.slice none 0 0) ([] : List Int), rowE 22 (Value.slice none 0 0) ([] : List (List Int)), rowE 22 vP (P : List (List Int)), rowE 3 vA (A : List Int), rowE 3 vM (D ++ A : List Int), blkE g1 (.cells #[I (a.Signs), vn, vt] 36), rdE vn a.Next, rdE vt a.Takes] H22 := hS35.row0 3
  refine wpF_seq ?_
  refine wpF_seq ?_
  refine wpF_cut (fun f H => f 1 = PT g1 0 ∧ f 4 = vP ∧ f 5 = vA ∧ f 6 = vM ∧ f 8 = (Value.slice none 0 0) ∧ f 9 = (Value.slice none 0 0) ∧ f 10 = I (0) ∧ H22 = H) ?_ ?_
  · refine wpF_region ?_
    refine wpL_q (U := NoB) rfl (q_assign (v := I (0)) rfl rfl) ?_
    exact ⟨a34_1, a34_4, a34_5, a34_6, a34_8, a34_9, rfl, rfl⟩
  rintro f37 _ ⟨a37_1, a37_4, a37_5, a37_6, a37_8, a37_9, a37_10, rfl⟩
  clear a34_1 a34_4 a34_5 a34_6 a34_8 a34_9
  refine wpF_block ?_
  refine wpF_loop (fun mz f H => ∃ (u : Nat), ∃ (T : List Int), ∃ (Q : List (List Int)), ∃ (vT : Value), ∃ (vQ : Value), ∃ (vM2 : Value), mz = P.length - u ∧ (u ≤ P.length) ∧ (ShS a D A T P Q u 0) ∧ f 1 = PT g1 0 ∧ f 4 = vP ∧ f 5 = vA ∧ f 6 = vM2 ∧ f 8 = vQ ∧ f 9 = vT ∧ f 10 = I ((u : Int)) ∧ St H0 NoB (fun b => S b ∧ b < H0.size) [rowE 22 vQ (Q : List (List Int)), rowE 3 vT (T : List Int), rowE 3 vM2 (D ++ A ++ T : List Int), rowE 22 vP (P : List (List Int)), rowE 3 vA (A : List Int), blkE g1 (.cells #[I (a.Signs), vn, vt] 36), rdE vn a.Next, rdE vt a.Takes] H) (P.length - 0) ?_ ?_
  · exact ⟨0, [], [], (Value.slice none 0 0), (Value.slice none 0 0), vM, rfl, Nat.zero_le _, hS, a37_1, a37_4, a37_5, a37_6, a37_8, a37_9, (Eq.trans a37_10 (congrArg I (by omega))), (show St H0 NoB (fun b => S b ∧ b < H0.size) [rowE 22 (Value.slice none 0 0) (([]) : List (List Int)), rowE 3 (Value.slice none 0 0) (([]) : List Int), rowE 3 vM (D ++ A ++ ([]) : List Int), rowE 22 vP (P : List (List Int)), rowE 3 vA (A : List Int), blkE g1 (.cells #[I (a.Signs), vn, vt] 36), rdE vn a.Next, rdE vt a.Takes] H22 from (by have h__ := (St.drop (show St H0 NoB (fun b => S b ∧ b < H0.size) [rowE 22 (Value.slice none 0 0) ([] : List (List Int)), rowE 3 (Value.slice none 0 0) ([] : List Int), rowE 3 vM (D ++ A : List Int), rowE 22 vP (P : List (List Int)), rowE 3 vA (A : List Int), blkE g1 (.cells #[I (a.Signs), vn, vt] 36), rdE vn a.Next, rdE vt a.Takes] H22 from (((hS36.front 4 rfl).front 1 rfl).front 2 rfl)) (sk (sk (sk (sk (sk (sk (sk (sk (List.Sublist.slnil)))))))))); rw [show D ++ A = D ++ A ++ [] by simp] at h__; exact h__))⟩
  intro m38 f38 H38 hI38
  obtain ⟨u, T, Q, vT, vQ, vM2, hm38, hu, hS4, a38_1, a38_4, a38_5, a38_6, a38_8, a38_9, a38_10, hS38⟩ := hI38
  clear a37_1 a37_10 a37_4 a37_5 a37_6 a37_8 a37_9
  refine wpF_seq ?_
  refine wpF_seq ?_
  refine wpF_cut (fun f H => f 1 = PT g1 0 ∧ f 4 = vP ∧ f 5 = vA ∧ f 6 = vM2 ∧ f 8 = vQ ∧ f 9 = vT ∧ f 10 = I ((u : Int)) ∧ f 41 = B (decide ((u : Int) < (P.length : Int))) ∧ H38 = H) ?_ ?_
  · refine wpF_region ?_
    refine wpL_q (U := NoB) rfl (q_move (v := I ((u : Int))) rfl a38_10) ?_
    refine wpL_q (U := NoB) rfl (q_move (v := vP) rfl a38_4) ?_
    refine wpL_q (U := NoB) rfl (q_lenRd rfl Try.underlying27 rfl (hS38.rowl 3 rfl)) ?_
    refine wpL_q (U := NoB) rfl (q_lss rfl rfl rfl) ?_
    exact ⟨a38_1, a38_4, a38_5, a38_6, a38_8, a38_9, a38_10, rfl, rfl⟩
  rintro f39 _ ⟨a39_1, a39_4, a39_5, a39_6, a39_8, a39_9, a39_10, a39_41, rfl⟩
  clear a38_1 a38_10 a38_4 a38_5 a38_6 a38_8 a38_9
  refine wpF_condP a39_41 (fun h41 => ?t110) (fun h41 => ?e110)
  case e110 =>
    have hS5 := hS4.round (by omega) hgl2
    refine wpF_exit ?_
    refine atX_here ?_
    refine wpF_seq ?_
    refine wpF_cut (fun f H => f 1 = PT g1 0 ∧ f 4 = vQ ∧ f 6 = vM2 ∧ f 9 = vT ∧ H38 = H) ?_ ?_
    · refine wpF_region ?_
      refine wpL_q (U := NoB) rfl (q_move (v := vQ) rfl a39_8) ?_
      refine wpL_q (U := NoB) rfl (q_assign (v := vQ) rfl rfl) ?_
      exact ⟨a39_1, rfl, a39_6, a39_9, rfl⟩
    rintro f108 _ ⟨a108_1, a108_4, a108_6, a108_9, rfl⟩
    clear a39_1 a39_10 a39_4 a39_41 a39_5 a39_6 a39_8 a39_9
    refine wpF_cut (fun f H => f 1 = PT g1 0 ∧ f 4 = vQ ∧ f 5 = vT ∧ f 6 = vM2 ∧ H38 = H) ?_ ?_
    · refine wpF_region ?_
      refine wpL_q (U := NoB) rfl (q_move (v := vT) rfl a108_9) ?_
      refine wpL_q (U := NoB) rfl (q_assign (v := vT) rfl rfl) ?_
      exact ⟨a108_1, a108_4, rfl, a108_6, rfl⟩
    rintro f109 _ ⟨a109_1, a109_4, a109_5, a109_6, rfl⟩
    clear a108_1 a108_4 a108_6 a108_9
    refine ⟨_, ?_, D ++ A, T, Q, vQ, vT, vM2, rfl, hS5, a109_1, a109_4, a109_5, a109_6, (show St H0 NoB (fun b => S b ∧ b < H0.size) [rowE 22 vQ (Q : List (List Int)), rowE 3 vT (T : List Int), rowE 3 vM2 ((D ++ A) ++ T : List Int), blkE g1 (.cells #[I (a.Signs), vn, vt] 36), rdE vn a.Next, rdE vt a.Takes] H38 from (hS38.drop (sk (sk (sk (sn (sn (sk (sk (sk (List.Sublist.slnil)))))))))))⟩
    rw [List.length_append]; omega
  have haw : u < A.length := by omega
  have hru := hS4.rng haw
  have hrow := hW.rows (nth A u).toNat (by omega)
  have hwl := hS4.wlen haw
  refine wpF_skip ?_
  refine wpF_seq ?_
  refine wpF_block ?_
  refine wpF_seq ?_
  refine wpF_cut (fun f H => f 1 = PT g1 0 ∧ f 4 = vP ∧ f 5 = vA ∧ f 6 = vM2 ∧ f 8 = vQ ∧ f 9 = vT ∧ f 10 = I ((u : Int)) ∧ f 11 = I (0) ∧ H38 = H) ?_ ?_
  · refine wpF_region ?_
    refine wpL_q (U := NoB) rfl (q_assign (v := I (0)) rfl rfl) ?_
    exact ⟨a39_1, a39_4, a39_5, a39_6, a39_8, a39_9, a39_10, rfl, rfl⟩
  rintro f41 _ ⟨a41_1, a41_4, a41_5, a41_6, a41_8, a41_9, a41_10, a41_11, rfl⟩
  clear a39_1 a39_10 a39_4 a39_41 a39_5 a39_6 a39_8 a39_9
  refine wpF_block ?_
  refine wpF_loop (fun mz f H => ∃ (c : Nat), ∃ (T6 : List Int), ∃ (Q6 : List (List Int)), ∃ (vT6 : Value), ∃ (vQ6 : Value), ∃ (vM6 : Value), mz = a.Signs.toNat - c ∧ (c ≤ a.Signs.toNat) ∧ (ShS a D A T6 P Q6 u c) ∧ f 1 = PT g1 0 ∧ f 4 = vP ∧ f 5 = vA ∧ f 6 = vM6 ∧ f 8 = vQ6 ∧ f 9 = vT6 ∧ f 10 = I ((u : Int)) ∧ f 11 = I ((c : Int)) ∧ St H0 NoB (fun b => S b ∧ b < H0.size) [rowE 22 vQ6 (Q6 : List (List Int)), rowE 3 vT6 (T6 : List Int), rowE 3 vM6 (D ++ A ++ T6 : List Int), rowE 22 vP (P : List (List Int)), rowE 3 vA (A : List Int), blkE g1 (.cells #[I (a.Signs), vn, vt] 36), rdE vn a.Next, rdE vt a.Takes] H) (a.Signs.toNat - 0) ?_ ?_
  · exact ⟨0, T, Q, vT, vQ, vM2, rfl, Nat.zero_le _, hS4, a41_1, a41_4, a41_5, a41_6, a41_8, a41_9, a41_10, (Eq.trans a41_11 (congrArg I (by omega))), hS38⟩
  intro m42 f42 H42 hI42
  obtain ⟨c, T6, Q6, vT6, vQ6, vM6, hm42, hc, hS6, a42_1, a42_4, a42_5, a42_6, a42_8, a42_9, a42_10, a42_11, hS42⟩ := hI42
  clear a41_1 a41_10 a41_11 a41_4 a41_5 a41_6 a41_8 a41_9
  refine wpF_seq ?_
  refine wpF_seq ?_
  refine wpF_cut (fun f H => f 1 = PT g1 0 ∧ f 4 = vP ∧ f 5 = vA ∧ f 6 = vM6 ∧ f 8 = vQ6 ∧ f 9 = vT6 ∧ f 10 = I ((u : Int)) ∧ f 11 = I ((c : Int)) ∧ f 47 = B (decide ((c : Int) < a.Signs)) ∧ H42 = H) ?_ ?_
  · refine wpF_region ?_
    refine wpL_q (U := NoB) rfl (q_move (v := I ((c : Int))) rfl a42_11) ?_
    refine wpL_q (U := NoB) rfl (q_fieldAddr rfl Try.underlying36 rfl Try.sizeOf3 a42_1) ?_
    refine wpL_q (U := NoB) rfl (q_loadBlk rfl rfl Try.isAgg3 (hS42.blk 5 rfl) rfl (fun h => h)) ?_
    refine wpL_q (U := NoB) rfl (q_lss rfl rfl rfl) ?_
    exact ⟨a42_1, a42_4, a42_5, a42_6, a42_8, a42_9, a42_10, a42_11, rfl, rfl⟩
  rintro f43 _ ⟨a43_1, a43_4, a43_5, a43_6, a43_8, a43_9, a43_10, a43_11, a43_47, rfl⟩
  clear a42_1 a42_10 a42_11 a42_4 a42_5 a42_6 a42_8 a42_9
  refine wpF_condP a43_47 (fun h47 => ?t107) (fun h47 => ?e107)
  case e107 =>
    have hS7 := hS6.turn (by omega)
    refine wpF_exit ?_
    refine atX_here ?_
    refine wpF_cut (fun f H => f 1 = PT g1 0 ∧ f 4 = vP ∧ f 5 = vA ∧ f 6 = vM6 ∧ f 8 = vQ6 ∧ f 9 = vT6 ∧ f 10 = I ((u : Int) + 1) ∧ H42 = H) ?_ ?_
    · refine wpF_region ?_
      refine wpL_q (U := NoB) rfl (q_move (v := I ((u : Int))) rfl a43_10) ?_
      refine wpL_q (U := NoB) rfl (q_add rfl rfl rfl (by constructor <;> omega)) ?_
      refine wpL_q (U := NoB) rfl (q_assign (v := I ((u : Int) + 1)) rfl rfl) ?_
      exact ⟨a43_1, a43_4, a43_5, a43_6, a43_8, a43_9, rfl, rfl⟩
    rintro f106 _ ⟨a106_1, a106_4, a106_5, a106_6, a106_8, a106_9, a106_10, rfl⟩
    clear a43_1 a43_10 a43_11 a43_4 a43_47 a43_5 a43_6 a43_8 a43_9
    refine ⟨_, ?_, u + 1, T6, Q6, vT6, vQ6, vM6, rfl, (by omega), hS7, a106_1, a106_4, a106_5, a106_6, a106_8, a106_9, (Eq.trans a106_10 (congrArg I (by omega))), hS42⟩
    omega
  have hcs : c < a.Signs.toNat := by omega
  have hf6 := hS6.few
  have hl6 := hS6.lens
  have hto := InA.step (a := a) (s := nth A u) (c := (c : Int)) hW hru ⟨by omega, by omega⟩
  have hto1 := hto.1
  have hto2 := hto.2
  refine wpF_skip ?_
  refine wpF_seq ?_
  refine wpF_block ?_
  refine wpF_seq ?_
  obtain ⟨u45o7, huu45o7, hlu45o7⟩ := (Rd.list.1 (hS42.rdS 6 rfl)).elem ((nth A u).toNat) (by omega)
  have hS45o7 : St H0 NoB (fun b => S b ∧ b < H0.size) [rdE u45o7 (nth a.Next ((nth A u).toNat)), rowE 22 vQ6 (Q6 : List (List Int)), rowE 3 vT6 (T6 : List Int), rowE 3 vM6 (D ++ A ++ T6 : List Int), rowE 22 vP (P : List (List Int)), rowE 3 vA (A : List Int), blkE g1 (.cells #[I (a.Signs), vn, vt] 36), rdE vn a.Next, rdE vt a.Takes] H42 := hS42.rd huu45o7
  refine wpF_cut (fun f H => f 1 = PT g1 0 ∧ f 4 = vP ∧ f 5 = vA ∧ f 6 = vM6 ∧ f 8 = vQ6 ∧ f 9 = vT6 ∧ f 10 = I ((u : Int)) ∧ f 11 = I ((c : Int)) ∧ f 12 = I (nth (nth a.Next ((nth A u).toNat)) c) ∧ H42 = H) ?_ ?_
  · refine wpF_drawn [] [] (fun _ _ => False) (by kernel_rfl) (by kernel_rfl) ?_
    refine wpR_q 0 (by kernel_rfl) rfl (quietAt rfl rfl (q_fieldAddr rfl Try.underlying36 rfl Try.sizeOf27 a43_1)) ?_
    refine wpR_q 1 (by kernel_rfl) rfl (quietAt rfl rfl (q_loadBlk rfl rfl Try.isAgg27 (hS42.blk 5 rfl) rfl (labU_not [] rfl (List.forall_mem_nil _)))) ?_
    refine wpR_q 2 (by kernel_rfl) rfl (quietAt rfl rfl (q_move (v := vA) rfl a43_5)) ?_
    refine wpR_q 3 (by kernel_rfl) rfl (quietAt rfl rfl (q_move (v := I ((u : Int))) rfl a43_10)) ?_
    refine wpR_q 4 (by kernel_rfl) rfl (quietAt rfl rfl (q_indexRd (k := u) rfl Try.underlying22 el_Int_3_AutoQ4 rfl rfl (hS42.rowl 4 rfl) (by omega) (by omega))) ?_
    refine wpR_q 5 (by kernel_rfl) rfl (quietAt rfl rfl (q_loadInt (k := u) rfl rfl el_Int_3_AutoQ4 (hS42.rowl 4 rfl) (by omega) (labU_sub [] rfl (List.forall_mem_nil _)))) ?_
    refine wpR_q 6 (by kernel_rfl) rfl (quietAt rfl rfl (q_indexRd (k := (nth A u).toNat) rfl Try.underlying27 el_LInt_22_AutoQ4 rfl rfl (hS42.rdl 6 rfl) (by omega) (by omega))) ?_
    refine wpR_q 7 (by kernel_rfl) rfl (quietAt rfl rfl (q_loadE rfl rfl (hlu45o7 Try.prog 22 _ el_LInt_22_AutoQ4 (labU_sub [] rfl (List.forall_mem_nil _))))) ?_
    refine wpR_q 8 (by kernel_rfl) rfl (quietAt rfl rfl (q_move (v := I ((c : Int))) rfl a43_11)) ?_
    refine wpR_q 9 (by kernel_rfl) rfl (quietAt rfl rfl (q_indexRd (k := c) rfl Try.underlying22 el_Int_3_AutoQ4 rfl rfl (hS45o7.rdl 0 rfl) (by omega) (by omega))) ?_
    refine wpR_q 10 (by kernel_rfl) rfl (quietAt rfl rfl (q_loadInt (k := c) rfl rfl el_Int_3_AutoQ4 (hS45o7.rdl 0 rfl) (by omega) (labU_sub [] rfl (List.forall_mem_nil _)))) ?_
    refine wpR_q 11 (by kernel_rfl) rfl (quietAt rfl rfl (q_assign (v := I (nth (nth a.Next ((nth A u).toNat)) c)) rfl rfl)) ?_
    refine wpR_end (by kernel_rfl) ?_
    exact ⟨a43_1, a43_4, a43_5, a43_6, a43_8, a43_9, a43_10, a43_11, rfl, rfl⟩
  rintro f46 _ ⟨a46_1, a46_4, a46_5, a46_6, a46_8, a46_9, a46_10, a46_11, a46_12, rfl⟩
  clear a43_1 a43_10 a43_11 a43_4 a43_47 a43_5 a43_6 a43_8 a43_9
  have b47 := Eq.trans a46_12 (congrArg I (rfl))
  refine wpF_seq ?_
  refine wpF_seq ?_
  refine wpF_cut (fun f H => f 1 = PT g1 0 ∧ f 4 = vP ∧ f 5 = vA ∧ f 6 = vM6 ∧ f 8 = vQ6 ∧ f 9 = vT6 ∧ f 10 = I ((u : Int)) ∧ f 11 = I ((c : Int)) ∧ f 12 = I (stepA a (nth A u) (c : Int)) ∧ f 63 = B (hasB (D ++ A ++ T6) (stepA a (nth A u) (c : Int))) ∧ St H0 NoB (fun b => S b ∧ b < H0.size) [rowE 22 vQ6 (Q6 : List (List Int)), rowE 3 vT6 (T6 : List Int), rowE 3 vM6 (D ++ A ++ T6 : List Int), rowE 22 vP (P : List (List Int)), rowE 3 vA (A : List Int), blkE g1 (.cells #[I (a.Signs), vn, vt] 36), rdE vn a.Next, rdE vt a.Takes] H) ?_ ?_
  · refine wpF_region ?_
    refine wpL_q (U := NoB) rfl (q_move (v := vM6) rfl a46_6) ?_
    refine wpL_q (U := NoB) rfl (q_move (v := I (stepA a (nth A u) (c : Int))) rfl b47) ?_
    refine wpL_o rfl ?_
    refine e_call rfl Try.call72 (arr2 (v0 := vM6) (v1 := I (stepA a (nth A u) (c : Int))) rfl rfl) (Has_R vM6 (D ++ A ++ T6) (stepA a (nth A u) (c : Int)) (hS42.rowN 2 rfl) ) ?_
    rintro _ H48 ⟨hxx, rfl⟩
    have hS49 : St H0 NoB (fun b => S b ∧ b < H0.size) [rowE 22 vQ6 (Q6 : List (List Int)), rowE 3 vT6 (T6 : List Int), rowE 3 vM6 (D ++ A ++ T6 : List Int), rowE 22 vP (P : List (List Int)), rowE 3 vA (A : List Int), blkE g1 (.cells #[I (a.Signs), vn, vt] 36), rdE vn a.Next, rdE vt a.Takes] H48 := hS42.ext hxx
    exact ⟨a46_1, a46_4, a46_5, a46_6, a46_8, a46_9, a46_10, a46_11, b47, rfl, hS49⟩
  rintro f51 H51 ⟨a51_1, a51_4, a51_5, a51_6, a51_8, a51_9, a51_10, a51_11, a51_12, a51_63, hS51⟩
  clear a46_1 a46_10 a46_11 a46_4 a46_5 a46_6 a46_8 a46_9
  refine wpF_cond a51_63 (fun h63 => ?t105) (fun h63 => ?e105)
  case t105 =>
    have hS8 := hS6.has haw hcs h63
    refine wpF_exit ?_
    refine atX_here ?_
    refine wpF_cut (fun f H => f 1 = PT g1 0 ∧ f 4 = vP ∧ f 5 = vA ∧ f 6 = vM6 ∧ f 8 = vQ6 ∧ f 9 = vT6 ∧ f 10 = I ((u : Int)) ∧ f 11 = I ((c : Int) + 1) ∧ H51 = H) ?_ ?_
    · refine wpF_region ?_
      refine wpL_q (U := NoB) rfl (q_move (v := I ((c : Int))) rfl a51_11) ?_
      refine wpL_q (U := NoB) rfl (q_add rfl rfl rfl (by constructor <;> omega)) ?_
      refine wpL_q (U := NoB) rfl (q_assign (v := I ((c : Int) + 1)) rfl rfl) ?_
      exact ⟨a51_1, a51_4, a51_5, a51_6, a51_8, a51_9, a51_10, rfl, rfl⟩
    rintro f53 _ ⟨a53_1, a53_4, a53_5, a53_6, a53_8, a53_9, a53_10, a53_11, rfl⟩
    clear a51_1 a51_10 a51_11 a51_12 a51_4 a51_5 a51_6 a51_63 a51_8 a51_9
    refine ⟨_, ?_, c + 1, T6, Q6, vT6, vQ6, vM6, rfl, (by omega), hS8, a53_1, a53_4, a53_5, a53_6, a53_8, a53_9, a53_10, (Eq.trans a53_11 (congrArg I (by omega))), hS51⟩
    omega
  have hS8 := hS6.new hW haw hcs (by simpa using h63)
  refine wpF_skip ?_
  refine wpF_seq ?_
  refine wpF_cut (fun f H => ∃ (v59 : Value), f 1 = PT g1 0 ∧ f 4 = vP ∧ f 5 = vA ∧ f 6 = v59 ∧ f 8 = vQ6 ∧ f 9 = vT6 ∧ f 10 = I ((u : Int)) ∧ f 11 = I ((c : Int)) ∧ f 12 = I (stepA a (nth A u) (c : Int)) ∧ St H0 NoB (fun b => S b ∧ b < H0.size) [rowE 3 v59 (D ++ A ++ (T6 ++ [(stepA a (nth A u) (c : Int))]) : List Int), rowE 22 vQ6 (Q6 : List (List Int)), rowE 3 vT6 (T6 : List Int), rowE 22 vP (P : List (List Int)), rowE 3 vA (A : List Int), blkE g1 (.cells #[I (a.Signs), vn, vt] 36), rdE vn a.Next, rdE vt a.Takes] H) ?_ ?_
  · refine wpF_region ?_
    refine wpL_q (U := NoB) rfl (q_move (v := vM6) rfl a51_6) ?_
    refine wpL_q (U := NoB) rfl (q_move (v := I (stepA a (nth A u) (c : Int))) rfl a51_12) ?_
    refine wpL_o rfl ?_
    refine e_buildSlice (vs := [I (stepA a (nth A u) (c : Int))]) (xs := ([stepA a (nth A u) (c : Int)] : List Int)) rfl Try.underlying22 Try.zeroValue3 rfl Try.sizeOf3 (par1 (v0 := I (stepA a (nth A u) (c : Int))) rfl) rfl hS51 (RdVs.cons (Rd.int.2 ⟨rfl, by first | assumption | (constructor <;> omega)⟩) (RdVs.nil)) (by decide) (by decide) (fun v54 H55 hS56 hxx hvv54 => ?_)
    replace hS56 : St H0 NoB (fun b => S b ∧ b < H0.size) [rowE 3 v54 ([stepA a (nth A u) (c : Int)] : List Int), rowE 22 vQ6 (Q6 : List (List Int)), rowE 3 vT6 (T6 : List Int), rowE 3 vM6 (D ++ A ++ T6 : List Int), rowE 22 vP (P : List (List Int)), rowE 3 vA (A : List Int), blkE g1 (.cells #[I (a.Signs), vn, vt] 36), rdE vn a.Next, rdE vt a.Takes] H55 := hS56
    have hS57 : St H0 NoB (fun b => S b ∧ b < H0.size) [rdE v54 ([stepA a (nth A u) (c : Int)] : List Int), rowE 22 vQ6 (Q6 : List (List Int)), rowE 3 vT6 (T6 : List Int), rowE 3 vM6 (D ++ A ++ T6 : List Int), rowE 22 vP (P : List (List Int)), rowE 3 vA (A : List Int), blkE g1 (.cells #[I (a.Signs), vn, vt] 36), rdE vn a.Next, rdE vt a.Takes] H55 := St.fin hS56
    have hS58 : St H0 NoB (fun b => S b ∧ b < H0.size) [rowE 3 vM6 (D ++ A ++ T6 : List Int), rdE v54 ([stepA a (nth A u) (c : Int)] : List Int), rowE 22 vQ6 (Q6 : List (List Int)), rowE 3 vT6 (T6 : List Int), rowE 22 vP (P : List (List Int)), rowE 3 vA (A : List Int), blkE g1 (.cells #[I (a.Signs), vn, vt] 36), rdE vn a.Next, rdE vt a.Takes] H55 := (hS57.front 3 rfl)
    refine wpL_o rfl ?_
    refine e_append rfl Try.underlying22 em_Int_3_AutoQ4 rfl rfl hS58 (hS58.rdS 1 rfl) (fun _ h => h) (by have hb : GoT.bytes Int = 8 := rfl; simp [hb]; omega) (by decide) (fun v59 H60 hS61 hxx => ?_)
    replace hS61 : St H0 NoB (fun b => S b ∧ b < H0.size) [rowE 3 v59 ((D ++ A ++ T6) ++ ([stepA a (nth A u) (c : Int)]) : List Int), rdE v54 ([stepA a (nth A u) (c : Int)] : List Int), rowE 22 vQ6 (Q6 : List (List Int)), rowE 3 vT6 (T6 : List Int), rowE 22 vP (P : List (List Int)), rowE 3 vA (A : List Int), blkE g1 (.cells #[I (a.Signs), vn, vt] 36), rdE vn a.Next, rdE vt a.Takes] H60 := hS61
    have hS62 : St H0 NoB (fun b => S b ∧ b < H0.size) [rowE 3 v59 (D ++ A ++ (T6 ++ [(stepA a (nth A u) (c : Int))]) : List Int), rdE v54 ([stepA a (nth A u) (c : Int)] : List Int), rowE 22 vQ6 (Q6 : List (List Int)), rowE 3 vT6 (T6 : List Int), rowE 22 vP (P : List (List Int)), rowE 3 vA (A : List Int), blkE g1 (.cells #[I (a.Signs), vn, vt] 36), rdE vn a.Next, rdE vt a.Takes] H60 := by rw [show (D ++ A ++ (T6 ++ [(stepA a (nth A u) (c : Int))])) = ((D ++ A ++ T6) ++ ([stepA a (nth A u) (c : Int)])) from ((List.append_assoc _ _ _).symm)]; exact hS61
    refine wpL_q (U := NoB) rfl (q_assign (v := v59) rfl rfl) ?_
    exact ⟨v59, a51_1, a51_4, a51_5, rfl, a51_8, a51_9, a51_10, a51_11, a51_12, (hS62.drop (sk (sn (sk (sk (sk (sk (sk (sk (sk (List.Sublist.slnil)))))))))))⟩
  rintro f63 H63 ⟨v59, a63_1, a63_4, a63_5, a63_6, a63_8, a63_9, a63_10, a63_11, a63_12, hS63⟩
  clear a51_1 a51_10 a51_11 a51_12 a51_4 a51_5 a51_6 a51_63 a51_8 a51_9
  refine wpF_seq ?_
  refine wpF_cut (fun f H => f 1 = PT g1 0 ∧ f 4 = vP ∧ f 5 = vA ∧ f 6 = v59 ∧ f 8 = vQ6 ∧ f 9 = vT6 ∧ f 10 = I ((u : Int)) ∧ f 11 = I ((c : Int)) ∧ f 12 = I (stepA a (nth A u) (c : Int)) ∧ f 13 = (Value.slice none 0 0) ∧ H63 = H) ?_ ?_
  · refine wpF_region ?_
    refine wpL_q (U := NoB) rfl (q_assign (v := (Value.slice none 0 0)) rfl rfl) ?_
    exact ⟨a63_1, a63_4, a63_5, a63_6, a63_8, a63_9, a63_10, a63_11, a63_12, rfl, rfl⟩
  rintro f64 _ ⟨a64_1, a64_4, a64_5, a64_6, a64_8, a64_9, a64_10, a64_11, a64_12, a64_13, rfl⟩
  clear a63_1 a63_10 a63_11 a63_12 a63_4 a63_5 a63_6 a63_8 a63_9
  refine wpF_seq ?_
  obtain ⟨u65, huu65, hlu65⟩ := hS63.rowElem 3 rfl u (by omega)
  have hS66 : St H0 NoB (fun b => S b ∧ b < H0.size) [rdE u65 (nth P u), rowE 3 v59 (D ++ A ++ (T6 ++ [(stepA a (nth A u) (c : Int))]) : List Int), rowE 22 vQ6 (Q6 : List (List Int)), rowE 3 vT6 (T6 : List Int), rowE 22 vP (P : List (List Int)), rowE 3 vA (A : List Int), blkE g1 (.cells #[I (a.Signs), vn, vt] 36), rdE vn a.Next, rdE vt a.Takes] H63 := hS63.rd huu65
  refine wpF_cut (fun f H => ∃ (v69 : Value), f 1 = PT g1 0 ∧ f 4 = vP ∧ f 5 = vA ∧ f 6 = v59 ∧ f 8 = vQ6 ∧ f 9 = vT6 ∧ f 10 = I ((u : Int)) ∧ f 11 = I ((c : Int)) ∧ f 12 = I (stepA a (nth A u) (c : Int)) ∧ f 13 = v69 ∧ St H0 NoB (fun b => S b ∧ b < H0.size) [rowE 3 v69 (nth P u : List Int), rowE 3 v59 (D ++ A ++ (T6 ++ [(stepA a (nth A u) (c : Int))]) : List Int), rowE 22 vQ6 (Q6 : List (List Int)), rowE 3 vT6 (T6 : List Int), rowE 22 vP (P : List (List Int)), rowE 3 vA (A : List Int), blkE g1 (.cells #[I (a.Signs), vn, vt] 36), rdE vn a.Next, rdE vt a.Takes] H) ?_ ?_
  · refine wpF_region ?_
    refine wpL_q (U := NoB) rfl (q_move (v := (Value.slice none 0 0)) rfl a64_13) ?_
    refine wpL_q (U := NoB) rfl (q_move (v := vP) rfl a64_4) ?_
    refine wpL_q (U := NoB) rfl (q_move (v := I ((u : Int))) rfl a64_10) ?_
    refine wpL_q (U := NoB) rfl (q_indexRd (k := u) rfl Try.underlying27 el_LInt_22_AutoQ4 rfl rfl (hS63.rowl 3 rfl) (by omega) (by omega)) ?_
    refine wpL_q (U := NoB) rfl (q_loadE rfl rfl (hlu65 Try.prog 22 _ el_LInt_22_AutoQ4 (fun _ h => False.elim h))) ?_
    have hS67 : St H0 NoB (fun b => S b ∧ b < H0.size) [rowE 3 (Value.slice none 0 0) ([] : List Int), rdE u65 (nth P u), rowE 3 v59 (D ++ A ++ (T6 ++ [(stepA a (nth A u) (c : Int))]) : List Int), rowE 22 vQ6 (Q6 : List (List Int)), rowE 3 vT6 (T6 : List Int), rowE 22 vP (P : List (List Int)), rowE 3 vA (A : List Int), blkE g1 (.cells #[I (a.Signs), vn, vt] 36), rdE vn a.Next, rdE vt a.Takes] H63 := hS66.row0 3
    have hS68 : St H0 NoB (fun b => S b ∧ b < H0.size) [rowE 3 (Value.slice none 0 0) ([] : List Int), rdE u65 (nth P u), rowE 3 v59 (D ++ A ++ (T6 ++ [(stepA a (nth A u) (c : Int))]) : List Int), rowE 22 vQ6 (Q6 : List (List Int)), rowE 3 vT6 (T6 : List Int), rowE 22 vP (P : List (List Int)), rowE 3 vA (A : List Int), blkE g1 (.cells #[I (a.Signs), vn, vt] 36), rdE vn a.Next, rdE vt a.Takes] H63 := hS67
    refine wpL_o rfl ?_
    refine e_append rfl Try.underlying22 em_Int_3_AutoQ4 rfl rfl hS68 (hS68.rdS 1 rfl) (fun _ h => h) (by have hb : GoT.bytes Int = 8 := rfl; simp [hb]; omega) (by decide) (fun v69 H70 hS71 hxx => ?_)
    replace hS71 : St H0 NoB (fun b => S b ∧ b < H0.size) [rowE 3 v69 (nth P u : List Int), rdE u65 (nth P u), rowE 3 v59 (D ++ A ++ (T6 ++ [(stepA a (nth A u) (c : Int))]) : List Int), rowE 22 vQ6 (Q6 : List (List Int)), rowE 3 vT6 (T6 : List Int), rowE 22 vP (P : List (List Int)), rowE 3 vA (A : List Int), blkE g1 (.cells #[I (a.Signs), vn, vt] 36), rdE vn a.Next, rdE vt a.Takes] H70 := by simpa using hS71
    have hS72 : St H0 NoB (fun b => S b ∧ b < H0.size) [rowE 3 v69 (nth P u : List Int), rdE u65 (nth P u), rowE 3 v59 (D ++ A ++ (T6 ++ [(stepA a (nth A u) (c : Int))]) : List Int), rowE 22 vQ6 (Q6 : List (List Int)), rowE 3 vT6 (T6 : List Int), rowE 22 vP (P : List (List Int)), rowE 3 vA (A : List Int), blkE g1 (.cells #[I (a.Signs), vn, vt] 36), rdE vn a.Next, rdE vt a.Takes] H70 := by rw [show (nth P u) = (nth P u) from rfl]; exact hS71
    refine wpL_q (U := NoB) rfl (q_assign (v := v69) rfl rfl) ?_
    exact ⟨v69, a64_1, a64_4, a64_5, a64_6, a64_8, a64_9, a64_10, a64_11, a64_12, rfl, (hS72.drop (sk (sn (sk (sk (sk (sk (sk (sk (sk (sk (List.Sublist.slnil))))))))))))⟩
  rintro f73 H73 ⟨v69, a73_1, a73_4, a73_5, a73_6, a73_8, a73_9, a73_10, a73_11, a73_12, a73_13, hS73⟩
  clear a64_1 a64_10 a64_11 a64_12 a64_13 a64_4 a64_5 a64_6 a64_8 a64_9
  refine wpF_seq ?_
  refine wpF_cut (fun f H => ∃ (v89 : Value), f 1 = PT g1 0 ∧ f 4 = vP ∧ f 5 = vA ∧ f 6 = v59 ∧ f 8 = v89 ∧ f 9 = vT6 ∧ f 10 = I ((u : Int)) ∧ f 11 = I ((c : Int)) ∧ f 12 = I (stepA a (nth A u) (c : Int)) ∧ St H0 NoB (fun b => S b ∧ b < H0.size) [rowE 22 v89 (Q6 ++ [nth P u ++ [(c : Int)]] : List (List Int)), rowE 3 v59 (D ++ A ++ (T6 ++ [(stepA a (nth A u) (c : Int))]) : List Int), rowE 3 vT6 (T6 : List Int), rowE 22 vP (P : List (List Int)), rowE 3 vA (A : List Int), blkE g1 (.cells #[I (a.Signs), vn, vt] 36), rdE vn a.Next, rdE vt a.Takes] H) ?_ ?_
  · refine wpF_region ?_
    refine wpL_q (U := NoB) rfl (q_move (v := vQ6) rfl a73_8) ?_
    refine wpL_q (U := NoB) rfl (q_move (v := v69) rfl a73_13) ?_
    refine wpL_q (U := NoB) rfl (q_move (v := I ((c : Int))) rfl a73_11) ?_
    refine wpL_o rfl ?_
    refine e_buildSlice (vs := [I ((c : Int))]) (xs := ([(c : Int)] : List Int)) rfl Try.underlying22 Try.zeroValue3 rfl Try.sizeOf3 (par1 (v0 := I ((c : Int))) rfl) rfl hS73 (RdVs.cons (Rd.int.2 ⟨rfl, by first | assumption | (constructor <;> omega)⟩) (RdVs.nil)) (by decide) (by decide) (fun v74 H75 hS76 hxx hvv74 => ?_)
    replace hS76 : St H0 NoB (fun b => S b ∧ b < H0.size) [rowE 3 v74 ([(c : Int)] : List Int), rowE 3 v69 (nth P u : List Int), rowE 3 v59 (D ++ A ++ (T6 ++ [(stepA a (nth A u) (c : Int))]) : List Int), rowE 22 vQ6 (Q6 : List (List Int)), rowE 3 vT6 (T6 : List Int), rowE 22 vP (P : List (List Int)), rowE 3 vA (A : List Int), blkE g1 (.cells #[I (a.Signs), vn, vt] 36), rdE vn a.Next, rdE vt a.Takes] H75 := hS76
    have hS77 : St H0 NoB (fun b => S b ∧ b < H0.size) [rdE v74 ([(c : Int)] : List Int), rowE 3 v69 (nth P u : List Int), rowE 3 v59 (D ++ A ++ (T6 ++ [(stepA a (nth A u) (c : Int))]) : List Int), rowE 22 vQ6 (Q6 : List (List Int)), rowE 3 vT6 (T6 : List Int), rowE 22 vP (P : List (List Int)), rowE 3 vA (A : List Int), blkE g1 (.cells #[I (a.Signs), vn, vt] 36), rdE vn a.Next, rdE vt a.Takes] H75 := St.fin hS76
    have hS78 : St H0 NoB (fun b => S b ∧ b < H0.size) [rowE 3 v69 (nth P u : List Int), rdE v74 ([(c : Int)] : List Int), rowE 3 v59 (D ++ A ++ (T6 ++ [(stepA a (nth A u) (c : Int))]) : List Int), rowE 22 vQ6 (Q6 : List (List Int)), rowE 3 vT6 (T6 : List Int), rowE 22 vP (P : List (List Int)), rowE 3 vA (A : List Int), blkE g1 (.cells #[I (a.Signs), vn, vt] 36), rdE vn a.Next, rdE vt a.Takes] H75 := (hS77.front 1 rfl)
    refine wpL_o rfl ?_
    refine e_append rfl Try.underlying22 em_Int_3_AutoQ4 rfl rfl hS78 (hS78.rdS 1 rfl) (fun _ h => h) (by have hb : GoT.bytes Int = 8 := rfl; simp [hb]; omega) (by decide) (fun v79 H80 hS81 hxx => ?_)
    replace hS81 : St H0 NoB (fun b => S b ∧ b < H0.size) [rowE 3 v79 ((nth P u) ++ ([(c : Int)]) : List Int), rdE v74 ([(c : Int)] : List Int), rowE 3 v59 (D ++ A ++ (T6 ++ [(stepA a (nth A u) (c : Int))]) : List Int), rowE 22 vQ6 (Q6 : List (List Int)), rowE 3 vT6 (T6 : List Int), rowE 22 vP (P : List (List Int)), rowE 3 vA (A : List Int), blkE g1 (.cells #[I (a.Signs), vn, vt] 36), rdE vn a.Next, rdE vt a.Takes] H80 := hS81
    have hS82 : St H0 NoB (fun b => S b ∧ b < H0.size) [rowE 3 v79 (nth P u ++ [(c : Int)] : List Int), rdE v74 ([(c : Int)] : List Int), rowE 3 v59 (D ++ A ++ (T6 ++ [(stepA a (nth A u) (c : Int))]) : List Int), rowE 22 vQ6 (Q6 : List (List Int)), rowE 3 vT6 (T6 : List Int), rowE 22 vP (P : List (List Int)), rowE 3 vA (A : List Int), blkE g1 (.cells #[I (a.Signs), vn, vt] 36), rdE vn a.Next, rdE vt a.Takes] H80 := by rw [show (nth P u ++ [(c : Int)]) = ((nth P u) ++ ([(c : Int)])) from rfl]; exact hS81
    have hS83 : St H0 NoB (fun b => S b ∧ b < H0.size) [rdE v79 (nth P u ++ [(c : Int)]), rdE v74 ([(c : Int)] : List Int), rowE 3 v59 (D ++ A ++ (T6 ++ [(stepA a (nth A u) (c : Int))]) : List Int), rowE 22 vQ6 (Q6 : List (List Int)), rowE 3 vT6 (T6 : List Int), rowE 22 vP (P : List (List Int)), rowE 3 vA (A : List Int), blkE g1 (.cells #[I (a.Signs), vn, vt] 36), rdE vn a.Next, rdE vt a.Takes] H80 := St.fin hS82
    refine wpL_o rfl ?_
    refine e_buildSlice (vs := [v79]) (xs := ([nth P u ++ [(c : Int)]] : List (List Int))) rfl Try.underlying27 Try.zeroValue22 rfl Try.sizeOf22 (par1 (v0 := v79) rfl) rfl hS83 (RdVs.cons (hS83.rdS 0 rfl) (RdVs.nil)) (by decide) (by decide) (fun v84 H85 hS86 hxx hvv84 => ?_)
    replace hS86 : St H0 NoB (fun b => S b ∧ b < H0.size) [rowE 22 v84 ([nth P u ++ [(c : Int)]] : List (List Int)), rdE v79 (nth P u ++ [(c : Int)]), rdE v74 ([(c : Int)] : List Int), rowE 3 v59 (D ++ A ++ (T6 ++ [(stepA a (nth A u) (c : Int))]) : List Int), rowE 22 vQ6 (Q6 : List (List Int)), rowE 3 vT6 (T6 : List Int), rowE 22 vP (P : List (List Int)), rowE 3 vA (A : List Int), blkE g1 (.cells #[I (a.Signs), vn, vt] 36), rdE vn a.Next, rdE vt a.Takes] H85 := hS86
    have hS87 : St H0 NoB (fun b => S b ∧ b < H0.size) [rdE v84 ([nth P u ++ [(c : Int)]] : List (List Int)), rdE v79 (nth P u ++ [(c : Int)]), rdE v74 ([(c : Int)] : List Int), rowE 3 v59 (D ++ A ++ (T6 ++ [(stepA a (nth A u) (c : Int))]) : List Int), rowE 22 vQ6 (Q6 : List (List Int)), rowE 3 vT6 (T6 : List Int), rowE 22 vP (P : List (List Int)), rowE 3 vA (A : List Int), blkE g1 (.cells #[I (a.Signs), vn, vt] 36), rdE vn a.Next, rdE vt a.Takes] H85 := St.fin hS86
    have hS88 : St H0 NoB (fun b => S b ∧ b < H0.size) [rowE 22 vQ6 (Q6 : List (List Int)), rdE v84 ([nth P u ++ [(c : Int)]] : List (List Int)), rdE v79 (nth P u ++ [(c : Int)]), rdE v74 ([(c : Int)] : List Int), rowE 3 v59 (D ++ A ++ (T6 ++ [(stepA a (nth A u) (c : Int))]) : List Int), rowE 3 vT6 (T6 : List Int), rowE 22 vP (P : List (List Int)), rowE 3 vA (A : List Int), blkE g1 (.cells #[I (a.Signs), vn, vt] 36), rdE vn a.Next, rdE vt a.Takes] H85 := (hS87.front 4 rfl)
    refine wpL_o rfl ?_
    refine e_append rfl Try.underlying27 em_LInt_22_AutoQ4 rfl rfl hS88 (hS88.rdS 1 rfl) (fun _ h => h) (by have hb : GoT.bytes (List Int) = 24 := rfl; simp [hb]; omega) (by decide) (fun v89 H90 hS91 hxx => ?_)
    replace hS91 : St H0 NoB (fun b => S b ∧ b < H0.size) [rowE 22 v89 (Q6 ++ ([nth P u ++ [(c : Int)]]) : List (List Int)), rdE v84 ([nth P u ++ [(c : Int)]] : List (List Int)), rdE v79 (nth P u ++ [(c : Int)]), rdE v74 ([(c : Int)] : List Int), rowE 3 v59 (D ++ A ++ (T6 ++ [(stepA a (nth A u) (c : Int))]) : List Int), rowE 3 vT6 (T6 : List Int), rowE 22 vP (P : List (List Int)), rowE 3 vA (A : List Int), blkE g1 (.cells #[I (a.Signs), vn, vt] 36), rdE vn a.Next, rdE vt a.Takes] H90 := hS91
    have hS92 : St H0 NoB (fun b => S b ∧ b < H0.size) [rowE 22 v89 (Q6 ++ [nth P u ++ [(c : Int)]] : List (List Int)), rdE v84 ([nth P u ++ [(c : Int)]] : List (List Int)), rdE v79 (nth P u ++ [(c : Int)]), rdE v74 ([(c : Int)] : List Int), rowE 3 v59 (D ++ A ++ (T6 ++ [(stepA a (nth A u) (c : Int))]) : List Int), rowE 3 vT6 (T6 : List Int), rowE 22 vP (P : List (List Int)), rowE 3 vA (A : List Int), blkE g1 (.cells #[I (a.Signs), vn, vt] 36), rdE vn a.Next, rdE vt a.Takes] H90 := by rw [show (Q6 ++ [nth P u ++ [(c : Int)]]) = (Q6 ++ ([nth P u ++ [(c : Int)]])) from rfl]; exact hS91
    refine wpL_q (U := NoB) rfl (q_assign (v := v89) rfl rfl) ?_
    exact ⟨v89, a73_1, a73_4, a73_5, a73_6, rfl, a73_9, a73_10, a73_11, a73_12, (hS92.drop (sk (sn (sn (sn (sk (sk (sk (sk (sk (sk (sk (List.Sublist.slnil)))))))))))))⟩
  rintro f93 H93 ⟨v89, a93_1, a93_4, a93_5, a93_6, a93_8, a93_9, a93_10, a93_11, a93_12, hS93⟩
  clear a73_1 a73_10 a73_11 a73_12 a73_13 a73_4 a73_5 a73_6 a73_8 a73_9
  refine wpF_cut (fun f H => ∃ (v99 : Value), f 1 = PT g1 0 ∧ f 4 = vP ∧ f 5 = vA ∧ f 6 = v59 ∧ f 8 = v89 ∧ f 9 = v99 ∧ f 10 = I ((u : Int)) ∧ f 11 = I ((c : Int)) ∧ St H0 NoB (fun b => S b ∧ b < H0.size) [rowE 3 v99 (T6 ++ [(stepA a (nth A u) (c : Int))] : List Int), rowE 22 v89 (Q6 ++ [nth P u ++ [(c : Int)]] : List (List Int)), rowE 3 v59 (D ++ A ++ (T6 ++ [(stepA a (nth A u) (c : Int))]) : List Int), rowE 22 vP (P : List (List Int)), rowE 3 vA (A : List Int), blkE g1 (.cells #[I (a.Signs), vn, vt] 36), rdE vn a.Next, rdE vt a.Takes] H) ?_ ?_
  · refine wpF_region ?_
    refine wpL_q (U := NoB) rfl (q_move (v := vT6) rfl a93_9) ?_
    refine wpL_q (U := NoB) rfl (q_move (v := I (stepA a (nth A u) (c : Int))) rfl a93_12) ?_
    refine wpL_o rfl ?_
    refine e_buildSlice (vs := [I (stepA a (nth A u) (c : Int))]) (xs := ([stepA a (nth A u) (c : Int)] : List Int)) rfl Try.underlying22 Try.zeroValue3 rfl Try.sizeOf3 (par1 (v0 := I (stepA a (nth A u) (c : Int))) rfl) rfl hS93 (RdVs.cons (Rd.int.2 ⟨rfl, by first | assumption | (constructor <;> omega)⟩) (RdVs.nil)) (by decide) (by decide) (fun v94 H95 hS96 hxx hvv94 => ?_)
    replace hS96 : St H0 NoB (fun b => S b ∧ b < H0.size) [rowE 3 v94 ([stepA a (nth A u) (c : Int)] : List Int), rowE 22 v89 (Q6 ++ [nth P u ++ [(c : Int)]] : List (List Int)), rowE 3 v59 (D ++ A ++ (T6 ++ [(stepA a (nth A u) (c : Int))]) : List Int), rowE 3 vT6 (T6 : List Int), rowE 22 vP (P : List (List Int)), rowE 3 vA (A : List Int), blkE g1 (.cells #[I (a.Signs), vn, vt] 36), rdE vn a.Next, rdE vt a.Takes] H95 := hS96
    have hS97 : St H0 NoB (fun b => S b ∧ b < H0.size) [rdE v94 ([stepA a (nth A u) (c : Int)] : List Int), rowE 22 v89 (Q6 ++ [nth P u ++ [(c : Int)]] : List (List Int)), rowE 3 v59 (D ++ A ++ (T6 ++ [(stepA a (nth A u) (c : Int))]) : List Int), rowE 3 vT6 (T6 : List Int), rowE 22 vP (P : List (List Int)), rowE 3 vA (A : List Int), blkE g1 (.cells #[I (a.Signs), vn, vt] 36), rdE vn a.Next, rdE vt a.Takes] H95 := St.fin hS96
    have hS98 : St H0 NoB (fun b => S b ∧ b < H0.size) [rowE 3 vT6 (T6 : List Int), rdE v94 ([stepA a (nth A u) (c : Int)] : List Int), rowE 22 v89 (Q6 ++ [nth P u ++ [(c : Int)]] : List (List Int)), rowE 3 v59 (D ++ A ++ (T6 ++ [(stepA a (nth A u) (c : Int))]) : List Int), rowE 22 vP (P : List (List Int)), rowE 3 vA (A : List Int), blkE g1 (.cells #[I (a.Signs), vn, vt] 36), rdE vn a.Next, rdE vt a.Takes] H95 := (hS97.front 3 rfl)
    refine wpL_o rfl ?_
    refine e_append rfl Try.underlying22 em_Int_3_AutoQ4 rfl rfl hS98 (hS98.rdS 1 rfl) (fun _ h => h) (by have hb : GoT.bytes Int = 8 := rfl; simp [hb]; omega) (by decide) (fun v99 H100 hS101 hxx => ?_)
    replace hS101 : St H0 NoB (fun b => S b ∧ b < H0.size) [rowE 3 v99 (T6 ++ ([stepA a (nth A u) (c : Int)]) : List Int), rdE v94 ([stepA a (nth A u) (c : Int)] : List Int), rowE 22 v89 (Q6 ++ [nth P u ++ [(c : Int)]] : List (List Int)), rowE 3 v59 (D ++ A ++ (T6 ++ [(stepA a (nth A u) (c : Int))]) : List Int), rowE 22 vP (P : List (List Int)), rowE 3 vA (A : List Int), blkE g1 (.cells #[I (a.Signs), vn, vt] 36), rdE vn a.Next, rdE vt a.Takes] H100 := hS101
    have hS102 : St H0 NoB (fun b => S b ∧ b < H0.size) [rowE 3 v99 (T6 ++ [(stepA a (nth A u) (c : Int))] : List Int), rdE v94 ([stepA a (nth A u) (c : Int)] : List Int), rowE 22 v89 (Q6 ++ [nth P u ++ [(c : Int)]] : List (List Int)), rowE 3 v59 (D ++ A ++ (T6 ++ [(stepA a (nth A u) (c : Int))]) : List Int), rowE 22 vP (P : List (List Int)), rowE 3 vA (A : List Int), blkE g1 (.cells #[I (a.Signs), vn, vt] 36), rdE vn a.Next, rdE vt a.Takes] H100 := by rw [show (T6 ++ [(stepA a (nth A u) (c : Int))]) = (T6 ++ ([stepA a (nth A u) (c : Int)])) from rfl]; exact hS101
    refine wpL_q (U := NoB) rfl (q_assign (v := v99) rfl rfl) ?_
    exact ⟨v99, a93_1, a93_4, a93_5, a93_6, a93_8, rfl, a93_10, a93_11, (hS102.drop (sk (sn (sk (sk (sk (sk (sk (sk (sk (List.Sublist.slnil)))))))))))⟩
  rintro f103 H103 ⟨v99, a103_1, a103_4, a103_5, a103_6, a103_8, a103_9, a103_10, a103_11, hS103⟩
  clear a93_1 a93_10 a93_11 a93_12 a93_4 a93_5 a93_6 a93_8 a93_9
  refine wpF_cut (fun f H => f 1 = PT g1 0 ∧ f 4 = vP ∧ f 5 = vA ∧ f 6 = v59 ∧ f 8 = v89 ∧ f 9 = v99 ∧ f 10 = I ((u : Int)) ∧ f 11 = I ((c : Int) + 1) ∧ H103 = H) ?_ ?_
  · refine wpF_region ?_
    refine wpL_q (U := NoB) rfl (q_move (v := I ((c : Int))) rfl a103_11) ?_
    refine wpL_q (U := NoB) rfl (q_add rfl rfl rfl (by constructor <;> omega)) ?_
    refine wpL_q (U := NoB) rfl (q_assign (v := I ((c : Int) + 1)) rfl rfl) ?_
    exact ⟨a103_1, a103_4, a103_5, a103_6, a103_8, a103_9, a103_10, rfl, rfl⟩
  rintro f104 _ ⟨a104_1, a104_4, a104_5, a104_6, a104_8, a104_9, a104_10, a104_11, rfl⟩
  clear a103_1 a103_10 a103_11 a103_4 a103_5 a103_6 a103_8 a103_9
  refine ⟨_, ?_, c + 1, T6 ++ [(stepA a (nth A u) (c : Int))], Q6 ++ [nth P u ++ [(c : Int)]], v99, v89, v59, rfl, (by omega), hS8, a104_1, a104_4, a104_5, a104_6, a104_8, a104_9, a104_10, (Eq.trans a104_11 (congrArg I (by omega))), (show St H0 NoB (fun b => S b ∧ b < H0.size) [rowE 22 v89 ((Q6 ++ [nth P u ++ [(c : Int)]]) : List (List Int)), rowE 3 v99 ((T6 ++ [(stepA a (nth A u) (c : Int))]) : List Int), rowE 3 v59 (D ++ A ++ (T6 ++ [(stepA a (nth A u) (c : Int))]) : List Int), rowE 22 vP (P : List (List Int)), rowE 3 vA (A : List Int), blkE g1 (.cells #[I (a.Signs), vn, vt] 36), rdE vn a.Next, rdE vt a.Takes] H103 from (St.drop (show St H0 NoB (fun b => S b ∧ b < H0.size) [rowE 22 v89 (Q6 ++ [nth P u ++ [(c : Int)]] : List (List Int)), rowE 3 v99 (T6 ++ [(stepA a (nth A u) (c : Int))] : List Int), rowE 3 v59 (D ++ A ++ (T6 ++ [(stepA a (nth A u) (c : Int))]) : List Int), rowE 22 vP (P : List (List Int)), rowE 3 vA (A : List Int), blkE g1 (.cells #[I (a.Signs), vn, vt] 36), rdE vn a.Next, rdE vt a.Takes] H103 from (hS103.front 1 rfl)) (sk (sk (sk (sk (sk (sk (sk (sk (List.Sublist.slnil)))))))))))⟩
  omega

end Go.Um
