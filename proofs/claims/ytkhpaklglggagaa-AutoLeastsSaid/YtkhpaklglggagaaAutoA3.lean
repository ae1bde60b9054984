import Derived.Test.YtkhpaklglggagaaProg
import Derived.Test.YtkhpaklglggagaaAutoA2
import Derived.Test.YtkhpaklglggagaaAutoShort
import Derived.Test.YtkhpaklglggagaaUmClip
import Derived.Test.YtkhpaklglggagaaUmSub
namespace Go.Um
open Go.Proofs
open GoT (sz ag rdc)
open KeyT (kv)

theorem el_Bool_4_AutoA3 : ElT Try.prog Bool 4 := ⟨Try.isAgg4, Try.sizeOf4⟩
theorem el_Int_3_AutoA3 : ElT Try.prog Int 3 := ⟨Try.isAgg3, Try.sizeOf3⟩
theorem el_LInt_22_AutoA3 : ElT Try.prog (List Int) 22 := ⟨Try.isAgg22, Try.sizeOf22⟩
theorem em_Int_3_AutoA3 : ElemOk Try.prog Int 3 := ⟨Try.t3, (.int .i64 0), by kernel_rfl, by kernel_rfl, by kernel_rfl, by kernel_rfl, by kernel_rfl⟩

set_option maxRecDepth 100000 in
theorem Less_R {H0 : Heap} (va vb : Value) (a b : List Int) (ra : Rd NoB H0 va a) (rb : Rd NoB H0 vb b) : CallsH Try.prog 29 #[va, vb] H0 (fun rv_ H' => Ext NoB H0 H' ∧ rv_ = B (lessL a b)) := by
  have hsm := (Rd.list.1 ra).small
  have hsb := (Rd.list.1 rb).small
  have hS0 : St H0 NoB NoB [rdE va a, rdE vb b] H0 := St.arg (St.arg (St.start (fun _ h => h.elim)) (Bl0.nil) rb (fun _ h => h)) (Bl0.cons (Bl0.nil)) ra (fun _ h => h)
  refine callsH_of_wpF (args := [va, vb]) (rs := [.tmp 4]) Try.func29 rfl Try.ntmps29 Try.results29 (by kernel_rfl) (Nat.le_of_ble_eq_true rfl) ?_
  have a0_0 : argF [va, vb] 0 = va := rfl
  have a0_1 : argF [va, vb] 1 = vb := rfl
  generalize argF [va, vb] = f0 at *
  refine wpF_seq ?_
  refine wpF_cut (fun f H => f 0 = va ∧ f 1 = vb ∧ H0 = H) ?_ ?_
  · refine wpF_region ?_
    refine wpL_q (U := NoB) rfl (q_assign (v := B (false)) rfl rfl) ?_
    exact ⟨a0_0, a0_1, rfl⟩
  rintro f1 _ ⟨a1_0, a1_1, rfl⟩
  clear a0_0 a0_1
  refine wpF_seq ?_
  refine wpF_seq ?_
  refine wpF_cut (fun f H => f 0 = va ∧ f 1 = vb ∧ f 5 = I (0) ∧ H0 = H) ?_ ?_
  · refine wpF_region ?_
    refine wpL_q (U := NoB) rfl (q_assign (v := I (0)) rfl rfl) ?_
    exact ⟨a1_0, a1_1, rfl, rfl⟩
  rintro f2 _ ⟨a2_0, a2_1, a2_5, rfl⟩
  clear a1_0 a1_1
  refine wpF_block ?_
  refine wpF_loop (fun mz f H => ∃ (k : Nat), mz = a.length - k ∧ (k ≤ a.length ∧ k ≤ b.length) ∧ (lessL a b = lessL (a.drop k) (b.drop k)) ∧ f 0 = va ∧ f 1 = vb ∧ f 5 = I ((k : Int)) ∧ H0 = H) (a.length - 0) ?_ ?_
  · exact ⟨0, rfl, ⟨Nat.zero_le _, Nat.zero_le _⟩, rfl, a2_0, a2_1, (Eq.trans a2_5 (congrArg I (by omega))), rfl⟩
  intro m3 f3 H3 hI3
  obtain ⟨k, hm3, hk, hpre, a3_0, a3_1, a3_5, rfl⟩ := hI3
  clear a2_0 a2_1 a2_5
  refine wpF_seq ?_
  refine wpF_seq ?_
  refine wpF_cut (fun f H => f 0 = va ∧ f 1 = vb ∧ f 5 = I ((k : Int)) ∧ f 15 = B (decide (((k : Int) < (a.length : Int)) ∧ ((k : Int) < (b.length : Int)))) ∧ H0 = H) ?_ ?_
  · refine wpF_region ?_
    refine wpL_q (U := NoB) rfl (q_move (v := I ((k : Int))) rfl a3_5) ?_
    refine wpL_q (U := NoB) rfl (q_move (v := va) rfl a3_0) ?_
    refine wpL_q (U := NoB) rfl (q_lenRd rfl Try.underlying22 rfl (hS0.rdl 0 rfl)) ?_
    refine wpL_q (U := NoB) rfl (q_lss rfl rfl rfl) ?_
    refine wpL_q (U := NoB) rfl (q_move (v := B (decide ((k : Int) < (a.length : Int)))) rfl rfl) ?_
    by_cases hg4 : (k : Int) < (a.length : Int)
    · have hb5 := Eq.trans rfl (congrArg B (decide_eq_true hg4))
      refine wpL_gq (U := NoB) rfl rfl rfl hb5 (q_move (v := I ((k : Int))) rfl a3_5) ?_
      refine wpL_gq (U := NoB) rfl rfl rfl hb5 (q_move (v := vb) rfl a3_1) ?_
      refine wpL_gq (U := NoB) rfl rfl rfl hb5 (q_lenRd rfl Try.underlying22 rfl (hS0.rdl 1 rfl)) ?_
      refine wpL_gq (U := NoB) rfl rfl rfl hb5 (q_lss rfl rfl rfl) ?_
      refine wpL_q (U := NoB) rfl (q_pickT (v := B (decide ((k : Int) < (b.length : Int)))) rfl hb5 rfl) ?_
      exact ⟨a3_0, a3_1, a3_5, (Eq.trans rfl (congrArg B (decide_congr_of ((Iff.rfl).trans (((and_iff_right hg4).trans Iff.rfl)).symm)))), rfl⟩
    · have hb6 := Eq.trans rfl (congrArg B (decide_eq_false hg4))
      refine wpL_gs rfl rfl rfl hb6 rfl ?_
      refine wpL_gs rfl rfl rfl hb6 rfl ?_
      refine wpL_gs rfl rfl rfl hb6 rfl ?_
      refine wpL_gs rfl rfl rfl hb6 rfl ?_
      refine wpL_q (U := NoB) rfl (q_pickF (v := B (false)) rfl hb6 rfl) ?_
      exact ⟨a3_0, a3_1, a3_5, (Eq.trans rfl (congrArg B ((decide_eq_false (fun h => hg4 h.1)).symm))), rfl⟩
  rintro f7 _ ⟨a7_0, a7_1, a7_5, a7_15, rfl⟩
  clear a3_0 a3_1 a3_5
  refine wpF_condP a7_15 (fun hlt => ?t17) (fun hlt => ?e17)
  case e17 =>
    refine wpF_exit ?_
    refine atX_here ?_
    refine wpF_seq ?_
    refine wpF_cut (fun f H => f 4 = B (decide ((a.length : Int) < (b.length : Int))) ∧ H0 = H) ?_ ?_
    · refine wpF_region ?_
      refine wpL_q (U := NoB) rfl (q_move (v := va) rfl a7_0) ?_
      refine wpL_q (U := NoB) rfl (q_lenRd rfl Try.underlying22 rfl (hS0.rdl 0 rfl)) ?_
      refine wpL_q (U := NoB) rfl (q_move (v := vb) rfl a7_1) ?_
      refine wpL_q (U := NoB) rfl (q_lenRd rfl Try.underlying22 rfl (hS0.rdl 1 rfl)) ?_
      refine wpL_q (U := NoB) rfl (q_lss rfl rfl rfl) ?_
      refine wpL_q (U := NoB) rfl (q_assign (v := B (decide ((a.length : Int) < (b.length : Int)))) rfl rfl) ?_
      exact ⟨rfl, rfl⟩
    rintro f16 _ ⟨a16_4, rfl⟩
    clear a7_0 a7_1 a7_15 a7_5
    refine wpF_ret ?_
    refine ⟨_, resT a16_4 resN, hS0.frame, ?_⟩
    show (B (decide ((a.length : Int) < (b.length : Int)))) = B (lessL a b)
    exact congrArg B (hpre.trans (lessL_end hk.1 hk.2 (by omega))).symm
  refine wpF_skip ?_
  refine wpF_seq ?_
  refine wpF_block ?_
  refine wpF_seq ?_
  refine wpF_cut (fun f H => f 0 = va ∧ f 1 = vb ∧ f 5 = I ((k : Int)) ∧ f 26 = B (decide ((nth a k) ≠ (nth b k))) ∧ H0 = H) ?_ ?_
  · refine wpF_drawn [] [] (fun _ _ => False) (by kernel_rfl) (by kernel_rfl) ?_
    refine wpR_q 0 (by kernel_rfl) rfl (quietAt rfl rfl (q_move (v := va) rfl a7_0)) ?_
    refine wpR_q 1 (by kernel_rfl) rfl (quietAt rfl rfl (q_move (v := I ((k : Int))) rfl a7_5)) ?_
    refine wpR_q 2 (by kernel_rfl) rfl (quietAt rfl rfl (q_indexRd (k := k) rfl Try.underlying22 el_Int_3_AutoA3 rfl rfl (hS0.rdl 0 rfl) (by omega) (by omega))) ?_
    refine wpR_q 3 (by kernel_rfl) rfl (quietAt rfl rfl (q_loadInt (k := k) rfl rfl el_Int_3_AutoA3 (hS0.rdl 0 rfl) (by omega) (labU_sub [] rfl (List.forall_mem_nil _)))) ?_
    refine wpR_q 4 (by kernel_rfl) rfl (quietAt rfl rfl (q_move (v := vb) rfl a7_1)) ?_
    refine wpR_q 5 (by kernel_rfl) rfl (quietAt rfl rfl (q_move (v := I ((k : Int))) rfl a7_5)) ?_
    refine wpR_q 6 (by kernel_rfl) rfl (quietAt rfl rfl (q_indexRd (k := k) rfl Try.underlying22 el_Int_3_AutoA3 rfl rfl (hS0.rdl 1 rfl) (by omega) (by omega))) ?_
    refine wpR_q 7 (by kernel_rfl) rfl (quietAt rfl rfl (q_loadInt (k := k) rfl rfl el_Int_3_AutoA3 (hS0.rdl 1 rfl) (by omega) (labU_sub [] rfl (List.forall_mem_nil _)))) ?_
    refine wpR_q 8 (by kernel_rfl) rfl (quietAt rfl rfl (q_neq rfl rfl rfl)) ?_
    refine wpR_end (by kernel_rfl) ?_
    exact ⟨a7_0, a7_1, a7_5, rfl, rfl⟩
  rintro f10 _ ⟨a10_0, a10_1, a10_5, a10_26, rfl⟩
  clear a7_0 a7_1 a7_15 a7_5
  refine wpF_condP a10_26 (fun hne => ?t15) (fun hne => ?e15)
  case e15 =>
    refine wpF_skip ?_
    refine wpF_cut (fun f H => f 0 = va ∧ f 1 = vb ∧ f 5 = I ((k : Int) + 1) ∧ H0 = H) ?_ ?_
    · refine wpF_region ?_
      refine wpL_q (U := NoB) rfl (q_move (v := I ((k : Int))) rfl a10_5) ?_
      refine wpL_q (U := NoB) rfl (q_add rfl rfl rfl (by constructor <;> omega)) ?_
      refine wpL_q (U := NoB) rfl (q_assign (v := I ((k : Int) + 1)) rfl rfl) ?_
      exact ⟨a10_0, a10_1, rfl, rfl⟩
    rintro f14 _ ⟨a14_0, a14_1, a14_5, rfl⟩
    clear a10_0 a10_1 a10_26 a10_5
    refine ⟨_, ?_, k + 1, rfl, (by omega), (hpre.trans (lessL_same (by omega) (by omega) (by simpa using hne))), a14_0, a14_1, (Eq.trans a14_5 (congrArg I (by omega))), rfl⟩
    omega
  refine wpF_seq ?_
  refine wpF_cut (fun f H => f 4 = B (decide ((nth a k) < (nth b k))) ∧ H0 = H) ?_ ?_
  · refine wpF_drawn [] [] (fun _ _ => False) (by kernel_rfl) (by kernel_rfl) ?_
    refine wpR_q 0 (by kernel_rfl) rfl (quietAt rfl rfl (q_move (v := va) rfl a10_0)) ?_
    refine wpR_q 1 (by kernel_rfl) rfl (quietAt rfl rfl (q_move (v := I ((k : Int))) rfl a10_5)) ?_
    refine wpR_q 2 (by kernel_rfl) rfl (quietAt rfl rfl (q_indexRd (k := k) rfl Try.underlying22 el_Int_3_AutoA3 rfl rfl (hS0.rdl 0 rfl) (by omega) (by omega))) ?_
    refine wpR_q 3 (by kernel_rfl) rfl (quietAt rfl rfl (q_loadInt (k := k) rfl rfl el_Int_3_AutoA3 (hS0.rdl 0 rfl) (by omega) (labU_sub [] rfl (List.forall_mem_nil _)))) ?_
    refine wpR_q 4 (by kernel_rfl) rfl (quietAt rfl rfl (q_move (v := vb) rfl a10_1)) ?_
    refine wpR_q 5 (by kernel_rfl) rfl (quietAt rfl rfl (q_move (v := I ((k : Int))) rfl a10_5)) ?_
    refine wpR_q 6 (by kernel_rfl) rfl (quietAt rfl rfl (q_indexRd (k := k) rfl Try.underlying22 el_Int_3_AutoA3 rfl rfl (hS0.rdl 1 rfl) (by omega) (by omega))) ?_
    refine wpR_q 7 (by kernel_rfl) rfl (quietAt rfl rfl (q_loadInt (k := k) rfl rfl el_Int_3_AutoA3 (hS0.rdl 1 rfl) (by omega) (labU_sub [] rfl (List.forall_mem_nil _)))) ?_
    refine wpR_q 8 (by kernel_rfl) rfl (quietAt rfl rfl (q_lss rfl rfl rfl)) ?_
    refine wpR_q 9 (by kernel_rfl) rfl (quietAt rfl rfl (q_assign (v := B (decide ((nth a k) < (nth b k)))) rfl rfl)) ?_
    refine wpR_end (by kernel_rfl) ?_
    exact ⟨rfl, rfl⟩
  rintro f13 _ ⟨a13_4, rfl⟩
  clear a10_0 a10_1 a10_26 a10_5
  refine wpF_ret ?_
  refine ⟨_, resT a13_4 resN, hS0.frame, ?_⟩
  show (B (decide ((nth a k) < (nth b k)))) = B (lessL a b)
  exact congrArg B (hpre.trans (lessL_apart (by omega) (by omega) hne)).symm

set_option maxRecDepth 100000 in
theorem Clip {H0 : Heap} (va : Value) (a : List Int) (ra : Rd NoB H0 va a) : CallsH Try.prog 54 #[va] H0 (fun rv_ H' => Ext NoB H0 H' ∧ rv_ = clipV va) := by
  have hS0 : St H0 NoB NoB [rdE va a] H0 := St.arg (St.start (fun _ h => h.elim)) (Bl0.nil) ra (fun _ h => h)
  refine callsH_of_wpF (args := [va]) (rs := [.tmp 2]) Try.func54 rfl Try.ntmps54 Try.results54 (by kernel_rfl) (Nat.le_of_ble_eq_true rfl) ?_
  have a0_0 : argF [va] 0 = va := rfl
  generalize argF [va] = f0 at *
  refine wpF_seq ?_
  refine wpF_cut (fun f H => f 0 = va ∧ H0 = H) ?_ ?_
  · refine wpF_region ?_
    refine wpL_q (U := NoB) rfl (q_assign (v := (Value.slice none 0 0)) rfl rfl) ?_
    exact ⟨a0_0, rfl⟩
  rintro f1 _ ⟨a1_0, rfl⟩
  clear a0_0
  refine wpF_seq ?_
  refine wpF_cut (fun f H => f 2 = (clipV va) ∧ H0 = H) ?_ ?_
  · refine wpF_region ?_
    refine wpL_q (U := NoB) rfl (q_move (v := va) rfl a1_0) ?_
    refine wpL_q (U := NoB) rfl (q_move (v := va) rfl a1_0) ?_
    refine wpL_q (U := NoB) rfl (q_lenRd rfl Try.underlying22 rfl (hS0.rdl 0 rfl)) ?_
    refine wpL_q (U := NoB) rfl (q_move (v := va) rfl a1_0) ?_
    refine wpL_q (U := NoB) rfl (q_lenRd rfl Try.underlying22 rfl (hS0.rdl 0 rfl)) ?_
    refine wpL_q (U := NoB) rfl (q_clip rfl Try.underlying22 el_Int_3_AutoA3 rfl (hS0.rdl 0 rfl) rfl rfl) ?_
    refine wpL_q (U := NoB) rfl (q_assign (v := (clipV va)) rfl rfl) ?_
    exact ⟨rfl, rfl⟩
  rintro f2 _ ⟨a2_2, rfl⟩
  clear a1_0
  refine wpF_ret ?_
  refine ⟨_, resT a2_2 resN, hS0.frame, ?_⟩
  show (clipV va) = clipV va
  rfl

set_option maxRecDepth 100000 in
theorem even {H0 : Heap} {S : Nat → Prop}  : CallsH Try.prog 53 #[] H0 (fun rv_ H' => Ext NoB H0 H' ∧ ∃ w1_ w2_, rv_ = Value.agg #[I evenA.Signs, w1_, w2_] ∧ Rd (fun b => S b ∧ b < H0.size) H' w1_ evenA.Next ∧ Rd (fun b => S b ∧ b < H0.size) H' w2_ evenA.Takes) := by
  have hS0 : St H0 NoB (fun b => S b ∧ b < H0.size) [] H0 := St.start (fun _ h => h.2)
  refine callsH_of_wpF (args := []) (rs := [.cell 0 36]) Try.func53 rfl Try.ntmps53 Try.results53 (by kernel_rfl) (Nat.le_of_ble_eq_true rfl) ?_
  generalize argF [] = f0 at *
  refine wpF_seq ?_
  refine wpF_cut (fun f H => ∃ (g1 : Nat), f 0 = PT g1 0 ∧ St H0 NoB (fun b => S b ∧ b < H0.size) [blkE g1 (.cells #[I (0), (Value.slice none 0 0), (Value.slice none 0 0)] 36)] H) ?_ ?_
  · refine wpF_region ?_
    refine wpL_o rfl ?_
    refine e_alloc rfl Try.zeroValue36 hS0 (fun g1 H2 hS3 hxx => ?_)
    replace hS3 : St H0 NoB (fun b => S b ∧ b < H0.size) [blkE g1 (.cells #[I (0), (Value.slice none 0 0), (Value.slice none 0 0)] 36)] H2 := hS3
    exact ⟨g1, rfl, hS3⟩
  rintro f4 H4 ⟨g1, a4_0, hS4⟩
  refine wpF_seq ?_
  refine wpF_cut (fun f H => ∃ (v13 : Value), ∃ (v16 : Value), f 0 = PT g1 0 ∧ St H0 NoB (fun b => S b ∧ b < H0.size) [blkE g1 (.cells #[I (2), v13, v16] 36), rowE 4 v16 ([true, false] : List Bool), rowE 22 v13 ([[0, 1], [1, 0]] : List (List Int))] H) ?_ ?_
  · refine wpF_region ?_
    refine wpL_o rfl ?_
    refine e_buildSlice (vs := [I (0), I (1)]) (xs := ([0, 1] : List Int)) rfl Try.underlying22 Try.zeroValue3 rfl Try.sizeOf3 (par2 (v0 := I (0)) (v1 := I (1)) rfl rfl) rfl hS4 (RdVs.cons (Rd.int.2 ⟨rfl, by constructor <;> omega⟩) (RdVs.cons (Rd.int.2 ⟨rfl, by constructor <;> omega⟩) (RdVs.nil))) (by decide) (by decide) (fun v5 H6 hS7 hxx hvv5 => ?_)
    replace hS7 : St H0 NoB (fun b => S b ∧ b < H0.size) [rowE 3 v5 ([0, 1] : List Int), blkE g1 (.cells #[I (0), (Value.slice none 0 0), (Value.slice none 0 0)] 36)] H6 := hS7
    refine wpL_o rfl ?_
    refine e_buildSlice (vs := [I (1), I (0)]) (xs := ([1, 0] : List Int)) rfl Try.underlying22 Try.zeroValue3 rfl Try.sizeOf3 (par2 (v0 := I (1)) (v1 := I (0)) rfl rfl) rfl hS7 (RdVs.cons (Rd.int.2 ⟨rfl, by constructor <;> omega⟩) (RdVs.cons (Rd.int.2 ⟨rfl, by constructor <;> omega⟩) (RdVs.nil))) (by decide) (by decide) (fun v8 H9 hS10 hxx hvv8 => ?_)
    replace hS10 : St H0 NoB (fun b => S b ∧ b < H0.size) [rowE 3 v8 ([1, 0] : List Int), rowE 3 v5 ([0, 1] : List Int), blkE g1 (.cells #[I (0), (Value.slice none 0 0), (Value.slice none 0 0)] 36)] H9 := hS10
    have hS11 : St H0 NoB (fun b => S b ∧ b < H0.size) [rdE v5 ([0, 1] : List Int), rowE 3 v8 ([1, 0] : List Int), blkE g1 (.cells #[I (0), (Value.slice none 0 0), (Value.slice none 0 0)] 36)] H9 := St.fin (hS10.front 1 rfl)
    have hS12 : St H0 NoB (fun b => S b ∧ b < H0.size) [rdE v8 ([1, 0] : List Int), rdE v5 ([0, 1] : List Int), blkE g1 (.cells #[I (0), (Value.slice none 0 0), (Value.slice none 0 0)] 36)] H9 := St.fin (hS11.front 1 rfl)
    refine wpL_o rfl ?_
    refine e_buildSlice (vs := [v5, v8]) (xs := ([[0, 1], [1, 0]] : List (List Int))) rfl Try.underlying27 Try.zeroValue22 rfl Try.sizeOf22 (par2 (v0 := v5) (v1 := v8) rfl rfl) rfl hS12 (RdVs.cons (hS12.rdS 1 rfl) (RdVs.cons (hS12.rdS 0 rfl) (RdVs.nil))) (by decide) (by decide) (fun v13 H14 hS15 hxx hvv13 => ?_)
    replace hS15 : St H0 NoB (fun b => S b ∧ b < H0.size) [rowE 22 v13 ([[0, 1], [1, 0]] : List (List Int)), rdE v8 ([1, 0] : List Int), rdE v5 ([0, 1] : List Int), blkE g1 (.cells #[I (0), (Value.slice none 0 0), (Value.slice none 0 0)] 36)] H14 := hS15
    refine wpL_o rfl ?_
    refine e_buildSlice (vs := [B (true), B (false)]) (xs := ([true, false] : List Bool)) rfl Try.underlying32 Try.zeroValue4 rfl Try.sizeOf4 (par2 (v0 := B (true)) (v1 := B (false)) rfl rfl) rfl hS15 (RdVs.cons (Rd.bool.2 rfl) (RdVs.cons (Rd.bool.2 rfl) (RdVs.nil))) (by decide) (by decide) (fun v16 H17 hS18 hxx hvv16 => ?_)
    replace hS18 : St H0 NoB (fun b => S b ∧ b < H0.size) [rowE 4 v16 ([true, false] : List Bool), rowE 22 v13 ([[0, 1], [1, 0]] : List (List Int)), rdE v8 ([1, 0] : List Int), rdE v5 ([0, 1] : List Int), blkE g1 (.cells #[I (0), (Value.slice none 0 0), (Value.slice none 0 0)] 36)] H17 := hS18
    refine wpL_q (U := NoB) rfl (q_build (v := Value.agg #[I (2), v13, v16]) rfl (par3 (v0 := I (2)) (v1 := v13) (v2 := v16) rfl rfl rfl) ((hS18.rowl 1 rfl).slc (fun zz0 => ∀ w, (Instr.build 36 #[(0, I (2)), (1, zz0), (2, v16)]).run Try.prog w = .ok (Value.agg #[I (2), zz0, v16]) w) (fun a0 n0 c0 => ((hS18.rowl 0 rfl).slc (fun zz1 => ∀ w, (Instr.build 36 #[(0, I (2)), (1, (.slice a0 n0 c0)), (2, zz1)]).run Try.prog w = .ok (Value.agg #[I (2), (.slice a0 n0 c0), zz1]) w) (fun a1 n1 c1 => (fun w => by kernel_rfl)))))) ?_
    refine wpL_o rfl ?_
    refine e_storeBlkA (cs' := #[I (2), v13, v16]) rfl a4_0 rfl Try.sizeOf36 rfl rfl (List.forall_mem_cons.2 ⟨rfl, List.forall_mem_cons.2 ⟨(oneCell_rdL (hS18.rowl 1 rfl)), List.forall_mem_cons.2 ⟨(oneCell_rdL (hS18.rowl 0 rfl)), List.forall_mem_nil _⟩⟩⟩) (hS18.front 4 rfl) (fun H19 hS20 hxx => ?_)
    replace hS20 : St H0 NoB (fun b => S b ∧ b < H0.size) [blkE g1 (.cells #[I (2), v13, v16] 36), rowE 4 v16 ([true, false] : List Bool), rowE 22 v13 ([[0, 1], [1, 0]] : List (List Int)), rdE v8 ([1, 0] : List Int), rdE v5 ([0, 1] : List Int)] H19 := hS20
    exact ⟨v13, v16, a4_0, (hS20.drop (sk (sk (sk (sn (sn (List.Sublist.slnil)))))))⟩
  rintro f21 H21 ⟨v13, v16, a21_0, hS21⟩
  clear a4_0
  refine wpF_ret ?_
  refine ⟨_, resC a21_0 (loadV_blkA Try.isAgg36 Try.sizeOf36 rfl (hS21.blk 0 rfl)) (resN), hS21.frame, ?_⟩
  show ∃ w1_ w2_, (Value.agg #[I (2), v13, v16]) = Value.agg #[I evenA.Signs, w1_, w2_] ∧ Rd (fun b => S b ∧ b < H0.size) H21 w1_ evenA.Next ∧ Rd (fun b => S b ∧ b < H0.size) H21 w2_ evenA.Takes
  have hS22 : St H0 NoB (fun b => S b ∧ b < H0.size) [rdE v13 ([[0, 1], [1, 0]] : List (List Int)), blkE g1 (.cells #[I (2), v13, v16] 36), rowE 4 v16 ([true, false] : List Bool)] H21 := St.fin (hS21.front 2 rfl)
  have hS23 : St H0 NoB (fun b => S b ∧ b < H0.size) [rdE v16 ([true, false] : List Bool), rdE v13 ([[0, 1], [1, 0]] : List (List Int)), blkE g1 (.cells #[I (2), v13, v16] 36)] H21 := St.fin (hS22.front 2 rfl)
  exact ⟨v13, v16, rfl, (hS22.result (hS22.rdS 0 rfl)), (hS23.result (hS23.rdS 0 rfl))⟩

set_option maxRecDepth 100000 in
theorem Any {H0 : Heap} {S : Nat → Prop} (vn vt : Value) (a : Auto) (rn : Rd S H0 vn a.Next) (rt : Rd S H0 vt a.Takes) (hsg : In64 a.Signs) : CallsH Try.prog 28 #[Value.agg #[I (a.Signs), vn, vt]] H0 (fun rv_ H' => Ext NoB H0 H' ∧ ∃ rm_ m_ is_, rv_ = Value.tuple #[rm_, B is_, Value.agg #[I (autoFault a).1, I (autoFault a).2]] ∧ Rd (fun b => S b ∧ b < H0.size) H' rm_ m_ ∧ AnyOk a m_ is_) := by
  have hsn := (Rd.list.1 rn).small
  have hst := (Rd.list.1 rt).small
  have hS0 : St H0 NoB (fun b => S b ∧ b < H0.size) [rdE vn a.Next, rdE vt a.Takes] H0 := St.arg (St.arg (St.start (fun _ h => h.2)) (Bl0.nil) rt (fun _ h => h.1)) (Bl0.cons (Bl0.nil)) rn (fun _ h => h.1)
  refine callsH_of_wpF (args := [Value.agg #[I (a.Signs), vn, vt]]) (rs := [.tmp 2, .tmp 3, .cell 4 24]) Try.func28 rfl Try.ntmps28 Try.results28 (by kernel_rfl) (Nat.le_of_ble_eq_true rfl) ?_
  have a0_0 : argF [Value.agg #[I (a.Signs), vn, vt]] 0 = Value.agg #[I (a.Signs), vn, vt] := rfl
  generalize argF [Value.agg #[I (a.Signs), vn, vt]] = f0 at *
  refine wpF_seq ?_
  refine wpF_cut (fun f H => ∃ (g1 : Nat), ∃ (g4 : Nat), f 1 = PT g1 0 ∧ f 4 = PT g4 0 ∧ St H0 NoB (fun b => S b ∧ b < H0.size) [blkE g4 (.cells #[I (0), I (0)] 24), blkE g1 (.cells #[I (a.Signs), vn, vt] 36), rdE vn a.Next, rdE vt a.Takes] H) ?_ ?_
  · refine wpF_region ?_
    refine wpL_o rfl ?_
    refine e_box (v := Value.agg #[I (a.Signs), vn, vt]) rfl a0_0 hS0 (fun g1 H2 hS3 hxx => ?_)
    replace hS3 : St H0 NoB (fun b => S b ∧ b < H0.size) [blkE g1 (.cells #[I (a.Signs), vn, vt] 36), rdE vn a.Next, rdE vt a.Takes] H2 := hS3
    refine wpL_q (U := NoB) rfl (q_assign (v := (Value.slice none 0 0)) rfl rfl) ?_
    refine wpL_q (U := NoB) rfl (q_assign (v := B (false)) rfl rfl) ?_
    refine wpL_o rfl ?_
    refine e_alloc rfl Try.zeroValue24 hS3 (fun g4 H5 hS6 hxx => ?_)
    replace hS6 : St H0 NoB (fun b => S b ∧ b < H0.size) [blkE g4 (.cells #[I (0), I (0)] 24), blkE g1 (.cells #[I (a.Signs), vn, vt] 36), rdE vn a.Next, rdE vt a.Takes] H5 := hS6
    exact ⟨g1, g4, rfl, rfl, hS6⟩
  rintro f7 H7 ⟨g1, g4, a7_1, a7_4, hS7⟩
  clear a0_0
  refine wpF_seq ?_
  refine wpF_seq ?_
  refine wpF_cut (fun f H => ∃ (g11 : Nat), f 1 = PT g1 0 ∧ f 4 = PT g4 0 ∧ f 5 = PT g11 0 ∧ St H0 NoB (fun b => S b ∧ b < H0.size) [blkE g11 (.cells #[I ((autoFault a).1), I ((autoFault a).2)] 24), blkE g4 (.cells #[I (0), I (0)] 24), blkE g1 (.cells #[I (a.Signs), vn, vt] 36), rdE vn a.Next, rdE vt a.Takes] H) ?_ ?_
  · refine wpF_region ?_
    refine wpL_q (U := NoB) rfl (q_loadBlkA rfl a7_1 Try.isAgg36 Try.sizeOf36 rfl (hS7.blk 1 rfl) (fun h => h)) ?_
    refine wpL_o rfl ?_
    refine e_call rfl Try.call21 (arr1 (v0 := Value.agg #[I (a.Signs), vn, vt]) rfl) (Check vn vt a (hS7.rdN 2 rfl) (hS7.rdN 3 rfl) hsg) ?_
    rintro _ H8 ⟨hxx, rfl⟩
    have hS9 : St H0 NoB (fun b => S b ∧ b < H0.size) [blkE g4 (.cells #[I (0), I (0)] 24), blkE g1 (.cells #[I (a.Signs), vn, vt] 36), rdE vn a.Next, rdE vt a.Takes] H8 := hS7.ext hxx
    refine wpL_o rfl ?_
    refine e_alloc rfl Try.zeroValue24 hS9 (fun g11 H12 hS13 hxx => ?_)
    replace hS13 : St H0 NoB (fun b => S b ∧ b < H0.size) [blkE g11 (.cells #[I (0), I (0)] 24), blkE g4 (.cells #[I (0), I (0)] 24), blkE g1 (.cells #[I (a.Signs), vn, vt] 36), rdE vn a.Next, rdE vt a.Takes] H12 := hS13
    refine wpL_o rfl ?_
    refine e_storeBlkA (cs' := #[I ((autoFault a).1), I ((autoFault a).2)]) rfl rfl rfl Try.sizeOf24 rfl rfl (List.forall_mem_cons.2 ⟨rfl, List.forall_mem_cons.2 ⟨rfl, List.forall_mem_nil _⟩⟩) hS13 (fun H14 hS15 hxx => ?_)
    replace hS15 : St H0 NoB (fun b => S b ∧ b < H0.size) [blkE g11 (.cells #[I ((autoFault a).1), I ((autoFault a).2)] 24), blkE g4 (.cells #[I (0), I (0)] 24), blkE g1 (.cells #[I (a.Signs), vn, vt] 36), rdE vn a.Next, rdE vt a.Takes] H14 := hS15
    exact ⟨g11, a7_1, a7_4, rfl, hS15⟩
  rintro f16 H16 ⟨g11, a16_1, a16_4, a16_5, hS16⟩
  clear a7_1 a7_4
  refine wpF_seq ?_
  refine wpF_cut (fun f H => f 1 = PT g1 0 ∧ f 4 = PT g4 0 ∧ f 5 = PT g11 0 ∧ f 17 = B (decide (((autoFault a).1) ≠ 0)) ∧ H16 = H) ?_ ?_
  · refine wpF_region ?_
    refine wpL_q (U := NoB) rfl (q_fieldAddr rfl Try.underlying24 rfl Try.sizeOf3 a16_5) ?_
    refine wpL_q (U := NoB) rfl (q_loadBlk rfl rfl Try.isAgg3 (hS16.blk 0 rfl) rfl (fun h => h)) ?_
    refine wpL_q (U := NoB) rfl (q_neq rfl rfl rfl) ?_
    exact ⟨a16_1, a16_4, a16_5, rfl, rfl⟩
  rintro f17 _ ⟨a17_1, a17_4, a17_5, a17_17, rfl⟩
  clear a16_1 a16_4 a16_5
  refine wpF_condP a17_17 (fun h1 => ?t91) (fun h1 => ?e91)
  case t91 =>
    refine wpF_seq ?_
    refine wpF_cut (fun f H => f 2 = (Value.slice none 0 0) ∧ f 3 = B (false) ∧ f 4 = PT g4 0 ∧ St H0 NoB (fun b => S b ∧ b < H0.size) [blkE g4 (.cells #[I ((autoFault a).1), I ((autoFault a).2)] 24), blkE g11 (.cells #[I ((autoFault a).1), I ((autoFault a).2)] 24), blkE g1 (.cells #[I (a.Signs), vn, vt] 36), rdE vn a.Next, rdE vt a.Takes] H) ?_ ?_
    · refine wpF_drawn [none, none, none, some 0] [[], [], [], []] (fun l b => match l with | 0 => True | _ => False) (by kernel_rfl) (by kernel_rfl) ?_
      refine wpR_q 0 (by kernel_rfl) rfl (quietAt rfl rfl (q_loadBlkA rfl a17_5 Try.isAgg24 Try.sizeOf24 rfl (hS16.blk 0 rfl) (labU_not [] rfl (List.forall_mem_nil _)))) ?_
      refine wpR_q 1 (by kernel_rfl) rfl (quietAt rfl rfl (q_assign (v := (Value.slice none 0 0)) rfl rfl)) ?_
      refine wpR_q 2 (by kernel_rfl) rfl (quietAt rfl rfl (q_assign (v := B (false)) rfl rfl)) ?_
      refine wpR_n [3] (by kernel_rfl) ?_
      refine List.forall_mem_cons.2 ⟨?_, List.forall_mem_nil _⟩
      refine exE rfl rfl ?_
      refine e_storeBlkA (cs' := #[I ((autoFault a).1), I ((autoFault a).2)]) rfl a17_4 rfl Try.sizeOf24 rfl rfl (List.forall_mem_cons.2 ⟨rfl, List.forall_mem_cons.2 ⟨rfl, List.forall_mem_nil _⟩⟩) (hS16.front 1 rfl) (fun H19o3 hS19o3 hxx => ?_)
      replace hS19o3 : St H0 NoB (fun b => S b ∧ b < H0.size) [blkE g4 (.cells #[I ((autoFault a).1), I ((autoFault a).2)] 24), blkE g11 (.cells #[I ((autoFault a).1), I ((autoFault a).2)] 24), blkE g1 (.cells #[I (a.Signs), vn, vt] 36), rdE vn a.Next, rdE vt a.Takes] H19o3 := hS19o3
      refine ⟨Ext.mono hxx (labS_of 0 rfl (fun _ _ => trivial)), ?_⟩
      refine wpR_end (by kernel_rfl) ?_
      exact ⟨rfl, rfl, a17_4, hS19o3⟩
    rintro f20 H20 ⟨a20_2, a20_3, a20_4, hS20⟩
    clear a17_1 a17_17 a17_4 a17_5
    refine wpF_ret ?_
    refine ⟨_, resT a20_2 (resT a20_3 (resC a20_4 (loadV_blkA Try.isAgg24 Try.sizeOf24 rfl (hS20.blk 0 rfl)) (resN))), hS20.frame, ?_⟩
    show ∃ rm_ m_ is_, (Value.tuple #[(Value.slice none 0 0), B (false), Value.agg #[I ((autoFault a).1), I ((autoFault a).2)]]) = Value.tuple #[rm_, B is_, Value.agg #[I (autoFault a).1, I (autoFault a).2]] ∧ Rd (fun b => S b ∧ b < H0.size) H20 rm_ m_ ∧ AnyOk a m_ is_
    exact ⟨(Value.slice none 0 0), [], false, rfl, rdNil, (by rw [AnyOk, if_pos h1]; exact ⟨rfl, rfl⟩)⟩
  have hW := WF.of (Decidable.of_not_not h1)
  have hm := hW.takes
  have hm2 := hW.many
  have hsgn := hW.signs
  refine wpF_skip ?_
  refine wpF_seq ?_
  refine wpF_cut (fun f H => ∃ (r21 : Nat), f 1 = PT g1 0 ∧ f 4 = PT g4 0 ∧ f 6 = (Value.map (some r21)) ∧ St H0 NoB (fun b => S b ∧ b < H0.size) [mapE r21 (mset ([]) 0 ([]) : List (Int × (List Int))), blkE g11 (.cells #[I ((autoFault a).1), I ((autoFault a).2)] 24), blkE g4 (.cells #[I (0), I (0)] 24), blkE g1 (.cells #[I (a.Signs), vn, vt] 36), rdE vn a.Next, rdE vt a.Takes] H) ?_ ?_
  · refine wpF_region ?_
    refine wpL_o rfl ?_
    refine e_makeMap (κ := Int) (β := List Int) rfl hS16 (fun r21 H22 hS23 hxx => ?_)
    replace hS23 : St H0 NoB (fun b => S b ∧ b < H0.size) [mapE r21 ([] : List (Int × (List Int))), blkE g11 (.cells #[I ((autoFault a).1), I ((autoFault a).2)] 24), blkE g4 (.cells #[I (0), I (0)] 24), blkE g1 (.cells #[I (a.Signs), vn, vt] 36), rdE vn a.Next, rdE vt a.Takes] H22 := hS23
    have hS24 : St H0 NoB (fun b => S b ∧ b < H0.size) [mapE r21 ([] : List (Int × (List Int))), blkE g11 (.cells #[I ((autoFault a).1), I ((autoFault a).2)] 24), blkE g4 (.cells #[I (0), I (0)] 24), blkE g1 (.cells #[I (a.Signs), vn, vt] 36), rdE vn a.Next, rdE vt a.Takes] H22 := hS23
    refine wpL_o rfl ?_
    refine e_mapUpdate (k := 0) (.inr rfl) Try.underlying66 (keyLaw_int Try.underlying3) rfl rfl rfl hS24 (rdNil) (fun H25 hS26 hxx => ?_)
    replace hS26 : St H0 NoB (fun b => S b ∧ b < H0.size) [mapE r21 (mset ([]) 0 ([]) : List (Int × (List Int))), blkE g11 (.cells #[I ((autoFault a).1), I ((autoFault a).2)] 24), blkE g4 (.cells #[I (0), I (0)] 24), blkE g1 (.cells #[I (a.Signs), vn, vt] 36), rdE vn a.Next, rdE vt a.Takes] H25 := hS26
    refine wpL_q (U := NoB) rfl (q_move (v := (Value.map (some r21))) rfl rfl) ?_
    refine wpL_q (U := NoB) rfl (q_assign (v := (Value.map (some r21))) rfl rfl) ?_
    exact ⟨r21, a17_1, a17_4, rfl, hS26⟩
  rintro f27 H27 ⟨r21, a27_1, a27_4, a27_6, hS27⟩
  clear a17_1 a17_17 a17_4 a17_5
  refine wpF_seq ?_
  refine wpF_cut (fun f H => ∃ (v28 : Value), f 1 = PT g1 0 ∧ f 4 = PT g4 0 ∧ f 6 = (Value.map (some r21)) ∧ f 7 = v28 ∧ St H0 NoB (fun b => S b ∧ b < H0.size) [rowE 3 v28 ([0] : List Int), mapE r21 (mset ([]) 0 ([]) : List (Int × (List Int))), blkE g11 (.cells #[I ((autoFault a).1), I ((autoFault a).2)] 24), blkE g4 (.cells #[I (0), I (0)] 24), blkE g1 (.cells #[I (a.Signs), vn, vt] 36), rdE vn a.Next, rdE vt a.Takes] H) ?_ ?_
  · refine wpF_region ?_
    refine wpL_o rfl ?_
    refine e_buildSlice (vs := [I (0)]) (xs := ([0] : List Int)) rfl Try.underlying22 Try.zeroValue3 rfl Try.sizeOf3 (par1 (v0 := I (0)) rfl) rfl hS27 (RdVs.cons (Rd.int.2 ⟨rfl, by constructor <;> omega⟩) (RdVs.nil)) (by decide) (by decide) (fun v28 H29 hS30 hxx hvv28 => ?_)
    replace hS30 : St H0 NoB (fun b => S b ∧ b < H0.size) [rowE 3 v28 ([0] : List Int), mapE r21 (mset ([]) 0 ([]) : List (Int × (List Int))), blkE g11 (.cells #[I ((autoFault a).1), I ((autoFault a).2)] 24), blkE g4 (.cells #[I (0), I (0)] 24), blkE g1 (.cells #[I (a.Signs), vn, vt] 36), rdE vn a.Next, rdE vt a.Takes] H29 := hS30
    refine wpL_q (U := NoB) rfl (q_assign (v := v28) rfl rfl) ?_
    exact ⟨v28, a27_1, a27_4, a27_6, rfl, hS30⟩
  rintro f31 H31 ⟨v28, a31_1, a31_4, a31_6, a31_7, hS31⟩
  clear a27_1 a27_4 a27_6
  refine wpF_seq ?_
  refine wpF_seq ?_
  refine wpF_cut (fun f H => f 1 = PT g1 0 ∧ f 4 = PT g4 0 ∧ f 6 = (Value.map (some r21)) ∧ f 7 = v28 ∧ f 8 = I (0) ∧ H31 = H) ?_ ?_
  · refine wpF_region ?_
    refine wpL_q (U := NoB) rfl (q_assign (v := I (0)) rfl rfl) ?_
    exact ⟨a31_1, a31_4, a31_6, a31_7, rfl, rfl⟩
  rintro f32 _ ⟨a32_1, a32_4, a32_6, a32_7, a32_8, rfl⟩
  clear a31_1 a31_4 a31_6 a31_7
  have hB0 : Bfs a [0] (mget (mset [] 0 [])) 0 0 := by
    have e : (mget (mset ([] : List (Int × List Int)) 0 [])) = (fun q => if (0 : Int) = q then some [] else none) := by funext q; rw [mget_mset, mget_nil]
    rw [e]; exact Bfs.start hW
  refine wpF_block ?_
  refine wpF_loop (fun mz f H => ∃ (i : Nat), ∃ (vL : Value), ∃ (L : List Int), ∃ (m : List (Int × List Int)), mz = a.Next.length - i ∧ (i ≤ L.length) ∧ (Bfs a L (mget m) i 0) ∧ (∀ j, j < i → nth a.Takes (nth L j).toNat = false) ∧ f 1 = PT g1 0 ∧ f 4 = PT g4 0 ∧ f 6 = (Value.map (some r21)) ∧ f 7 = vL ∧ f 8 = I ((i : Int)) ∧ St H0 NoB (fun b => S b ∧ b < H0.size) [rowE 3 vL (L : List Int), mapE r21 (m : List (Int × (List Int))), blkE g11 (.cells #[I ((autoFault a).1), I ((autoFault a).2)] 24), blkE g4 (.cells #[I (0), I (0)] 24), blkE g1 (.cells #[I (a.Signs), vn, vt] 36), rdE vn a.Next, rdE vt a.Takes] H) (a.Next.length - 0) ?_ ?_
  · exact ⟨0, v28, [0], mset ([]) 0 ([]), rfl, Nat.zero_le _, hB0, (fun j hj => absurd hj (Nat.not_lt_zero j)), a32_1, a32_4, a32_6, a32_7, (Eq.trans a32_8 (congrArg I (by omega))), (show St H0 NoB (fun b => S b ∧ b < H0.size) [rowE 3 v28 (([0]) : List Int), mapE r21 ((mset ([]) 0 ([])) : List (Int × (List Int))), blkE g11 (.cells #[I ((autoFault a).1), I ((autoFault a).2)] 24), blkE g4 (.cells #[I (0), I (0)] 24), blkE g1 (.cells #[I (a.Signs), vn, vt] 36), rdE vn a.Next, rdE vt a.Takes] H31 from hS31)⟩
  intro m33 f33 H33 hI33
  obtain ⟨i, vL, L, m, hm33, hi, hB, hno, a33_1, a33_4, a33_6, a33_7, a33_8, hS33⟩ := hI33
  clear a32_1 a32_4 a32_6 a32_7 a32_8
  refine wpF_seq ?_
  refine wpF_seq ?_
  refine wpF_cut (fun f H => f 1 = PT g1 0 ∧ f 4 = PT g4 0 ∧ f 6 = (Value.map (some r21)) ∧ f 7 = vL ∧ f 8 = I ((i : Int)) ∧ f 25 = B (decide ((i : Int) < (L.length : Int))) ∧ H33 = H) ?_ ?_
  · refine wpF_region ?_
    refine wpL_q (U := NoB) rfl (q_move (v := I ((i : Int))) rfl a33_8) ?_
    refine wpL_q (U := NoB) rfl (q_move (v := vL) rfl a33_7) ?_
    refine wpL_q (U := NoB) rfl (q_lenRd rfl Try.underlying22 rfl (hS33.rowl 0 rfl)) ?_
    refine wpL_q (U := NoB) rfl (q_lss rfl rfl rfl) ?_
    exact ⟨a33_1, a33_4, a33_6, a33_7, a33_8, rfl, rfl⟩
  rintro f34 _ ⟨a34_1, a34_4, a34_6, a34_7, a34_8, a34_25, rfl⟩
  clear a33_1 a33_4 a33_6 a33_7 a33_8
  refine wpF_condP a34_25 (fun hlt => ?t90) (fun hlt => ?e90)
  case e90 =>
    have hieq : i = L.length := by omega
    refine wpF_exit ?_
    refine atX_here ?_
    refine wpF_seq ?_
    refine wpF_cut (fun f H => f 2 = (Value.slice none 0 0) ∧ f 3 = B (false) ∧ f 4 = PT g4 0 ∧ St H0 NoB (fun b => S b ∧ b < H0.size) [blkE g4 (.cells #[I (0), I (0)] 24), rowE 3 vL (L : List Int), mapE r21 (m : List (Int × (List Int))), blkE g11 (.cells #[I ((autoFault a).1), I ((autoFault a).2)] 24), blkE g1 (.cells #[I (a.Signs), vn, vt] 36), rdE vn a.Next, rdE vt a.Takes] H) ?_ ?_
    · refine wpF_region ?_
      refine wpL_q (U := NoB) rfl (q_build (v := Value.agg #[I (0), I (0)]) rfl par0 (fun w => by kernel_rfl)) ?_
      refine wpL_q (U := NoB) rfl (q_assign (v := (Value.slice none 0 0)) rfl rfl) ?_
      refine wpL_q (U := NoB) rfl (q_assign (v := B (false)) rfl rfl) ?_
      refine wpL_o rfl ?_
      refine e_storeBlkA (cs' := #[I (0), I (0)]) rfl a34_4 rfl Try.sizeOf24 rfl rfl (List.forall_mem_cons.2 ⟨rfl, List.forall_mem_cons.2 ⟨rfl, List.forall_mem_nil _⟩⟩) (hS33.front 3 rfl) (fun H87 hS88 hxx => ?_)
      replace hS88 : St H0 NoB (fun b => S b ∧ b < H0.size) [blkE g4 (.cells #[I (0), I (0)] 24), rowE 3 vL (L : List Int), mapE r21 (m : List (Int × (List Int))), blkE g11 (.cells #[I ((autoFault a).1), I ((autoFault a).2)] 24), blkE g1 (.cells #[I (a.Signs), vn, vt] 36), rdE vn a.Next, rdE vt a.Takes] H87 := hS88
      exact ⟨rfl, rfl, a34_4, hS88⟩
    rintro f89 H89 ⟨a89_2, a89_3, a89_4, hS89⟩
    clear a34_1 a34_25 a34_4 a34_6 a34_7 a34_8
    refine wpF_ret ?_
    refine ⟨_, resT a89_2 (resT a89_3 (resC a89_4 (loadV_blkA Try.isAgg24 Try.sizeOf24 rfl (hS89.blk 0 rfl)) (resN))), hS89.frame, ?_⟩
    show ∃ rm_ m_ is_, (Value.tuple #[(Value.slice none 0 0), B (false), Value.agg #[I (0), I (0)]]) = Value.tuple #[rm_, B is_, Value.agg #[I (autoFault a).1, I (autoFault a).2]] ∧ Rd (fun b => S b ∧ b < H0.size) H89 rm_ m_ ∧ AnyOk a m_ is_
    exact ⟨(Value.slice none 0 0), [], false, by rw [WF.code (Decidable.of_not_not h1)], rdNil, (by rw [AnyOk, if_neg h1]; exact hB.lost (by omega) hno)⟩
  have hil : i < L.length := by omega
  have hr := hB.rng _ (nth_mem hil)
  have hrow := hW.rows (nth L i).toNat (by omega)
  have hfew := hB.few
  refine wpF_skip ?_
  refine wpF_seq ?_
  refine wpF_block ?_
  refine wpF_seq ?_
  refine wpF_seq ?_
  refine wpF_cut (fun f H => f 1 = PT g1 0 ∧ f 4 = PT g4 0 ∧ f 6 = (Value.map (some r21)) ∧ f 7 = vL ∧ f 8 = I ((i : Int)) ∧ f 35 = B (nth a.Takes ((nth L i).toNat)) ∧ H33 = H) ?_ ?_
  · refine wpF_drawn [] [] (fun _ _ => False) (by kernel_rfl) (by kernel_rfl) ?_
    refine wpR_q 0 (by kernel_rfl) rfl (quietAt rfl rfl (q_fieldAddr rfl Try.underlying36 rfl Try.sizeOf32 a34_1)) ?_
    refine wpR_q 1 (by kernel_rfl) rfl (quietAt rfl rfl (q_loadBlk rfl rfl Try.isAgg32 (hS33.blk 4 rfl) rfl (labU_not [] rfl (List.forall_mem_nil _)))) ?_
    refine wpR_q 2 (by kernel_rfl) rfl (quietAt rfl rfl (q_move (v := vL) rfl a34_7)) ?_
    refine wpR_q 3 (by kernel_rfl) rfl (quietAt rfl rfl (q_move (v := I ((i : Int))) rfl a34_8)) ?_
    refine wpR_q 4 (by kernel_rfl) rfl (quietAt rfl rfl (q_indexRd (k := i) rfl Try.underlying22 el_Int_3_AutoA3 rfl rfl (hS33.rowl 0 rfl) (by omega) (by omega))) ?_
    refine wpR_q 5 (by kernel_rfl) rfl (quietAt rfl rfl (q_loadInt (k := i) rfl rfl el_Int_3_AutoA3 (hS33.rowl 0 rfl) (by omega) (labU_sub [] rfl (List.forall_mem_nil _)))) ?_
    refine wpR_q 6 (by kernel_rfl) rfl (quietAt rfl rfl (q_indexRd (k := (nth L i).toNat) rfl Try.underlying32 el_Bool_4_AutoA3 rfl rfl (hS33.rdl 6 rfl) (by omega) (by omega))) ?_
    refine wpR_q 7 (by kernel_rfl) rfl (quietAt rfl rfl (q_loadBool (k := (nth L i).toNat) rfl rfl el_Bool_4_AutoA3 (hS33.rdl 6 rfl) (by omega) (labU_sub [] rfl (List.forall_mem_nil _)))) ?_
    refine wpR_end (by kernel_rfl) ?_
    exact ⟨a34_1, a34_4, a34_6, a34_7, a34_8, rfl, rfl⟩
  rintro f37 _ ⟨a37_1, a37_4, a37_6, a37_7, a37_8, a37_35, rfl⟩
  clear a34_1 a34_25 a34_4 a34_6 a34_7 a34_8
  refine wpF_cond a37_35 (fun hacc => ?t86) (fun hacc => ?e86)
  case t86 =>
    refine wpF_seq ?_
    refine wpF_cut (fun f H => ∃ (u39 : Value), f 2 = u39 ∧ f 3 = B (true) ∧ f 4 = PT g4 0 ∧ St H0 NoB (fun b => S b ∧ b < H0.size) [blkE g4 (.cells #[I (0), I (0)] 24), rdE u39 ((mget m (nth L i)).getD [] : List Int), rowE 3 vL (L : List Int), mapE r21 (m : List (Int × (List Int))), blkE g11 (.cells #[I ((autoFault a).1), I ((autoFault a).2)] 24), blkE g1 (.cells #[I (a.Signs), vn, vt] 36), rdE vn a.Next, rdE vt a.Takes] H) ?_ ?_
    · refine wpF_region ?_
      refine wpL_q (U := NoB) rfl (q_move (v := (Value.map (some r21))) rfl a37_6) ?_
      refine wpL_q (U := NoB) rfl (q_move (v := vL) rfl a37_7) ?_
      refine wpL_q (U := NoB) rfl (q_move (v := I ((i : Int))) rfl a37_8) ?_
      refine wpL_q (U := NoB) rfl (q_indexRd (k := i) rfl Try.underlying22 el_Int_3_AutoA3 rfl rfl (hS33.rowl 0 rfl) (by omega) (by omega)) ?_
      refine wpL_q (U := NoB) rfl (q_loadInt (k := i) rfl rfl el_Int_3_AutoA3 (hS33.rowl 0 rfl) (by omega) (fun _ h => h)) ?_
      obtain ⟨u39, hlu39, hru39⟩ := lookD (t := 66) (d := ([] : List Int)) Try.underlying66 (keyLaw_int Try.underlying3) Try.zeroValue22 (fun _ _ => rdNil) (nth L i) (hS33.get 1 rfl)
      have hS40 : St H0 NoB (fun b => S b ∧ b < H0.size) [rdE u39 ((mget m (nth L i)).getD [] : List Int), rowE 3 vL (L : List Int), mapE r21 (m : List (Int × (List Int))), blkE g11 (.cells #[I ((autoFault a).1), I ((autoFault a).2)] 24), blkE g4 (.cells #[I (0), I (0)] 24), blkE g1 (.cells #[I (a.Signs), vn, vt] 36), rdE vn a.Next, rdE vt a.Takes] H33 := hS33.rd hru39
      refine wpL_q (U := NoB) rfl (q_lookup0 rfl rfl rfl (hlu39 _ (fun h => h))) ?_
      refine wpL_q (U := NoB) rfl (q_build (v := Value.agg #[I (0), I (0)]) rfl par0 (fun w => by kernel_rfl)) ?_
      refine wpL_q (U := NoB) rfl (q_assign (v := u39) rfl rfl) ?_
      refine wpL_q (U := NoB) rfl (q_assign (v := B (true)) rfl rfl) ?_
      refine wpL_o rfl ?_
      refine e_storeBlkA (cs' := #[I (0), I (0)]) rfl a37_4 rfl Try.sizeOf24 rfl rfl (List.forall_mem_cons.2 ⟨rfl, List.forall_mem_cons.2 ⟨rfl, List.forall_mem_nil _⟩⟩) (hS40.front 4 rfl) (fun H41 hS42 hxx => ?_)
      replace hS42 : St H0 NoB (fun b => S b ∧ b < H0.size) [blkE g4 (.cells #[I (0), I (0)] 24), rdE u39 ((mget m (nth L i)).getD [] : List Int), rowE 3 vL (L : List Int), mapE r21 (m : List (Int × (List Int))), blkE g11 (.cells #[I ((autoFault a).1), I ((autoFault a).2)] 24), blkE g1 (.cells #[I (a.Signs), vn, vt] 36), rdE vn a.Next, rdE vt a.Takes] H41 := hS42
      exact ⟨u39, rfl, rfl, a37_4, hS42⟩
    rintro f43 H43 ⟨u39, a43_2, a43_3, a43_4, hS43⟩
    clear a37_1 a37_35 a37_4 a37_6 a37_7 a37_8
    refine wpF_ret ?_
    refine ⟨_, resT a43_2 (resT a43_3 (resC a43_4 (loadV_blkA Try.isAgg24 Try.sizeOf24 rfl (hS43.blk 0 rfl)) (resN))), hS43.frame, ?_⟩
    show ∃ rm_ m_ is_, (Value.tuple #[u39, B (true), Value.agg #[I (0), I (0)]]) = Value.tuple #[rm_, B is_, Value.agg #[I (autoFault a).1, I (autoFault a).2]] ∧ Rd (fun b => S b ∧ b < H0.size) H43 rm_ m_ ∧ AnyOk a m_ is_
    exact ⟨u39, (mget m (nth L i)).getD [], true, by rw [WF.code (Decidable.of_not_not h1)], (hS43.result (hS43.rdS 1 rfl)), (by rw [AnyOk, if_neg h1]; exact hB.found hil hno (by assumption))⟩
  refine wpF_skip ?_
  refine wpF_seq ?_
  obtain ⟨u44o7, huu44o7, hlu44o7⟩ := (Rd.list.1 (hS33.rdS 5 rfl)).elem ((nth L i).toNat) (by omega)
  have hS44o7 : St H0 NoB (fun b => S b ∧ b < H0.size) [rdE u44o7 (nth a.Next ((nth L i).toNat)), rowE 3 vL (L : List Int), mapE r21 (m : List (Int × (List Int))), blkE g11 (.cells #[I ((autoFault a).1), I ((autoFault a).2)] 24), blkE g4 (.cells #[I (0), I (0)] 24), blkE g1 (.cells #[I (a.Signs), vn, vt] 36), rdE vn a.Next, rdE vt a.Takes] H33 := hS33.rd huu44o7
  refine wpF_cut (fun f H => f 1 = PT g1 0 ∧ f 4 = PT g4 0 ∧ f 6 = (Value.map (some r21)) ∧ f 7 = vL ∧ f 8 = I ((i : Int)) ∧ f 50 = u44o7 ∧ f 51 = I (((nth a.Next ((nth L i).toNat)).length : Int)) ∧ f 52 = I (0) ∧ St H0 NoB (fun b => S b ∧ b < H0.size) [rdE u44o7 (nth a.Next ((nth L i).toNat)), rowE 3 vL (L : List Int), mapE r21 (m : List (Int × (List Int))), blkE g11 (.cells #[I ((autoFault a).1), I ((autoFault a).2)] 24), blkE g4 (.cells #[I (0), I (0)] 24), blkE g1 (.cells #[I (a.Signs), vn, vt] 36), rdE vn a.Next, rdE vt a.Takes] H) ?_ ?_
  · refine wpF_drawn [] [] (fun _ _ => False) (by kernel_rfl) (by kernel_rfl) ?_
    refine wpR_q 0 (by kernel_rfl) rfl (quietAt rfl rfl (q_fieldAddr rfl Try.underlying36 rfl Try.sizeOf27 a37_1)) ?_
    refine wpR_q 1 (by kernel_rfl) rfl (quietAt rfl rfl (q_loadBlk rfl rfl Try.isAgg27 (hS33.blk 4 rfl) rfl (labU_not [] rfl (List.forall_mem_nil _)))) ?_
    refine wpR_q 2 (by kernel_rfl) rfl (quietAt rfl rfl (q_move (v := vL) rfl a37_7)) ?_
    refine wpR_q 3 (by kernel_rfl) rfl (quietAt rfl rfl (q_move (v := I ((i : Int))) rfl a37_8)) ?_
    refine wpR_q 4 (by kernel_rfl) rfl (quietAt rfl rfl (q_indexRd (k := i) rfl Try.underlying22 el_Int_3_AutoA3 rfl rfl (hS33.rowl 0 rfl) (by omega) (by omega))) ?_
    refine wpR_q 5 (by kernel_rfl) rfl (quietAt rfl rfl (q_loadInt (k := i) rfl rfl el_Int_3_AutoA3 (hS33.rowl 0 rfl) (by omega) (labU_sub [] rfl (List.forall_mem_nil _)))) ?_
    refine wpR_q 6 (by kernel_rfl) rfl (quietAt rfl rfl (q_indexRd (k := (nth L i).toNat) rfl Try.underlying27 el_LInt_22_AutoA3 rfl rfl (hS33.rdl 5 rfl) (by omega) (by omega))) ?_
    refine wpR_q 7 (by kernel_rfl) rfl (quietAt rfl rfl (q_loadE rfl rfl (hlu44o7 Try.prog 22 _ el_LInt_22_AutoA3 (labU_sub [] rfl (List.forall_mem_nil _))))) ?_
    refine wpR_q 8 (by kernel_rfl) rfl (quietAt rfl rfl (q_lenRd rfl Try.underlying22 rfl (hS44o7.rdl 0 rfl))) ?_
    refine wpR_q 9 (by kernel_rfl) rfl (quietAt rfl rfl (q_move (v := I (0)) rfl rfl)) ?_
    refine wpR_end (by kernel_rfl) ?_
    exact ⟨a37_1, a37_4, a37_6, a37_7, a37_8, rfl, rfl, rfl, hS44o7⟩
  rintro f45 H45 ⟨a45_1, a45_4, a45_6, a45_7, a45_8, a45_50, a45_51, a45_52, hS45⟩
  clear a37_1 a37_35 a37_4 a37_6 a37_7 a37_8
  refine wpF_block ?_
  refine wpF_loop (fun mz f H => ∃ (c : Nat), ∃ (vM : Value), ∃ (LM : List Int), ∃ (mM : List (Int × List Int)), mz = (nth a.Next (nth L i).toNat).length - c ∧ (c ≤ (nth a.Next (nth L i).toNat).length) ∧ (i < LM.length) ∧ (nth LM i = nth L i) ∧ (Bfs a LM (mget mM) i c) ∧ (∀ j, j < i + 1 → nth a.Takes (nth LM j).toNat = false) ∧ f 1 = PT g1 0 ∧ f 4 = PT g4 0 ∧ f 6 = (Value.map (some r21)) ∧ f 7 = vM ∧ f 8 = I ((i : Int)) ∧ f 50 = u44o7 ∧ f 51 = I (((nth a.Next ((nth L i).toNat)).length : Int)) ∧ f 52 = I ((c : Int)) ∧ St H0 NoB (fun b => S b ∧ b < H0.size) [rowE 3 vM (LM : List Int), mapE r21 (mM : List (Int × (List Int))), rdE u44o7 (nth a.Next ((nth L i).toNat)), blkE g11 (.cells #[I ((autoFault a).1), I ((autoFault a).2)] 24), blkE g4 (.cells #[I (0), I (0)] 24), blkE g1 (.cells #[I (a.Signs), vn, vt] 36), rdE vn a.Next, rdE vt a.Takes] H) ((nth a.Next (nth L i).toNat).length - 0) ?_ ?_
  · exact ⟨0, vL, L, m, rfl, Nat.zero_le _, hil, rfl, hB, (all_succ hno (by simpa using hacc)), a45_1, a45_4, a45_6, a45_7, a45_8, a45_50, a45_51, (Eq.trans a45_52 (congrArg I (by omega))), (St.drop (show St H0 NoB (fun b => S b ∧ b < H0.size) [rowE 3 vL (L : List Int), mapE r21 (m : List (Int × (List Int))), rdE u44o7 (nth a.Next ((nth L i).toNat)), blkE g11 (.cells #[I ((autoFault a).1), I ((autoFault a).2)] 24), blkE g4 (.cells #[I (0), I (0)] 24), blkE g1 (.cells #[I (a.Signs), vn, vt] 36), rdE vn a.Next, rdE vt a.Takes] H45 from ((hS45.front 2 rfl).front 2 rfl)) (sk (sk (sk (sk (sk (sk (sk (sk (List.Sublist.slnil))))))))))⟩
  intro m46 f46 H46 hI46
  obtain ⟨c, vM, LM, mM, hm46, hc, hi2, hnth, hB2, hno2, a46_1, a46_4, a46_6, a46_7, a46_8, a46_50, a46_51, a46_52, hS46⟩ := hI46
  clear a45_1 a45_4 a45_50 a45_51 a45_52 a45_6 a45_7 a45_8
  refine wpF_seq ?_
  refine wpF_cut (fun f H => f 1 = PT g1 0 ∧ f 4 = PT g4 0 ∧ f 6 = (Value.map (some r21)) ∧ f 7 = vM ∧ f 8 = I ((i : Int)) ∧ f 50 = u44o7 ∧ f 51 = I (((nth a.Next ((nth L i).toNat)).length : Int)) ∧ f 52 = I ((c : Int)) ∧ f 53 = B (decide ((c : Int) < ((nth a.Next ((nth L i).toNat)).length : Int))) ∧ H46 = H) ?_ ?_
  · refine wpF_region ?_
    refine wpL_q (U := NoB) rfl (q_lss rfl a46_52 a46_51) ?_
    exact ⟨a46_1, a46_4, a46_6, a46_7, a46_8, a46_50, a46_51, a46_52, rfl, rfl⟩
  rintro f47 _ ⟨a47_1, a47_4, a47_6, a47_7, a47_8, a47_50, a47_51, a47_52, a47_53, rfl⟩
  clear a46_1 a46_4 a46_50 a46_51 a46_52 a46_6 a46_7 a46_8
  refine wpF_seq ?_
  refine wpF_condP a47_53 (fun hlt2 => ?t85) (fun hlt2 => ?e85)
  case e85 =>
    refine wpF_exit ?_
    refine atX_here ?_
    refine wpF_cut (fun f H => f 1 = PT g1 0 ∧ f 4 = PT g4 0 ∧ f 6 = (Value.map (some r21)) ∧ f 7 = vM ∧ f 8 = I ((i : Int) + 1) ∧ H46 = H) ?_ ?_
    · refine wpF_region ?_
      refine wpL_q (U := NoB) rfl (q_move (v := I ((i : Int))) rfl a47_8) ?_
      refine wpL_q (U := NoB) rfl (q_add rfl rfl rfl (by constructor <;> omega)) ?_
      refine wpL_q (U := NoB) rfl (q_assign (v := I ((i : Int) + 1)) rfl rfl) ?_
      exact ⟨a47_1, a47_4, a47_6, a47_7, rfl, rfl⟩
    rintro f84 _ ⟨a84_1, a84_4, a84_6, a84_7, a84_8, rfl⟩
    clear a47_1 a47_4 a47_50 a47_51 a47_52 a47_53 a47_6 a47_7 a47_8
    refine ⟨_, ?_, i + 1, vM, LM, mM, rfl, (by omega), (hB2.turn (by omega)), hno2, a84_1, a84_4, a84_6, a84_7, (Eq.trans a84_8 (congrArg I (by omega))), (hS46.drop (sk (sk (sn (sk (sk (sk (sk (sk (List.Sublist.slnil))))))))))⟩
    omega
  have hst : nth (nth a.Next ((nth L i).toNat)) c = stepA a (nth LM i) c := by rw [hnth]; rfl
  have hfew2 := hB2.few
  have hwl := hB2.short i hi2
  have hkey := hW.step (hB2.rng _ (nth_mem hi2)) (c := (c : Int)) (by omega)
  refine wpF_skip ?_
  refine wpF_seq ?_
  refine wpF_block ?_
  refine wpF_seq ?_
  refine wpF_cut (fun f H => f 1 = PT g1 0 ∧ f 4 = PT g4 0 ∧ f 6 = (Value.map (some r21)) ∧ f 7 = vM ∧ f 8 = I ((i : Int)) ∧ f 9 = I ((c : Int)) ∧ f 10 = I (nth (nth a.Next ((nth L i).toNat)) c) ∧ f 50 = u44o7 ∧ f 51 = I (((nth a.Next ((nth L i).toNat)).length : Int)) ∧ f 52 = I ((c : Int)) ∧ H46 = H) ?_ ?_
  · refine wpF_region ?_
    refine wpL_q (U := NoB) rfl (q_move (v := I ((c : Int))) rfl a47_52) ?_
    refine wpL_q (U := NoB) rfl (q_indexRd (k := c) rfl Try.underlying22 el_Int_3_AutoA3 a47_50 a47_52 (hS46.rdl 2 rfl) (by omega) (by omega)) ?_
    refine wpL_q (U := NoB) rfl (q_loadInt (k := c) rfl rfl el_Int_3_AutoA3 (hS46.rdl 2 rfl) (by omega) (fun _ h => h)) ?_
    refine wpL_q (U := NoB) rfl (q_assign (v := I ((c : Int))) rfl rfl) ?_
    refine wpL_q (U := NoB) rfl (q_assign (v := I (nth (nth a.Next ((nth L i).toNat)) c)) rfl rfl) ?_
    exact ⟨a47_1, a47_4, a47_6, a47_7, a47_8, rfl, rfl, a47_50, a47_51, a47_52, rfl⟩
  rintro f49 _ ⟨a49_1, a49_4, a49_6, a49_7, a49_8, a49_9, a49_10, a49_50, a49_51, a49_52, rfl⟩
  clear a47_1 a47_4 a47_50 a47_51 a47_52 a47_53 a47_6 a47_7 a47_8
  refine wpF_seq ?_
  refine wpF_cut (fun f H => f 1 = PT g1 0 ∧ f 4 = PT g4 0 ∧ f 6 = (Value.map (some r21)) ∧ f 7 = vM ∧ f 8 = I ((i : Int)) ∧ f 9 = I ((c : Int)) ∧ f 10 = I (nth (nth a.Next ((nth L i).toNat)) c) ∧ f 12 = B ((mget mM (nth (nth a.Next ((nth L i).toNat)) c)).isSome) ∧ f 50 = u44o7 ∧ f 51 = I (((nth a.Next ((nth L i).toNat)).length : Int)) ∧ f 52 = I ((c : Int)) ∧ H46 = H) ?_ ?_
  · refine wpF_region ?_
    refine wpL_q (U := NoB) rfl (q_move (v := (Value.map (some r21))) rfl a49_6) ?_
    refine wpL_q (U := NoB) rfl (q_move (v := I (nth (nth a.Next ((nth L i).toNat)) c)) rfl a49_10) ?_
    obtain ⟨u50, hlu50, hru50⟩ := lookD (t := 66) (d := ([] : List Int)) Try.underlying66 (keyLaw_int Try.underlying3) Try.zeroValue22 (fun _ _ => rdNil) (nth (nth a.Next ((nth L i).toNat)) c) (hS46.get 1 rfl)
    have hS51 : St H0 NoB (fun b => S b ∧ b < H0.size) [rdE u50 ((mget mM (nth (nth a.Next ((nth L i).toNat)) c)).getD [] : List Int), rowE 3 vM (LM : List Int), mapE r21 (mM : List (Int × (List Int))), rdE u44o7 (nth a.Next ((nth L i).toNat)), blkE g11 (.cells #[I ((autoFault a).1), I ((autoFault a).2)] 24), blkE g4 (.cells #[I (0), I (0)] 24), blkE g1 (.cells #[I (a.Signs), vn, vt] 36), rdE vn a.Next, rdE vt a.Takes] H46 := hS46.rd hru50
    refine wpL_q (U := NoB) rfl (q_lookup1 rfl rfl rfl (hlu50 _ (fun h => h))) ?_
    refine wpL_q (U := NoB) rfl (q_move (v := Value.tuple #[u50, B ((mget mM (nth (nth a.Next ((nth L i).toNat)) c)).isSome)]) rfl rfl) ?_
    refine wpL_q (U := NoB) rfl (q_extract (vs := #[u50, B ((mget mM (nth (nth a.Next ((nth L i).toNat)) c)).isSome)]) (v := u50) rfl rfl rfl) ?_
    refine wpL_q (U := NoB) rfl (q_extract (vs := #[u50, B ((mget mM (nth (nth a.Next ((nth L i).toNat)) c)).isSome)]) (v := B ((mget mM (nth (nth a.Next ((nth L i).toNat)) c)).isSome)) rfl rfl rfl) ?_
    refine wpL_q (U := NoB) rfl (q_assign (v := u50) rfl rfl) ?_
    refine wpL_q (U := NoB) rfl (q_assign (v := B ((mget mM (nth (nth a.Next ((nth L i).toNat)) c)).isSome)) rfl rfl) ?_
    exact ⟨a49_1, a49_4, a49_6, a49_7, a49_8, a49_9, a49_10, rfl, a49_50, a49_51, a49_52, rfl⟩
  rintro f52 _ ⟨a52_1, a52_4, a52_6, a52_7, a52_8, a52_9, a52_10, a52_12, a52_50, a52_51, a52_52, rfl⟩
  clear a49_1 a49_10 a49_4 a49_50 a49_51 a49_52 a49_6 a49_7 a49_8 a49_9
  refine wpF_seq ?_
  refine wpF_cut (fun f H => f 1 = PT g1 0 ∧ f 4 = PT g4 0 ∧ f 6 = (Value.map (some r21)) ∧ f 7 = vM ∧ f 8 = I ((i : Int)) ∧ f 9 = I ((c : Int)) ∧ f 10 = I (nth (nth a.Next ((nth L i).toNat)) c) ∧ f 50 = u44o7 ∧ f 51 = I (((nth a.Next ((nth L i).toNat)).length : Int)) ∧ f 52 = I ((c : Int)) ∧ f 64 = B (!((mget mM (nth (nth a.Next ((nth L i).toNat)) c)).isSome)) ∧ H46 = H) ?_ ?_
  · refine wpF_region ?_
    refine wpL_q (U := NoB) rfl (q_move (v := B ((mget mM (nth (nth a.Next ((nth L i).toNat)) c)).isSome)) rfl a52_12) ?_
    refine wpL_q (U := NoB) rfl (q_not rfl rfl) ?_
    exact ⟨a52_1, a52_4, a52_6, a52_7, a52_8, a52_9, a52_10, a52_50, a52_51, a52_52, rfl, rfl⟩
  rintro f53 _ ⟨a53_1, a53_4, a53_6, a53_7, a53_8, a53_9, a53_10, a53_50, a53_51, a53_52, a53_64, rfl⟩
  clear a52_1 a52_10 a52_12 a52_4 a52_50 a52_51 a52_52 a52_6 a52_7 a52_8 a52_9
  refine wpF_cut (fun f H => ∃ (vN : Value), ∃ (LN : List Int), ∃ (mN : List (Int × List Int)), (i < LN.length) ∧ (nth LN i = nth L i) ∧ (Bfs a LN (mget mN) i (c + 1)) ∧ (∀ j, j < i + 1 → nth a.Takes (nth LN j).toNat = false) ∧ f 1 = PT g1 0 ∧ f 4 = PT g4 0 ∧ f 6 = (Value.map (some r21)) ∧ f 7 = vN ∧ f 8 = I ((i : Int)) ∧ f 50 = u44o7 ∧ f 51 = I (((nth a.Next ((nth L i).toNat)).length : Int)) ∧ f 52 = I ((c : Int)) ∧ St H0 NoB (fun b => S b ∧ b < H0.size) [rowE 3 vN (LN : List Int), mapE r21 (mN : List (Int × (List Int))), rdE u44o7 (nth a.Next ((nth L i).toNat)), blkE g11 (.cells #[I ((autoFault a).1), I ((autoFault a).2)] 24), blkE g4 (.cells #[I (0), I (0)] 24), blkE g1 (.cells #[I (a.Signs), vn, vt] 36), rdE vn a.Next, rdE vt a.Takes] H) ?_ ?_
  · refine wpF_cond a53_64 (fun hnew => ?t82) (fun hnew => ?e82)
    case e82 =>
      refine wpF_skip ?_
      exact ⟨vM, LM, mM, hi2, hnth, (hB2.old hi2 (by rw [← hst]; simpa using hnew)), hno2, a53_1, a53_4, a53_6, a53_7, a53_8, a53_50, a53_51, a53_52, hS46⟩
    refine wpF_seq ?_
    refine wpF_cut (fun f H => f 1 = PT g1 0 ∧ f 4 = PT g4 0 ∧ f 6 = (Value.map (some r21)) ∧ f 7 = vM ∧ f 8 = I ((i : Int)) ∧ f 10 = I (nth (nth a.Next ((nth L i).toNat)) c) ∧ f 50 = u44o7 ∧ f 51 = I (((nth a.Next ((nth L i).toNat)).length : Int)) ∧ f 52 = I ((c : Int)) ∧ St H0 NoB (fun b => S b ∧ b < H0.size) [mapE r21 (mset mM (nth (nth a.Next ((nth L i).toNat)) c) (((mget mM (nth LM i)).getD []) ++ ([(c : Int)])) : List (Int × (List Int))), rowE 3 vM (LM : List Int), rdE u44o7 (nth a.Next ((nth L i).toNat)), blkE g11 (.cells #[I ((autoFault a).1), I ((autoFault a).2)] 24), blkE g4 (.cells #[I (0), I (0)] 24), blkE g1 (.cells #[I (a.Signs), vn, vt] 36), rdE vn a.Next, rdE vt a.Takes] H) ?_ ?_
    · refine wpF_region ?_
      refine wpL_q (U := NoB) rfl (q_move (v := (Value.map (some r21))) rfl a53_6) ?_
      refine wpL_q (U := NoB) rfl (q_move (v := I (nth (nth a.Next ((nth L i).toNat)) c)) rfl a53_10) ?_
      refine wpL_q (U := NoB) rfl (q_move (v := (Value.map (some r21))) rfl a53_6) ?_
      refine wpL_q (U := NoB) rfl (q_move (v := vM) rfl a53_7) ?_
      refine wpL_q (U := NoB) rfl (q_move (v := I ((i : Int))) rfl a53_8) ?_
      refine wpL_q (U := NoB) rfl (q_indexRd (k := i) rfl Try.underlying22 el_Int_3_AutoA3 rfl rfl (hS46.rowl 0 rfl) (by omega) (by omega)) ?_
      refine wpL_q (U := NoB) rfl (q_loadInt (k := i) rfl rfl el_Int_3_AutoA3 (hS46.rowl 0 rfl) (by omega) (fun _ h => h)) ?_
      obtain ⟨u56, hlu56, hru56⟩ := lookD (t := 66) (d := ([] : List Int)) Try.underlying66 (keyLaw_int Try.underlying3) Try.zeroValue22 (fun _ _ => rdNil) (nth LM i) (hS46.get 1 rfl)
      have hS57 : St H0 NoB (fun b => S b ∧ b < H0.size) [rdE u56 ((mget mM (nth LM i)).getD [] : List Int), rowE 3 vM (LM : List Int), mapE r21 (mM : List (Int × (List Int))), rdE u44o7 (nth a.Next ((nth L i).toNat)), blkE g11 (.cells #[I ((autoFault a).1), I ((autoFault a).2)] 24), blkE g4 (.cells #[I (0), I (0)] 24), blkE g1 (.cells #[I (a.Signs), vn, vt] 36), rdE vn a.Next, rdE vt a.Takes] H46 := hS46.rd hru56
      refine wpL_q (U := NoB) rfl (q_lookup0 rfl rfl rfl (hlu56 _ (fun h => h))) ?_
      refine wpL_o rfl ?_
      refine e_call rfl Try.call54 (arr1 (v0 := u56) rfl) (Clip u56 _ (hS57.rdN 0 rfl)) ?_
      rintro _ H58 ⟨hxx, rfl⟩
      have hS59 : St H0 NoB (fun b => S b ∧ b < H0.size) [rdE (clipV u56) ((mget mM (nth LM i)).getD [] : List Int), rdE u56 ((mget mM (nth LM i)).getD [] : List Int), rowE 3 vM (LM : List Int), mapE r21 (mM : List (Int × (List Int))), rdE u44o7 (nth a.Next ((nth L i).toNat)), blkE g11 (.cells #[I ((autoFault a).1), I ((autoFault a).2)] 24), blkE g4 (.cells #[I (0), I (0)] 24), blkE g1 (.cells #[I (a.Signs), vn, vt] 36), rdE vn a.Next, rdE vt a.Takes] H58 := ((hS57.ext hxx).rd (Rd.list.2 (RdL.clip (Rd.list.1 ((hS57.ext hxx).rdS 0 rfl)))))
      refine wpL_q (U := NoB) rfl (q_move (v := I ((c : Int))) rfl a53_9) ?_
      refine wpL_o rfl ?_
      refine e_buildSlice (vs := [I ((c : Int))]) (xs := ([(c : Int)] : List Int)) rfl Try.underlying22 Try.zeroValue3 rfl Try.sizeOf3 (par1 (v0 := I ((c : Int))) rfl) rfl hS59 (RdVs.cons (Rd.int.2 ⟨rfl, by constructor <;> omega⟩) (RdVs.nil)) (by decide) (by decide) (fun v61 H62 hS63 hxx hvv61 => ?_)
      replace hS63 : St H0 NoB (fun b => S b ∧ b < H0.size) [rowE 3 v61 ([(c : Int)] : List Int), rdE (clipV u56) ((mget mM (nth LM i)).getD [] : List Int), rdE u56 ((mget mM (nth LM i)).getD [] : List Int), rowE 3 vM (LM : List Int), mapE r21 (mM : List (Int × (List Int))), rdE u44o7 (nth a.Next ((nth L i).toNat)), blkE g11 (.cells #[I ((autoFault a).1), I ((autoFault a).2)] 24), blkE g4 (.cells #[I (0), I (0)] 24), blkE g1 (.cells #[I (a.Signs), vn, vt] 36), rdE vn a.Next, rdE vt a.Takes] H62 := hS63
      have hS64 : St H0 NoB (fun b => S b ∧ b < H0.size) [rdE v61 ([(c : Int)] : List Int), rdE (clipV u56) ((mget mM (nth LM i)).getD [] : List Int), rdE u56 ((mget mM (nth LM i)).getD [] : List Int), rowE 3 vM (LM : List Int), mapE r21 (mM : List (Int × (List Int))), rdE u44o7 (nth a.Next ((nth L i).toNat)), blkE g11 (.cells #[I ((autoFault a).1), I ((autoFault a).2)] 24), blkE g4 (.cells #[I (0), I (0)] 24), blkE g1 (.cells #[I (a.Signs), vn, vt] 36), rdE vn a.Next, rdE vt a.Takes] H62 := St.fin hS63
      refine wpL_o rfl ?_
      refine e_appendTight rfl Try.underlying22 em_Int_3_AutoA3 rfl rfl hS64 (hS64.rdS 1 rfl) (RdL.tight (hS64.rdl 2 rfl)) (hS64.rdS 0 rfl) (by simp) (by have hb : GoT.bytes Int = 8 := rfl; simp [hb]; omega) (by decide) (fun v65 H66 hS67 hxx => ?_)
      replace hS67 : St H0 NoB (fun b => S b ∧ b < H0.size) [rowE 3 v65 (((mget mM (nth LM i)).getD []) ++ ([(c : Int)]) : List Int), rdE v61 ([(c : Int)] : List Int), rdE (clipV u56) ((mget mM (nth LM i)).getD [] : List Int), rdE u56 ((mget mM (nth LM i)).getD [] : List Int), rowE 3 vM (LM : List Int), mapE r21 (mM : List (Int × (List Int))), rdE u44o7 (nth a.Next ((nth L i).toNat)), blkE g11 (.cells #[I ((autoFault a).1), I ((autoFault a).2)] 24), blkE g4 (.cells #[I (0), I (0)] 24), blkE g1 (.cells #[I (a.Signs), vn, vt] 36), rdE vn a.Next, rdE vt a.Takes] H66 := hS67
      have hS68 : St H0 NoB (fun b => S b ∧ b < H0.size) [rdE v65 (((mget mM (nth LM i)).getD []) ++ ([(c : Int)]) : List Int), rdE v61 ([(c : Int)] : List Int), rdE (clipV u56) ((mget mM (nth LM i)).getD [] : List Int), rdE u56 ((mget mM (nth LM i)).getD [] : List Int), rowE 3 vM (LM : List Int), mapE r21 (mM : List (Int × (List Int))), rdE u44o7 (nth a.Next ((nth L i).toNat)), blkE g11 (.cells #[I ((autoFault a).1), I ((autoFault a).2)] 24), blkE g4 (.cells #[I (0), I (0)] 24), blkE g1 (.cells #[I (a.Signs), vn, vt] 36), rdE vn a.Next, rdE vt a.Takes] H66 := St.fin hS67
      have hS69 : St H0 NoB (fun b => S b ∧ b < H0.size) [mapE r21 (mM : List (Int × (List Int))), rdE v65 (((mget mM (nth LM i)).getD []) ++ ([(c : Int)]) : List Int), rdE v61 ([(c : Int)] : List Int), rdE (clipV u56) ((mget mM (nth LM i)).getD [] : List Int), rdE u56 ((mget mM (nth LM i)).getD [] : List Int), rowE 3 vM (LM : List Int), rdE u44o7 (nth a.Next ((nth L i).toNat)), blkE g11 (.cells #[I ((autoFault a).1), I ((autoFault a).2)] 24), blkE g4 (.cells #[I (0), I (0)] 24), blkE g1 (.cells #[I (a.Signs), vn, vt] 36), rdE vn a.Next, rdE vt a.Takes] H66 := (hS68.front 5 rfl)
      refine wpL_o rfl ?_
      refine e_mapUpdate (k := (nth (nth a.Next ((nth L i).toNat)) c)) (.inl rfl) Try.underlying66 (keyLaw_int Try.underlying3) rfl rfl rfl hS69 (hS69.rdS 1 rfl) (fun H70 hS71 hxx => ?_)
      replace hS71 : St H0 NoB (fun b => S b ∧ b < H0.size) [mapE r21 (mset mM (nth (nth a.Next ((nth L i).toNat)) c) (((mget mM (nth LM i)).getD []) ++ ([(c : Int)])) : List (Int × (List Int))), rdE v65 (((mget mM (nth LM i)).getD []) ++ ([(c : Int)]) : List Int), rdE v61 ([(c : Int)] : List Int), rdE (clipV u56) ((mget mM (nth LM i)).getD [] : List Int), rdE u56 ((mget mM (nth LM i)).getD [] : List Int), rowE 3 vM (LM : List Int), rdE u44o7 (nth a.Next ((nth L i).toNat)), blkE g11 (.cells #[I ((autoFault a).1), I ((autoFault a).2)] 24), blkE g4 (.cells #[I (0), I (0)] 24), blkE g1 (.cells #[I (a.Signs), vn, vt] 36), rdE vn a.Next, rdE vt a.Takes] H70 := hS71
      exact ⟨a53_1, a53_4, a53_6, a53_7, a53_8, a53_10, a53_50, a53_51, a53_52, (hS71.drop (sk (sn (sn (sn (sn (sk (sk (sk (sk (sk (sk (sk (List.Sublist.slnil))))))))))))))⟩
    rintro f72 H72 ⟨a72_1, a72_4, a72_6, a72_7, a72_8, a72_10, a72_50, a72_51, a72_52, hS72⟩
    clear a53_1 a53_10 a53_4 a53_50 a53_51 a53_52 a53_6 a53_64 a53_7 a53_8 a53_9
    refine wpF_cut (fun f H => ∃ (v78 : Value), f 1 = PT g1 0 ∧ f 4 = PT g4 0 ∧ f 6 = (Value.map (some r21)) ∧ f 7 = v78 ∧ f 8 = I ((i : Int)) ∧ f 50 = u44o7 ∧ f 51 = I (((nth a.Next ((nth L i).toNat)).length : Int)) ∧ f 52 = I ((c : Int)) ∧ St H0 NoB (fun b => S b ∧ b < H0.size) [rowE 3 v78 (LM ++ ([nth (nth a.Next ((nth L i).toNat)) c]) : List Int), mapE r21 (mset mM (nth (nth a.Next ((nth L i).toNat)) c) (((mget mM (nth LM i)).getD []) ++ ([(c : Int)])) : List (Int × (List Int))), rdE u44o7 (nth a.Next ((nth L i).toNat)), blkE g11 (.cells #[I ((autoFault a).1), I ((autoFault a).2)] 24), blkE g4 (.cells #[I (0), I (0)] 24), blkE g1 (.cells #[I (a.Signs), vn, vt] 36), rdE vn a.Next, rdE vt a.Takes] H) ?_ ?_
    · refine wpF_region ?_
      refine wpL_q (U := NoB) rfl (q_move (v := vM) rfl a72_7) ?_
      refine wpL_q (U := NoB) rfl (q_move (v := I (nth (nth a.Next ((nth L i).toNat)) c)) rfl a72_10) ?_
      refine wpL_o rfl ?_
      refine e_buildSlice (vs := [I (nth (nth a.Next ((nth L i).toNat)) c)]) (xs := ([nth (nth a.Next ((nth L i).toNat)) c] : List Int)) rfl Try.underlying22 Try.zeroValue3 rfl Try.sizeOf3 (par1 (v0 := I (nth (nth a.Next ((nth L i).toNat)) c)) rfl) rfl hS72 (RdVs.cons (Rd.int.2 ⟨rfl, by constructor <;> omega⟩) (RdVs.nil)) (by decide) (by decide) (fun v73 H74 hS75 hxx hvv73 => ?_)
      replace hS75 : St H0 NoB (fun b => S b ∧ b < H0.size) [rowE 3 v73 ([nth (nth a.Next ((nth L i).toNat)) c] : List Int), mapE r21 (mset mM (nth (nth a.Next ((nth L i).toNat)) c) (((mget mM (nth LM i)).getD []) ++ ([(c : Int)])) : List (Int × (List Int))), rowE 3 vM (LM : List Int), rdE u44o7 (nth a.Next ((nth L i).toNat)), blkE g11 (.cells #[I ((autoFault a).1), I ((autoFault a).2)] 24), blkE g4 (.cells #[I (0), I (0)] 24), blkE g1 (.cells #[I (a.Signs), vn, vt] 36), rdE vn a.Next, rdE vt a.Takes] H74 := hS75
      have hS76 : St H0 NoB (fun b => S b ∧ b < H0.size) [rdE v73 ([nth (nth a.Next ((nth L i).toNat)) c] : List Int), mapE r21 (mset mM (nth (nth a.Next ((nth L i).toNat)) c) (((mget mM (nth LM i)).getD []) ++ ([(c : Int)])) : List (Int × (List Int))), rowE 3 vM (LM : List Int), rdE u44o7 (nth a.Next ((nth L i).toNat)), blkE g11 (.cells #[I ((autoFault a).1), I ((autoFault a).2)] 24), blkE g4 (.cells #[I (0), I (0)] 24), blkE g1 (.cells #[I (a.Signs), vn, vt] 36), rdE vn a.Next, rdE vt a.Takes] H74 := St.fin hS75
      have hS77 : St H0 NoB (fun b => S b ∧ b < H0.size) [rowE 3 vM (LM : List Int), rdE v73 ([nth (nth a.Next ((nth L i).toNat)) c] : List Int), mapE r21 (mset mM (nth (nth a.Next ((nth L i).toNat)) c) (((mget mM (nth LM i)).getD []) ++ ([(c : Int)])) : List (Int × (List Int))), rdE u44o7 (nth a.Next ((nth L i).toNat)), blkE g11 (.cells #[I ((autoFault a).1), I ((autoFault a).2)] 24), blkE g4 (.cells #[I (0), I (0)] 24), blkE g1 (.cells #[I (a.Signs), vn, vt] 36), rdE vn a.Next, rdE vt a.Takes] H74 := (hS76.front 2 rfl)
      refine wpL_o rfl ?_
      refine e_append rfl Try.underlying22 em_Int_3_AutoA3 rfl rfl hS77 (hS77.rdS 1 rfl) (fun _ h => h) (by have hb : GoT.bytes Int = 8 := rfl; simp [hb]; omega) (by decide) (fun v78 H79 hS80 hxx => ?_)
      replace hS80 : St H0 NoB (fun b => S b ∧ b < H0.size) [rowE 3 v78 (LM ++ ([nth (nth a.Next ((nth L i).toNat)) c]) : List Int), rdE v73 ([nth (nth a.Next ((nth L i).toNat)) c] : List Int), mapE r21 (mset mM (nth (nth a.Next ((nth L i).toNat)) c) (((mget mM (nth LM i)).getD []) ++ ([(c : Int)])) : List (Int × (List Int))), rdE u44o7 (nth a.Next ((nth L i).toNat)), blkE g11 (.cells #[I ((autoFault a).1), I ((autoFault a).2)] 24), blkE g4 (.cells #[I (0), I (0)] 24), blkE g1 (.cells #[I (a.Signs), vn, vt] 36), rdE vn a.Next, rdE vt a.Takes] H79 := hS80
      refine wpL_q (U := NoB) rfl (q_assign (v := v78) rfl rfl) ?_
      exact ⟨v78, a72_1, a72_4, a72_6, rfl, a72_8, a72_50, a72_51, a72_52, (hS80.drop (sk (sn (sk (sk (sk (sk (sk (sk (sk (List.Sublist.slnil)))))))))))⟩
    rintro f81 H81 ⟨v78, a81_1, a81_4, a81_6, a81_7, a81_8, a81_50, a81_51, a81_52, hS81⟩
    clear a72_1 a72_10 a72_4 a72_50 a72_51 a72_52 a72_6 a72_7 a72_8
    have hBn : Bfs a (LM ++ ([nth (nth a.Next ((nth L i).toNat)) c])) (mget (mset mM (nth (nth a.Next ((nth L i).toNat)) c) (((mget mM (nth LM i)).getD []) ++ ([(c : Int)])))) i (c + 1) := by
      have h := hB2.new hW hi2 (by omega) (by rw [← hst]; simpa using hnew) rfl
      rw [← hst] at h
      have e : mget (mset mM (nth (nth a.Next ((nth L i).toNat)) c) (((mget mM (nth LM i)).getD []) ++ ([(c : Int)]))) = _ := funext fun q => mget_mset mM _ q _
      rw [e]
      exact h
    exact ⟨v78, LM ++ ([nth (nth a.Next ((nth L i).toNat)) c]), mset mM (nth (nth a.Next ((nth L i).toNat)) c) (((mget mM (nth LM i)).getD []) ++ ([(c : Int)])), (by rw [List.length_append]; omega), ((nth_app_left hi2).trans hnth), hBn, (fun j hj => by rw [nth_app_left (by omega)]; exact hno2 j hj), a81_1, a81_4, a81_6, a81_7, a81_8, a81_50, a81_51, a81_52, hS81⟩
  rintro f54 H54 ⟨vN, LN, mN, hi3, hnth3, hB3, hno3, a54_1, a54_4, a54_6, a54_7, a54_8, a54_50, a54_51, a54_52, hS54⟩
  clear a53_1 a53_10 a53_4 a53_50 a53_51 a53_52 a53_6 a53_64 a53_7 a53_8 a53_9
  refine wpF_cut (fun f H => f 1 = PT g1 0 ∧ f 4 = PT g4 0 ∧ f 6 = (Value.map (some r21)) ∧ f 7 = vN ∧ f 8 = I ((i : Int)) ∧ f 50 = u44o7 ∧ f 51 = I (((nth a.Next ((nth L i).toNat)).length : Int)) ∧ f 52 = I ((c : Int) + 1) ∧ H54 = H) ?_ ?_
  · refine wpF_region ?_
    refine wpL_q (U := NoB) rfl (q_add rfl a54_52 rfl (by constructor <;> omega)) ?_
    refine wpL_q (U := NoB) rfl (q_move (v := I ((c : Int) + 1)) rfl rfl) ?_
    exact ⟨a54_1, a54_4, a54_6, a54_7, a54_8, a54_50, a54_51, rfl, rfl⟩
  rintro f83 _ ⟨a83_1, a83_4, a83_6, a83_7, a83_8, a83_50, a83_51, a83_52, rfl⟩
  clear a54_1 a54_4 a54_50 a54_51 a54_52 a54_6 a54_7 a54_8
  refine ⟨_, ?_, c + 1, vN, LN, mN, rfl, (by omega), hi3, hnth3, hB3, hno3, a83_1, a83_4, a83_6, a83_7, a83_8, a83_50, a83_51, (Eq.trans a83_52 (congrArg I (by omega))), hS54⟩
  omega

set_option maxRecDepth 100000 in
theorem autoFact {H0 : Heap}   : CallsH Try.prog 27 #[] H0 (fun rv_ H' => Ext NoB H0 H' ∧ rv_ = B true) := by
  have hS0 : St H0 NoB NoB [] H0 := St.start (fun _ h => h.elim)
  refine callsH_of_wpF (args := []) (rs := [.tmp 0]) Try.func27 rfl Try.ntmps27 Try.results27 (by kernel_rfl) (Nat.le_of_ble_eq_true rfl) ?_
  generalize argF [] = f0 at *
  refine wpF_seq ?_
  refine wpF_cut (fun f H => H0 = H) ?_ ?_
  · refine wpF_region ?_
    refine wpL_q (U := NoB) rfl (q_assign (v := B (false)) rfl rfl) ?_
    exact rfl
  rintro f1 _ rfl
  refine wpF_seq ?_
  refine wpF_cut (fun f H => ∃ (v7 : Value), ∃ (g13 : Nat), f 1 = B ((autoTakes evenA ([1, 0, 1])).1) ∧ f 2 = PT g13 0 ∧ St H0 NoB NoB [blkE g13 (.cells #[I ((autoTakes evenA ([1, 0, 1])).2.1), I ((autoTakes evenA ([1, 0, 1])).2.2)] 24), rowE 3 v7 ([1, 0, 1] : List Int)] H) ?_ ?_
  · refine wpF_region ?_
    refine wpL_o rfl ?_
    refine e_call rfl Try.call53 arr0 (even (S := SL NoB [])) ?_
    rintro _ H4 ⟨hxx, r2, r3, rfl, hrr2, hrr3⟩
    have hS5 : St H0 NoB NoB [rdE r2 evenA.Next, rdE r3 evenA.Takes] H4 := (hS0.res2 hxx hrr2 hrr3)
    refine wpL_o rfl ?_
    refine e_buildSlice (vs := [I (1), I (0), I (1)]) (xs := ([1, 0, 1] : List Int)) rfl Try.underlying22 Try.zeroValue3 rfl Try.sizeOf3 (par3 (v0 := I (1)) (v1 := I (0)) (v2 := I (1)) rfl rfl rfl) rfl hS5 (RdVs.cons (Rd.int.2 ⟨rfl, by constructor <;> omega⟩) (RdVs.cons (Rd.int.2 ⟨rfl, by constructor <;> omega⟩) (RdVs.cons (Rd.int.2 ⟨rfl, by constructor <;> omega⟩) (RdVs.nil)))) (by decide) (by decide) (fun v7 H8 hS9 hxx hvv7 => ?_)
    replace hS9 : St H0 NoB NoB [rowE 3 v7 ([1, 0, 1] : List Int), rdE r2 evenA.Next, rdE r3 evenA.Takes] H8 := hS9
    refine wpL_o rfl ?_
    refine e_call rfl Try.call24 (arr2 (v0 := Value.agg #[I (evenA.Signs), r2, r3]) (v1 := v7) rfl rfl) (Takes r2 r3 v7 evenA ([1, 0, 1]) (hS9.rdN 1 rfl) (hS9.rdN 2 rfl) evenA_sg (hS9.rowN 0 rfl)) ?_
    rintro _ H10 ⟨hxx, rfl⟩
    have hS11 : St H0 NoB NoB [rowE 3 v7 ([1, 0, 1] : List Int), rdE r2 evenA.Next, rdE r3 evenA.Takes] H10 := hS9.ext hxx
    refine wpL_q (U := NoB) rfl (q_move (v := Value.tuple #[B ((autoTakes evenA ([1, 0, 1])).1), Value.agg #[I ((autoTakes evenA ([1, 0, 1])).2.1), I ((autoTakes evenA ([1, 0, 1])).2.2)]]) rfl rfl) ?_
    refine wpL_q (U := NoB) rfl (q_extract (vs := #[B ((autoTakes evenA ([1, 0, 1])).1), Value.agg #[I ((autoTakes evenA ([1, 0, 1])).2.1), I ((autoTakes evenA ([1, 0, 1])).2.2)]]) (v := B ((autoTakes evenA ([1, 0, 1])).1)) rfl rfl rfl) ?_
    refine wpL_q (U := NoB) rfl (q_extract (vs := #[B ((autoTakes evenA ([1, 0, 1])).1), Value.agg #[I ((autoTakes evenA ([1, 0, 1])).2.1), I ((autoTakes evenA ([1, 0, 1])).2.2)]]) (v := Value.agg #[I ((autoTakes evenA ([1, 0, 1])).2.1), I ((autoTakes evenA ([1, 0, 1])).2.2)]) rfl rfl rfl) ?_
    refine wpL_o rfl ?_
    refine e_alloc rfl Try.zeroValue24 hS11 (fun g13 H14 hS15 hxx => ?_)
    replace hS15 : St H0 NoB NoB [blkE g13 (.cells #[I (0), I (0)] 24), rowE 3 v7 ([1, 0, 1] : List Int), rdE r2 evenA.Next, rdE r3 evenA.Takes] H14 := hS15
    refine wpL_q (U := NoB) rfl (q_assign (v := B ((autoTakes evenA ([1, 0, 1])).1)) rfl rfl) ?_
    refine wpL_o rfl ?_
    refine e_storeBlkA (cs' := #[I ((autoTakes evenA ([1, 0, 1])).2.1), I ((autoTakes evenA ([1, 0, 1])).2.2)]) rfl rfl rfl Try.sizeOf24 rfl rfl (List.forall_mem_cons.2 ⟨rfl, List.forall_mem_cons.2 ⟨rfl, List.forall_mem_nil _⟩⟩) hS15 (fun H16 hS17 hxx => ?_)
    replace hS17 : St H0 NoB NoB [blkE g13 (.cells #[I ((autoTakes evenA ([1, 0, 1])).2.1), I ((autoTakes evenA ([1, 0, 1])).2.2)] 24), rowE 3 v7 ([1, 0, 1] : List Int), rdE r2 evenA.Next, rdE r3 evenA.Takes] H16 := hS17
    exact ⟨v7, g13, rfl, rfl, (hS17.drop (sk (sk (sn (sn (List.Sublist.slnil))))))⟩
  rintro f18 H18 ⟨v7, g13, a18_1, a18_2, hS18⟩
  refine wpF_seq ?_
  refine wpF_cut (fun f H => ∃ (v24 : Value), ∃ (g30 : Nat), f 1 = B ((autoTakes evenA ([1, 0, 1])).1) ∧ f 2 = PT g13 0 ∧ f 3 = B ((autoTakes evenA ([1])).1) ∧ f 4 = PT g30 0 ∧ St H0 NoB NoB [blkE g30 (.cells #[I ((autoTakes evenA ([1])).2.1), I ((autoTakes evenA ([1])).2.2)] 24), rowE 3 v24 ([1] : List Int), blkE g13 (.cells #[I ((autoTakes evenA ([1, 0, 1])).2.1), I ((autoTakes evenA ([1, 0, 1])).2.2)] 24), rowE 3 v7 ([1, 0, 1] : List Int)] H) ?_ ?_
  · refine wpF_region ?_
    refine wpL_o rfl ?_
    refine e_call rfl Try.call53 arr0 (even (S := SL NoB [blkE g13 (.cells #[I ((autoTakes evenA ([1, 0, 1])).2.1), I ((autoTakes evenA ([1, 0, 1])).2.2)] 24), rowE 3 v7 ([1, 0, 1] : List Int)])) ?_
    rintro _ H21 ⟨hxx, r19, r20, rfl, hrr19, hrr20⟩
    have hS22 : St H0 NoB NoB [rdE r19 evenA.Next, rdE r20 evenA.Takes, blkE g13 (.cells #[I ((autoTakes evenA ([1, 0, 1])).2.1), I ((autoTakes evenA ([1, 0, 1])).2.2)] 24), rowE 3 v7 ([1, 0, 1] : List Int)] H21 := (hS18.res2 hxx hrr19 hrr20)
    refine wpL_o rfl ?_
    refine e_buildSlice (vs := [I (1)]) (xs := ([1] : List Int)) rfl Try.underlying22 Try.zeroValue3 rfl Try.sizeOf3 (par1 (v0 := I (1)) rfl) rfl hS22 (RdVs.cons (Rd.int.2 ⟨rfl, by constructor <;> omega⟩) (RdVs.nil)) (by decide) (by decide) (fun v24 H25 hS26 hxx hvv24 => ?_)
    replace hS26 : St H0 NoB NoB [rowE 3 v24 ([1] : List Int), rdE r19 evenA.Next, rdE r20 evenA.Takes, blkE g13 (.cells #[I ((autoTakes evenA ([1, 0, 1])).2.1), I ((autoTakes evenA ([1, 0, 1])).2.2)] 24), rowE 3 v7 ([1, 0, 1] : List Int)] H25 := hS26
    refine wpL_o rfl ?_
    refine e_call rfl Try.call24 (arr2 (v0 := Value.agg #[I (evenA.Signs), r19, r20]) (v1 := v24) rfl rfl) (Takes r19 r20 v24 evenA ([1]) (hS26.rdN 1 rfl) (hS26.rdN 2 rfl) evenA_sg (hS26.rowN 0 rfl)) ?_
    rintro _ H27 ⟨hxx, rfl⟩
    have hS28 : St H0 NoB NoB [rowE 3 v24 ([1] : List Int), rdE r19 evenA.Next, rdE r20 evenA.Takes, blkE g13 (.cells #[I ((autoTakes evenA ([1, 0, 1])).2.1), I ((autoTakes evenA ([1, 0, 1])).2.2)] 24), rowE 3 v7 ([1, 0, 1] : List Int)] H27 := hS26.ext hxx
    refine wpL_q (U := NoB) rfl (q_move (v := Value.tuple #[B ((autoTakes evenA ([1])).1), Value.agg #[I ((autoTakes evenA ([1])).2.1), I ((autoTakes evenA ([1])).2.2)]]) rfl rfl) ?_
    refine wpL_q (U := NoB) rfl (q_extract (vs := #[B ((autoTakes evenA ([1])).1), Value.agg #[I ((autoTakes evenA ([1])).2.1), I ((autoTakes evenA ([1])).2.2)]]) (v := B ((autoTakes evenA ([1])).1)) rfl rfl rfl) ?_
    refine wpL_q (U := NoB) rfl (q_extract (vs := #[B ((autoTakes evenA ([1])).1), Value.agg #[I ((autoTakes evenA ([1])).2.1), I ((autoTakes evenA ([1])).2.2)]]) (v := Value.agg #[I ((autoTakes evenA ([1])).2.1), I ((autoTakes evenA ([1])).2.2)]) rfl rfl rfl) ?_
    refine wpL_o rfl ?_
    refine e_alloc rfl Try.zeroValue24 hS28 (fun g30 H31 hS32 hxx => ?_)
    replace hS32 : St H0 NoB NoB [blkE g30 (.cells #[I (0), I (0)] 24), rowE 3 v24 ([1] : List Int), rdE r19 evenA.Next, rdE r20 evenA.Takes, blkE g13 (.cells #[I ((autoTakes evenA ([1, 0, 1])).2.1), I ((autoTakes evenA ([1, 0, 1])).2.2)] 24), rowE 3 v7 ([1, 0, 1] : List Int)] H31 := hS32
    refine wpL_q (U := NoB) rfl (q_assign (v := B ((autoTakes evenA ([1])).1)) rfl rfl) ?_
    refine wpL_o rfl ?_
    refine e_storeBlkA (cs' := #[I ((autoTakes evenA ([1])).2.1), I ((autoTakes evenA ([1])).2.2)]) rfl rfl rfl Try.sizeOf24 rfl rfl (List.forall_mem_cons.2 ⟨rfl, List.forall_mem_cons.2 ⟨rfl, List.forall_mem_nil _⟩⟩) hS32 (fun H33 hS34 hxx => ?_)
    replace hS34 : St H0 NoB NoB [blkE g30 (.cells #[I ((autoTakes evenA ([1])).2.1), I ((autoTakes evenA ([1])).2.2)] 24), rowE 3 v24 ([1] : List Int), rdE r19 evenA.Next, rdE r20 evenA.Takes, blkE g13 (.cells #[I ((autoTakes evenA ([1, 0, 1])).2.1), I ((autoTakes evenA ([1, 0, 1])).2.2)] 24), rowE 3 v7 ([1, 0, 1] : List Int)] H33 := hS34
    exact ⟨v24, g30, a18_1, a18_2, rfl, rfl, (hS34.drop (sk (sk (sn (sn (sk (sk (List.Sublist.slnil))))))))⟩
  rintro f35 H35 ⟨v24, g30, a35_1, a35_2, a35_3, a35_4, hS35⟩
  clear a18_1 a18_2
  refine wpF_seq ?_
  refine wpF_cut (fun f H => ∃ (r41 : Value), ∃ (r41m : List Int), ∃ (r41i : Bool), ∃ (g45 : Nat), (AnyOk evenA r41m r41i) ∧ f 1 = B ((autoTakes evenA ([1, 0, 1])).1) ∧ f 2 = PT g13 0 ∧ f 3 = B ((autoTakes evenA ([1])).1) ∧ f 4 = PT g30 0 ∧ f 5 = r41 ∧ f 6 = B (r41i) ∧ f 7 = PT g45 0 ∧ St H0 NoB NoB [blkE g45 (.cells #[I ((autoFault evenA).1), I ((autoFault evenA).2)] 24), rdE r41 r41m, blkE g30 (.cells #[I ((autoTakes evenA ([1])).2.1), I ((autoTakes evenA ([1])).2.2)] 24), rowE 3 v24 ([1] : List Int), blkE g13 (.cells #[I ((autoTakes evenA ([1, 0, 1])).2.1), I ((autoTakes evenA ([1, 0, 1])).2.2)] 24), rowE 3 v7 ([1, 0, 1] : List Int)] H) ?_ ?_
  · refine wpF_region ?_
    refine wpL_o rfl ?_
    refine e_call rfl Try.call53 arr0 (even (S := SL NoB [blkE g30 (.cells #[I ((autoTakes evenA ([1])).2.1), I ((autoTakes evenA ([1])).2.2)] 24), rowE 3 v24 ([1] : List Int), blkE g13 (.cells #[I ((autoTakes evenA ([1, 0, 1])).2.1), I ((autoTakes evenA ([1, 0, 1])).2.2)] 24), rowE 3 v7 ([1, 0, 1] : List Int)])) ?_
    rintro _ H38 ⟨hxx, r36, r37, rfl, hrr36, hrr37⟩
    have hS39 : St H0 NoB NoB [rdE r36 evenA.Next, rdE r37 evenA.Takes, blkE g30 (.cells #[I ((autoTakes evenA ([1])).2.1), I ((autoTakes evenA ([1])).2.2)] 24), rowE 3 v24 ([1] : List Int), blkE g13 (.cells #[I ((autoTakes evenA ([1, 0, 1])).2.1), I ((autoTakes evenA ([1, 0, 1])).2.2)] 24), rowE 3 v7 ([1, 0, 1] : List Int)] H38 := (hS35.res2 hxx hrr36 hrr37)
    refine wpL_o rfl ?_
    refine e_call rfl Try.call28 (arr1 (v0 := Value.agg #[I (evenA.Signs), r36, r37]) rfl) (Any r36 r37 evenA (hS39.rdS 0 rfl) (hS39.rdS 1 rfl) evenA_sg) ?_
    rintro _ H42 ⟨hxx, r41, r41m, r41i, rfl, hrr41, hAr41⟩
    have hS43 : St H0 NoB NoB [rdE r41 r41m, rdE r36 evenA.Next, rdE r37 evenA.Takes, blkE g30 (.cells #[I ((autoTakes evenA ([1])).2.1), I ((autoTakes evenA ([1])).2.2)] 24), rowE 3 v24 ([1] : List Int), blkE g13 (.cells #[I ((autoTakes evenA ([1, 0, 1])).2.1), I ((autoTakes evenA ([1, 0, 1])).2.2)] 24), rowE 3 v7 ([1, 0, 1] : List Int)] H42 := (hS39.res hxx hrr41)
    refine wpL_q (U := NoB) rfl (q_move (v := Value.tuple #[r41, B (r41i), Value.agg #[I ((autoFault evenA).1), I ((autoFault evenA).2)]]) rfl rfl) ?_
    refine wpL_q (U := NoB) rfl (q_extract (vs := #[r41, B (r41i), Value.agg #[I ((autoFault evenA).1), I ((autoFault evenA).2)]]) (v := r41) rfl rfl rfl) ?_
    refine wpL_q (U := NoB) rfl (q_extract (vs := #[r41, B (r41i), Value.agg #[I ((autoFault evenA).1), I ((autoFault evenA).2)]]) (v := B (r41i)) rfl rfl rfl) ?_
    refine wpL_q (U := NoB) rfl (q_extract (vs := #[r41, B (r41i), Value.agg #[I ((autoFault evenA).1), I ((autoFault evenA).2)]]) (v := Value.agg #[I ((autoFault evenA).1), I ((autoFault evenA).2)]) rfl rfl rfl) ?_
    refine wpL_o rfl ?_
    refine e_alloc rfl Try.zeroValue24 hS43 (fun g45 H46 hS47 hxx => ?_)
    replace hS47 : St H0 NoB NoB [blkE g45 (.cells #[I (0), I (0)] 24), rdE r41 r41m, rdE r36 evenA.Next, rdE r37 evenA.Takes, blkE g30 (.cells #[I ((autoTakes evenA ([1])).2.1), I ((autoTakes evenA ([1])).2.2)] 24), rowE 3 v24 ([1] : List Int), blkE g13 (.cells #[I ((autoTakes evenA ([1, 0, 1])).2.1), I ((autoTakes evenA ([1, 0, 1])).2.2)] 24), rowE 3 v7 ([1, 0, 1] : List Int)] H46 := hS47
    refine wpL_q (U := NoB) rfl (q_assign (v := r41) rfl rfl) ?_
    refine wpL_q (U := NoB) rfl (q_assign (v := B (r41i)) rfl rfl) ?_
    refine wpL_o rfl ?_
    refine e_storeBlkA (cs' := #[I ((autoFault evenA).1), I ((autoFault evenA).2)]) rfl rfl rfl Try.sizeOf24 rfl rfl (List.forall_mem_cons.2 ⟨rfl, List.forall_mem_cons.2 ⟨rfl, List.forall_mem_nil _⟩⟩) hS47 (fun H48 hS49 hxx => ?_)
    replace hS49 : St H0 NoB NoB [blkE g45 (.cells #[I ((autoFault evenA).1), I ((autoFault evenA).2)] 24), rdE r41 r41m, rdE r36 evenA.Next, rdE r37 evenA.Takes, blkE g30 (.cells #[I ((autoTakes evenA ([1])).2.1), I ((autoTakes evenA ([1])).2.2)] 24), rowE 3 v24 ([1] : List Int), blkE g13 (.cells #[I ((autoTakes evenA ([1, 0, 1])).2.1), I ((autoTakes evenA ([1, 0, 1])).2.2)] 24), rowE 3 v7 ([1, 0, 1] : List Int)] H48 := hS49
    exact ⟨r41, r41m, r41i, g45, hAr41, a35_1, a35_2, a35_3, a35_4, rfl, rfl, rfl, (hS49.drop (sk (sk (sn (sn (sk (sk (sk (sk (List.Sublist.slnil))))))))))⟩
  rintro f50 H50 ⟨r41, r41m, r41i, g45, hAr41, a50_1, a50_2, a50_3, a50_4, a50_5, a50_6, a50_7, hS50⟩
  clear a35_1 a35_2 a35_3 a35_4
  have hany := evenA_any hAr41
  refine wpF_seq ?_
  refine wpF_cut (fun f H => f 0 = B (decide (((((((((autoTakes evenA ([1, 0, 1])).2.1) = 0) ∧ (((autoTakes evenA ([1])).2.1) = 0)) ∧ (((autoFault evenA).1) = 0)) ∧ (((autoTakes evenA ([1, 0, 1])).1) = true)) ∧ ((!((autoTakes evenA ([1])).1)) = true)) ∧ (r41i = true)) ∧ ((r41m.length : Int) = 0))) ∧ H50 = H) ?_ ?_
  · refine wpF_region ?_
    refine wpL_q (U := NoB) rfl (q_fieldAddr rfl Try.underlying24 rfl Try.sizeOf3 a50_2) ?_
    refine wpL_q (U := NoB) rfl (q_loadBlk rfl rfl Try.isAgg3 (hS50.blk 4 rfl) rfl (fun h => h)) ?_
    refine wpL_q (U := NoB) rfl (q_eql rfl rfl rfl) ?_
    refine wpL_q (U := NoB) rfl (q_move (v := B (decide (((autoTakes evenA ([1, 0, 1])).2.1) = 0))) rfl rfl) ?_
    by_cases hg51 : ((autoTakes evenA ([1, 0, 1])).2.1) = 0
    · have hb52 := Eq.trans rfl (congrArg B (decide_eq_true hg51))
      refine wpL_gq (U := NoB) rfl rfl rfl hb52 (q_fieldAddr rfl Try.underlying24 rfl Try.sizeOf3 a50_4) ?_
      refine wpL_gq (U := NoB) rfl rfl rfl hb52 (q_loadBlk rfl rfl Try.isAgg3 (hS50.blk 2 rfl) rfl (fun h => h)) ?_
      refine wpL_gq (U := NoB) rfl rfl rfl hb52 (q_eql rfl rfl rfl) ?_
      refine wpL_q (U := NoB) rfl (q_pickT (v := B (decide (((autoTakes evenA ([1])).2.1) = 0))) rfl hb52 rfl) ?_
      refine wpL_q (U := NoB) rfl (q_move (v := B (decide (((autoTakes evenA ([1])).2.1) = 0))) rfl rfl) ?_
      by_cases hg54 : ((autoTakes evenA ([1])).2.1) = 0
      · have hb55 := Eq.trans rfl (congrArg B (decide_eq_true hg54))
        refine wpL_gq (U := NoB) rfl rfl rfl hb55 (q_fieldAddr rfl Try.underlying24 rfl Try.sizeOf3 a50_7) ?_
        refine wpL_gq (U := NoB) rfl rfl rfl hb55 (q_loadBlk rfl rfl Try.isAgg3 (hS50.blk 0 rfl) rfl (fun h => h)) ?_
        refine wpL_gq (U := NoB) rfl rfl rfl hb55 (q_eql rfl rfl rfl) ?_
        refine wpL_q (U := NoB) rfl (q_pickT (v := B (decide (((autoFault evenA).1) = 0))) rfl hb55 rfl) ?_
        refine wpL_q (U := NoB) rfl (q_move (v := B (decide (((autoFault evenA).1) = 0))) rfl rfl) ?_
        by_cases hg57 : ((autoFault evenA).1) = 0
        · have hb58 := Eq.trans rfl (congrArg B (decide_eq_true hg57))
          refine wpL_gq (U := NoB) rfl rfl rfl hb58 (q_move (v := B ((autoTakes evenA ([1, 0, 1])).1)) rfl a50_1) ?_
          refine wpL_q (U := NoB) rfl (q_pickT (v := B ((autoTakes evenA ([1, 0, 1])).1)) rfl hb58 rfl) ?_
          refine wpL_q (U := NoB) rfl (q_move (v := B ((autoTakes evenA ([1, 0, 1])).1)) rfl rfl) ?_
          by_cases hg60 : ((autoTakes evenA ([1, 0, 1])).1) = true
          · have hb61 := Eq.trans rfl (congrArg B hg60)
            refine wpL_gq (U := NoB) rfl rfl rfl hb61 (q_move (v := B ((autoTakes evenA ([1])).1)) rfl a50_3) ?_
            refine wpL_gq (U := NoB) rfl rfl rfl hb61 (q_not rfl rfl) ?_
            refine wpL_q (U := NoB) rfl (q_pickT (v := B (!((autoTakes evenA ([1])).1))) rfl hb61 rfl) ?_
            refine wpL_q (U := NoB) rfl (q_move (v := B (!((autoTakes evenA ([1])).1))) rfl rfl) ?_
            by_cases hg63 : (!((autoTakes evenA ([1])).1)) = true
            · have hb64 := Eq.trans rfl (congrArg B hg63)
              refine wpL_gq (U := NoB) rfl rfl rfl hb64 (q_move (v := B (r41i)) rfl a50_6) ?_
              refine wpL_q (U := NoB) rfl (q_pickT (v := B (r41i)) rfl hb64 rfl) ?_
              refine wpL_q (U := NoB) rfl (q_move (v := B (r41i)) rfl rfl) ?_
              by_cases hg66 : r41i = true
              · have hb67 := Eq.trans rfl (congrArg B hg66)
                refine wpL_gq (U := NoB) rfl rfl rfl hb67 (q_move (v := r41) rfl a50_5) ?_
                refine wpL_gq (U := NoB) rfl rfl rfl hb67 (q_lenRd rfl Try.underlying22 rfl (hS50.rdl 1 rfl)) ?_
                refine wpL_gq (U := NoB) rfl rfl rfl hb67 (q_eql rfl rfl rfl) ?_
                refine wpL_q (U := NoB) rfl (q_pickT (v := B (decide ((r41m.length : Int) = 0))) rfl hb67 rfl) ?_
                refine wpL_q (U := NoB) rfl (q_assign (v := B (decide ((r41m.length : Int) = 0))) rfl rfl) ?_
                exact ⟨(Eq.trans rfl (congrArg B (decide_congr_of ((Iff.rfl).trans (((and_iff_right ⟨⟨⟨⟨⟨hg51, hg54⟩, hg57⟩, hg60⟩, hg63⟩, hg66⟩).trans Iff.rfl)).symm)))), rfl⟩
              · have hb68 := Eq.trans rfl (congrArg B (Bool.eq_false_iff.2 hg66))
                refine wpL_gs rfl rfl rfl hb68 rfl ?_
                refine wpL_gs rfl rfl rfl hb68 rfl ?_
                refine wpL_gs rfl rfl rfl hb68 rfl ?_
                refine wpL_q (U := NoB) rfl (q_pickF (v := B (false)) rfl hb68 rfl) ?_
                refine wpL_q (U := NoB) rfl (q_assign (v := B (false)) rfl rfl) ?_
                exact ⟨(Eq.trans rfl (congrArg B ((decide_eq_false (fun h => (fun h => hg66 h.2) h.1)).symm))), rfl⟩
            · have hb65 := Eq.trans rfl (congrArg B (Bool.eq_false_iff.2 hg63))
              refine wpL_gs rfl rfl rfl hb65 rfl ?_
              refine wpL_q (U := NoB) rfl (q_pickF (v := B (false)) rfl hb65 rfl) ?_
              refine wpL_q (U := NoB) rfl (q_move (v := B (false)) rfl rfl) ?_
              refine wpL_gs rfl rfl rfl rfl rfl ?_
              refine wpL_gs rfl rfl rfl rfl rfl ?_
              refine wpL_gs rfl rfl rfl rfl rfl ?_
              refine wpL_q (U := NoB) rfl (q_pickF (v := B (false)) rfl rfl rfl) ?_
              refine wpL_q (U := NoB) rfl (q_assign (v := B (false)) rfl rfl) ?_
              exact ⟨(Eq.trans rfl (congrArg B ((decide_eq_false (fun h => (fun h => (fun h => hg63 h.2) h.1) h.1)).symm))), rfl⟩
          · have hb62 := Eq.trans rfl (congrArg B (Bool.eq_false_iff.2 hg60))
            refine wpL_gs rfl rfl rfl hb62 rfl ?_
            refine wpL_gs rfl rfl rfl hb62 rfl ?_
            refine wpL_q (U := NoB) rfl (q_pickF (v := B (false)) rfl hb62 rfl) ?_
            refine wpL_q (U := NoB) rfl (q_move (v := B (false)) rfl rfl) ?_
            refine wpL_gs rfl rfl rfl rfl rfl ?_
            refine wpL_q (U := NoB) rfl (q_pickF (v := B (false)) rfl rfl rfl) ?_
            refine wpL_q (U := NoB) rfl (q_move (v := B (false)) rfl rfl) ?_
            refine wpL_gs rfl rfl rfl rfl rfl ?_
            refine wpL_gs rfl rfl rfl rfl rfl ?_
            refine wpL_gs rfl rfl rfl rfl rfl ?_
            refine wpL_q (U := NoB) rfl (q_pickF (v := B (false)) rfl rfl rfl) ?_
            refine wpL_q (U := NoB) rfl (q_assign (v := B (false)) rfl rfl) ?_
            exact ⟨(Eq.trans rfl (congrArg B ((decide_eq_false (fun h => (fun h => (fun h => (fun h => hg60 h.2) h.1) h.1) h.1)).symm))), rfl⟩
        · have hb59 := Eq.trans rfl (congrArg B (decide_eq_false hg57))
          refine wpL_gs rfl rfl rfl hb59 rfl ?_
          refine wpL_q (U := NoB) rfl (q_pickF (v := B (false)) rfl hb59 rfl) ?_
          refine wpL_q (U := NoB) rfl (q_move (v := B (false)) rfl rfl) ?_
          refine wpL_gs rfl rfl rfl rfl rfl ?_
          refine wpL_gs rfl rfl rfl rfl rfl ?_
          refine wpL_q (U := NoB) rfl (q_pickF (v := B (false)) rfl rfl rfl) ?_
          refine wpL_q (U := NoB) rfl (q_move (v := B (false)) rfl rfl) ?_
          refine wpL_gs rfl rfl rfl rfl rfl ?_
          refine wpL_q (U := NoB) rfl (q_pickF (v := B (false)) rfl rfl rfl) ?_
          refine wpL_q (U := NoB) rfl (q_move (v := B (false)) rfl rfl) ?_
          refine wpL_gs rfl rfl rfl rfl rfl ?_
          refine wpL_gs rfl rfl rfl rfl rfl ?_
          refine wpL_gs rfl rfl rfl rfl rfl ?_
          refine wpL_q (U := NoB) rfl (q_pickF (v := B (false)) rfl rfl rfl) ?_
          refine wpL_q (U := NoB) rfl (q_assign (v := B (false)) rfl rfl) ?_
          exact ⟨(Eq.trans rfl (congrArg B ((decide_eq_false (fun h => (fun h => (fun h => (fun h => (fun h => hg57 h.2) h.1) h.1) h.1) h.1)).symm))), rfl⟩
      · have hb56 := Eq.trans rfl (congrArg B (decide_eq_false hg54))
        refine wpL_gs rfl rfl rfl hb56 rfl ?_
        refine wpL_gs rfl rfl rfl hb56 rfl ?_
        refine wpL_gs rfl rfl rfl hb56 rfl ?_
        refine wpL_q (U := NoB) rfl (q_pickF (v := B (false)) rfl hb56 rfl) ?_
        refine wpL_q (U := NoB) rfl (q_move (v := B (false)) rfl rfl) ?_
        refine wpL_gs rfl rfl rfl rfl rfl ?_
        refine wpL_q (U := NoB) rfl (q_pickF (v := B (false)) rfl rfl rfl) ?_
        refine wpL_q (U := NoB) rfl (q_move (v := B (false)) rfl rfl) ?_
        refine wpL_gs rfl rfl rfl rfl rfl ?_
        refine wpL_gs rfl rfl rfl rfl rfl ?_
        refine wpL_q (U := NoB) rfl (q_pickF (v := B (false)) rfl rfl rfl) ?_
        refine wpL_q (U := NoB) rfl (q_move (v := B (false)) rfl rfl) ?_
        refine wpL_gs rfl rfl rfl rfl rfl ?_
        refine wpL_q (U := NoB) rfl (q_pickF (v := B (false)) rfl rfl rfl) ?_
        refine wpL_q (U := NoB) rfl (q_move (v := B (false)) rfl rfl) ?_
        refine wpL_gs rfl rfl rfl rfl rfl ?_
        refine wpL_gs rfl rfl rfl rfl rfl ?_
        refine wpL_gs rfl rfl rfl rfl rfl ?_
        refine wpL_q (U := NoB) rfl (q_pickF (v := B (false)) rfl rfl rfl) ?_
        refine wpL_q (U := NoB) rfl (q_assign (v := B (false)) rfl rfl) ?_
        exact ⟨(Eq.trans rfl (congrArg B ((decide_eq_false (fun h => (fun h => (fun h => (fun h => (fun h => (fun h => hg54 h.2) h.1) h.1) h.1) h.1) h.1)).symm))), rfl⟩
    · have hb53 := Eq.trans rfl (congrArg B (decide_eq_false hg51))
      refine wpL_gs rfl rfl rfl hb53 rfl ?_
      refine wpL_gs rfl rfl rfl hb53 rfl ?_
      refine wpL_gs rfl rfl rfl hb53 rfl ?_
      refine wpL_q (U := NoB) rfl (q_pickF (v := B (false)) rfl hb53 rfl) ?_
      refine wpL_q (U := NoB) rfl (q_move (v := B (false)) rfl rfl) ?_
      refine wpL_gs rfl rfl rfl rfl rfl ?_
      refine wpL_gs rfl rfl rfl rfl rfl ?_
      refine wpL_gs rfl rfl rfl rfl rfl ?_
      refine wpL_q (U := NoB) rfl (q_pickF (v := B (false)) rfl rfl rfl) ?_
      refine wpL_q (U := NoB) rfl (q_move (v := B (false)) rfl rfl) ?_
      refine wpL_gs rfl rfl rfl rfl rfl ?_
      refine wpL_q (U := NoB) rfl (q_pickF (v := B (false)) rfl rfl rfl) ?_
      refine wpL_q (U := NoB) rfl (q_move (v := B (false)) rfl rfl) ?_
      refine wpL_gs rfl rfl rfl rfl rfl ?_
      refine wpL_gs rfl rfl rfl rfl rfl ?_
      refine wpL_q (U := NoB) rfl (q_pickF (v := B (false)) rfl rfl rfl) ?_
      refine wpL_q (U := NoB) rfl (q_move (v := B (false)) rfl rfl) ?_
      refine wpL_gs rfl rfl rfl rfl rfl ?_
      refine wpL_q (U := NoB) rfl (q_pickF (v := B (false)) rfl rfl rfl) ?_
      refine wpL_q (U := NoB) rfl (q_move (v := B (false)) rfl rfl) ?_
      refine wpL_gs rfl rfl rfl rfl rfl ?_
      refine wpL_gs rfl rfl rfl rfl rfl ?_
      refine wpL_gs rfl rfl rfl rfl rfl ?_
      refine wpL_q (U := NoB) rfl (q_pickF (v := B (false)) rfl rfl rfl) ?_
      refine wpL_q (U := NoB) rfl (q_assign (v := B (false)) rfl rfl) ?_
      exact ⟨(Eq.trans rfl (congrArg B ((decide_eq_false (fun h => (fun h => (fun h => (fun h => (fun h => (fun h => hg51 h.1) h.1) h.1) h.1) h.1) h.1)).symm))), rfl⟩
  rintro f69 _ ⟨a69_0, rfl⟩
  clear a50_1 a50_2 a50_3 a50_4 a50_5 a50_6 a50_7
  refine wpF_ret ?_
  refine ⟨_, resT a69_0 resN, hS50.frame, ?_⟩
  show (B (decide (((((((((autoTakes evenA ([1, 0, 1])).2.1) = 0) ∧ (((autoTakes evenA ([1])).2.1) = 0)) ∧ (((autoFault evenA).1) = 0)) ∧ (((autoTakes evenA ([1, 0, 1])).1) = true)) ∧ ((!((autoTakes evenA ([1])).1)) = true)) ∧ (r41i = true)) ∧ ((r41m.length : Int) = 0)))) = B true
  exact congrArg B (decide_eq_true (by simp [evenA_1, evenA_2, evenA_f, hany.1, hany.2]))

end Go.Um
