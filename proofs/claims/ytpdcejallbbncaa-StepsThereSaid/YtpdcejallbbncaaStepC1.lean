import Derived.Test.YtpdcejallbbncaaProg
import Derived.Test.YtpdcejallbbncaaActW1
import Derived.Test.YtpdcejallbbncaaStepPlain
import Derived.Test.YtpdcejallbbncaaUmField
import Derived.Test.YtpdcejallbbncaaStepOwn
import Derived.Test.YtpdcejallbbncaaUmSub
namespace Go.Um
open Go.Proofs
open GoT (sz ag rdc)
open KeyT (kv)

theorem em_Int_3_StepC1 : ElemOk Try.prog Int 3 := ⟨Try.t3, (.int .i64 0), by kernel_rfl, by kernel_rfl, by kernel_rfl, by kernel_rfl, by kernel_rfl⟩
theorem em_LInt_22_StepC1 : ElemOk Try.prog (List Int) 22 := ⟨Try.t22, (.slice none 0 0), by kernel_rfl, by kernel_rfl, by kernel_rfl, by kernel_rfl, by kernel_rfl⟩

set_option maxRecDepth 100000 in
theorem vars_E {H0 : Heap} (g : Nat) (vf vg va vc : Value) (q : Quest) (n w : Int) (hb : H0[g]? = some (.cells #[I q.Facts, vf, vg, va, I n, I w, vc] 84)) (ra : Rd NoB H0 va q.Acts) (hQ : QW q) (hn : 0 ≤ n ∧ n ≤ 20) : CallsH Try.prog 51 #[PT g 0] H0 (fun rv_ H' => Ext NoB H0 H' ∧ rv_ = I (varsN q n)) := by
  have hfx := hQ.facts
  have hmy := hQ.many
  have hsa := (Rd.list.1 ra).small
  have hr := vars_rng hQ hn
  have hS0 : St H0 NoB NoB [fixE g (.cells #[I (q.Facts), vf, vg, va, I (n), I (w), vc] 84), rdE va q.Acts] H0 := St.argFix (St.arg (St.start (fun _ h => h.elim)) (Bl0.nil) ra (fun _ h => h)) (Bl0.cons (Bl0.nil)) hb (fun h => h)
  refine callsH_of_wpF (args := [PT g 0]) (rs := [.tmp 2]) Try.func51 rfl Try.ntmps51 Try.results51 (by kernel_rfl) (Nat.le_of_ble_eq_true rfl) ?_
  have a0_0 : argF [PT g 0] 0 = PT g 0 := rfl
  generalize argF [PT g 0] = f0 at *
  refine wpF_seq ?_
  refine wpF_cut (fun f H => f 0 = PT g 0 ∧ H0 = H) ?_ ?_
  · refine wpF_region ?_
    refine wpL_q (U := NoB) rfl (q_assign (v := I (0)) rfl rfl) ?_
    exact ⟨a0_0, rfl⟩
  rintro f1 _ ⟨a1_0, rfl⟩
  clear a0_0
  refine wpF_seq ?_
  refine wpF_cut (fun f H => f 2 = I (((n + 1) * q.Facts) + (n * (q.Acts.length : Int))) ∧ H0 = H) ?_ ?_
  · refine wpF_drawn [] [] (fun _ _ => False) (by kernel_rfl) (by kernel_rfl) ?_
    refine wpR_q 0 (by kernel_rfl) rfl (quietAt rfl rfl (q_move (v := PT g 0) rfl a1_0)) ?_
    refine wpR_q 1 (by kernel_rfl) rfl (quietAt rfl rfl (q_nilCheck rfl rfl)) ?_
    refine wpR_q 2 (by kernel_rfl) rfl (quietAt rfl rfl (q_fieldAddr rfl Try.underlying84 rfl Try.sizeOf3 rfl)) ?_
    refine wpR_q 3 (by kernel_rfl) rfl (quietAt rfl rfl (q_loadBlk rfl rfl Try.isAgg3 (hS0.fixd 0 rfl) rfl (labU_not [] rfl (List.forall_mem_nil _)))) ?_
    refine wpR_q 4 (by kernel_rfl) rfl (quietAt rfl rfl (q_add rfl rfl rfl (by constructor <;> omega))) ?_
    refine wpR_q 5 (by kernel_rfl) rfl (quietAt rfl rfl (q_move (v := PT g 0) rfl a1_0)) ?_
    refine wpR_q 6 (by kernel_rfl) rfl (quietAt rfl rfl (q_nilCheck rfl rfl)) ?_
    refine wpR_q 7 (by kernel_rfl) rfl (quietAt rfl rfl (q_fieldAddr rfl Try.underlying84 rfl Try.sizeOf25 rfl)) ?_
    refine wpR_q 8 (by kernel_rfl) rfl (quietAt rfl rfl (q_fieldAddr rfl Try.underlying25 rfl Try.sizeOf3 rfl)) ?_
    refine wpR_q 9 (by kernel_rfl) rfl (quietAt rfl rfl (q_loadBlk rfl rfl Try.isAgg3 (hS0.fixd 0 rfl) rfl (labU_not [] rfl (List.forall_mem_nil _)))) ?_
    refine wpR_q 10 (by kernel_rfl) rfl (quietAt rfl rfl (q_mul rfl rfl rfl (by constructor <;> omega))) ?_
    refine wpR_q 11 (by kernel_rfl) rfl (quietAt rfl rfl (q_move (v := PT g 0) rfl a1_0)) ?_
    refine wpR_q 12 (by kernel_rfl) rfl (quietAt rfl rfl (q_nilCheck rfl rfl)) ?_
    refine wpR_q 13 (by kernel_rfl) rfl (quietAt rfl rfl (q_fieldAddr rfl Try.underlying84 rfl Try.sizeOf3 rfl)) ?_
    refine wpR_q 14 (by kernel_rfl) rfl (quietAt rfl rfl (q_loadBlk rfl rfl Try.isAgg3 (hS0.fixd 0 rfl) rfl (labU_not [] rfl (List.forall_mem_nil _)))) ?_
    refine wpR_q 15 (by kernel_rfl) rfl (quietAt rfl rfl (q_move (v := PT g 0) rfl a1_0)) ?_
    refine wpR_q 16 (by kernel_rfl) rfl (quietAt rfl rfl (q_nilCheck rfl rfl)) ?_
    refine wpR_q 17 (by kernel_rfl) rfl (quietAt rfl rfl (q_fieldAddr rfl Try.underlying84 rfl Try.sizeOf25 rfl)) ?_
    refine wpR_q 18 (by kernel_rfl) rfl (quietAt rfl rfl (q_fieldAddr rfl Try.underlying25 rfl Try.sizeOf23 rfl)) ?_
    refine wpR_q 19 (by kernel_rfl) rfl (quietAt rfl rfl (q_loadBlk rfl rfl Try.isAgg23 (hS0.fixd 0 rfl) rfl (labU_not [] rfl (List.forall_mem_nil _)))) ?_
    refine wpR_q 20 (by kernel_rfl) rfl (quietAt rfl rfl (q_lenRd rfl Try.underlying23 rfl (hS0.rdl 1 rfl))) ?_
    refine wpR_q 21 (by kernel_rfl) rfl (quietAt rfl rfl (q_mul rfl rfl rfl (by constructor <;> omega))) ?_
    refine wpR_q 22 (by kernel_rfl) rfl (quietAt rfl rfl (q_add rfl rfl rfl (by constructor <;> omega))) ?_
    refine wpR_q 23 (by kernel_rfl) rfl (quietAt rfl rfl (q_assign (v := I (((n + 1) * q.Facts) + (n * (q.Acts.length : Int)))) rfl rfl)) ?_
    refine wpR_end (by kernel_rfl) ?_
    exact ⟨rfl, rfl⟩
  rintro f3 _ ⟨a3_2, rfl⟩
  clear a1_0
  refine wpF_ret ?_
  refine ⟨_, resT a3_2 resN, hS0.frame, ?_⟩
  show (I (((n + 1) * q.Facts) + (n * (q.Acts.length : Int)))) = I (varsN q n)
  rfl

set_option maxRecDepth 100000 in
theorem fact_E {H0 : Heap} (g : Nat) (vf vg va vc : Value) (q : Quest) (n w : Int) (x t : Int) (hb : H0[g]? = some (.cells #[I q.Facts, vf, vg, va, I n, I w, vc] 84)) (ra : Rd NoB H0 va q.Acts) (hQ : QW q) (hn : 0 ≤ n ∧ n ≤ 20) (hf : 0 ≤ x ∧ x ≤ 16) (ht : 0 ≤ t ∧ t ≤ 21) : CallsH Try.prog 54 #[PT g 0, I (x), I (t)] H0 (fun rv_ H' => Ext NoB H0 H' ∧ rv_ = I (factV q x t)) := by
  have hfx := hQ.facts
  have hmy := hQ.many
  have hsa := (Rd.list.1 ra).small
  have hr := fact_rng hQ hf ht
  have hS0 : St H0 NoB NoB [fixE g (.cells #[I (q.Facts), vf, vg, va, I (n), I (w), vc] 84), rdE va q.Acts] H0 := St.argFix (St.arg (St.start (fun _ h => h.elim)) (Bl0.nil) ra (fun _ h => h)) (Bl0.cons (Bl0.nil)) hb (fun h => h)
  refine callsH_of_wpF (args := [PT g 0, I (x), I (t)]) (rs := [.tmp 6]) Try.func54 rfl Try.ntmps54 Try.results54 (by kernel_rfl) (Nat.le_of_ble_eq_true rfl) ?_
  have a0_0 : argF [PT g 0, I (x), I (t)] 0 = PT g 0 := rfl
  have a0_1 : argF [PT g 0, I (x), I (t)] 1 = I (x) := rfl
  have a0_2 : argF [PT g 0, I (x), I (t)] 2 = I (t) := rfl
  generalize argF [PT g 0, I (x), I (t)] = f0 at *
  refine wpF_seq ?_
  refine wpF_cut (fun f H => f 0 = PT g 0 ∧ f 1 = I (x) ∧ f 2 = I (t) ∧ H0 = H) ?_ ?_
  · refine wpF_region ?_
    refine wpL_q (U := NoB) rfl (q_assign (v := I (0)) rfl rfl) ?_
    exact ⟨a0_0, a0_1, a0_2, rfl⟩
  rintro f1 _ ⟨a1_0, a1_1, a1_2, rfl⟩
  clear a0_0 a0_1 a0_2
  refine wpF_seq ?_
  refine wpF_cut (fun f H => f 6 = I (((t * q.Facts) + x) + 1) ∧ H0 = H) ?_ ?_
  · refine wpF_region ?_
    refine wpL_q (U := NoB) rfl (q_move (v := I (t)) rfl a1_2) ?_
    refine wpL_q (U := NoB) rfl (q_move (v := PT g 0) rfl a1_0) ?_
    refine wpL_q (U := NoB) rfl (q_nilCheck rfl rfl) ?_
    refine wpL_q (U := NoB) rfl (q_fieldAddr rfl Try.underlying84 rfl Try.sizeOf25 rfl) ?_
    refine wpL_q (U := NoB) rfl (q_fieldAddr rfl Try.underlying25 rfl Try.sizeOf3 rfl) ?_
    refine wpL_q (U := NoB) rfl (q_loadBlk rfl rfl Try.isAgg3 (hS0.fixd 0 rfl) rfl (fun h => h)) ?_
    refine wpL_q (U := NoB) rfl (q_mul rfl rfl rfl (by constructor <;> omega)) ?_
    refine wpL_q (U := NoB) rfl (q_move (v := I (x)) rfl a1_1) ?_
    refine wpL_q (U := NoB) rfl (q_add rfl rfl rfl (by constructor <;> omega)) ?_
    refine wpL_q (U := NoB) rfl (q_add rfl rfl rfl (by constructor <;> omega)) ?_
    refine wpL_q (U := NoB) rfl (q_assign (v := I (((t * q.Facts) + x) + 1)) rfl rfl) ?_
    exact ⟨rfl, rfl⟩
  rintro f2 _ ⟨a2_6, rfl⟩
  clear a1_0 a1_1 a1_2
  refine wpF_ret ?_
  refine ⟨_, resT a2_6 resN, hS0.frame, ?_⟩
  show (I (((t * q.Facts) + x) + 1)) = I (factV q x t)
  rfl

set_option maxRecDepth 100000 in
theorem act_E {H0 : Heap} (g : Nat) (vf vg va vc : Value) (q : Quest) (n w : Int) (a t : Int) (hb : H0[g]? = some (.cells #[I q.Facts, vf, vg, va, I n, I w, vc] 84)) (ra : Rd NoB H0 va q.Acts) (hQ : QW q) (hn : 0 ≤ n ∧ n ≤ 20) (hf : 0 ≤ a ∧ a ≤ 12) (ht : 0 ≤ t ∧ t ≤ 21) : CallsH Try.prog 56 #[PT g 0, I (a), I (t)] H0 (fun rv_ H' => Ext NoB H0 H' ∧ rv_ = I (actV q n a t)) := by
  have hfx := hQ.facts
  have hmy := hQ.many
  have hsa := (Rd.list.1 ra).small
  have hr := act_rng hQ hn hf ht
  have hS0 : St H0 NoB NoB [fixE g (.cells #[I (q.Facts), vf, vg, va, I (n), I (w), vc] 84), rdE va q.Acts] H0 := St.argFix (St.arg (St.start (fun _ h => h.elim)) (Bl0.nil) ra (fun _ h => h)) (Bl0.cons (Bl0.nil)) hb (fun h => h)
  refine callsH_of_wpF (args := [PT g 0, I (a), I (t)]) (rs := [.tmp 6]) Try.func56 rfl Try.ntmps56 Try.results56 (by kernel_rfl) (Nat.le_of_ble_eq_true rfl) ?_
  have a0_0 : argF [PT g 0, I (a), I (t)] 0 = PT g 0 := rfl
  have a0_1 : argF [PT g 0, I (a), I (t)] 1 = I (a) := rfl
  have a0_2 : argF [PT g 0, I (a), I (t)] 2 = I (t) := rfl
  generalize argF [PT g 0, I (a), I (t)] = f0 at *
  refine wpF_seq ?_
  refine wpF_cut (fun f H => f 0 = PT g 0 ∧ f 1 = I (a) ∧ f 2 = I (t) ∧ H0 = H) ?_ ?_
  · refine wpF_region ?_
    refine wpL_q (U := NoB) rfl (q_assign (v := I (0)) rfl rfl) ?_
    exact ⟨a0_0, a0_1, a0_2, rfl⟩
  rintro f1 _ ⟨a1_0, a1_1, a1_2, rfl⟩
  clear a0_0 a0_1 a0_2
  refine wpF_seq ?_
  refine wpF_cut (fun f H => f 6 = I (((((n + 1) * q.Facts) + (t * (q.Acts.length : Int))) + a) + 1) ∧ H0 = H) ?_ ?_
  · refine wpF_drawn [] [] (fun _ _ => False) (by kernel_rfl) (by kernel_rfl) ?_
    refine wpR_q 0 (by kernel_rfl) rfl (quietAt rfl rfl (q_move (v := PT g 0) rfl a1_0)) ?_
    refine wpR_q 1 (by kernel_rfl) rfl (quietAt rfl rfl (q_nilCheck rfl rfl)) ?_
    refine wpR_q 2 (by kernel_rfl) rfl (quietAt rfl rfl (q_fieldAddr rfl Try.underlying84 rfl Try.sizeOf3 rfl)) ?_
    refine wpR_q 3 (by kernel_rfl) rfl (quietAt rfl rfl (q_loadBlk rfl rfl Try.isAgg3 (hS0.fixd 0 rfl) rfl (labU_not [] rfl (List.forall_mem_nil _)))) ?_
    refine wpR_q 4 (by kernel_rfl) rfl (quietAt rfl rfl (q_add rfl rfl rfl (by constructor <;> omega))) ?_
    refine wpR_q 5 (by kernel_rfl) rfl (quietAt rfl rfl (q_move (v := PT g 0) rfl a1_0)) ?_
    refine wpR_q 6 (by kernel_rfl) rfl (quietAt rfl rfl (q_nilCheck rfl rfl)) ?_
    refine wpR_q 7 (by kernel_rfl) rfl (quietAt rfl rfl (q_fieldAddr rfl Try.underlying84 rfl Try.sizeOf25 rfl)) ?_
    refine wpR_q 8 (by kernel_rfl) rfl (quietAt rfl rfl (q_fieldAddr rfl Try.underlying25 rfl Try.sizeOf3 rfl)) ?_
    refine wpR_q 9 (by kernel_rfl) rfl (quietAt rfl rfl (q_loadBlk rfl rfl Try.isAgg3 (hS0.fixd 0 rfl) rfl (labU_not [] rfl (List.forall_mem_nil _)))) ?_
    refine wpR_q 10 (by kernel_rfl) rfl (quietAt rfl rfl (q_mul rfl rfl rfl (by constructor <;> omega))) ?_
    refine wpR_q 11 (by kernel_rfl) rfl (quietAt rfl rfl (q_move (v := I (t)) rfl a1_2)) ?_
    refine wpR_q 12 (by kernel_rfl) rfl (quietAt rfl rfl (q_move (v := PT g 0) rfl a1_0)) ?_
    refine wpR_q 13 (by kernel_rfl) rfl (quietAt rfl rfl (q_nilCheck rfl rfl)) ?_
    refine wpR_q 14 (by kernel_rfl) rfl (quietAt rfl rfl (q_fieldAddr rfl Try.underlying84 rfl Try.sizeOf25 rfl)) ?_
    refine wpR_q 15 (by kernel_rfl) rfl (quietAt rfl rfl (q_fieldAddr rfl Try.underlying25 rfl Try.sizeOf23 rfl)) ?_
    refine wpR_q 16 (by kernel_rfl) rfl (quietAt rfl rfl (q_loadBlk rfl rfl Try.isAgg23 (hS0.fixd 0 rfl) rfl (labU_not [] rfl (List.forall_mem_nil _)))) ?_
    refine wpR_q 17 (by kernel_rfl) rfl (quietAt rfl rfl (q_lenRd rfl Try.underlying23 rfl (hS0.rdl 1 rfl))) ?_
    refine wpR_q 18 (by kernel_rfl) rfl (quietAt rfl rfl (q_mul rfl rfl rfl (by constructor <;> omega))) ?_
    refine wpR_q 19 (by kernel_rfl) rfl (quietAt rfl rfl (q_add rfl rfl rfl (by constructor <;> omega))) ?_
    refine wpR_q 20 (by kernel_rfl) rfl (quietAt rfl rfl (q_move (v := I (a)) rfl a1_1)) ?_
    refine wpR_q 21 (by kernel_rfl) rfl (quietAt rfl rfl (q_add rfl rfl rfl (by constructor <;> omega))) ?_
    refine wpR_q 22 (by kernel_rfl) rfl (quietAt rfl rfl (q_add rfl rfl rfl (by constructor <;> omega))) ?_
    refine wpR_q 23 (by kernel_rfl) rfl (quietAt rfl rfl (q_assign (v := I (((((n + 1) * q.Facts) + (t * (q.Acts.length : Int))) + a) + 1)) rfl rfl)) ?_
    refine wpR_end (by kernel_rfl) ?_
    exact ⟨rfl, rfl⟩
  rintro f3 _ ⟨a3_6, rfl⟩
  clear a1_0 a1_1 a1_2
  refine wpF_ret ?_
  refine ⟨_, resT a3_6 resN, hS0.frame, ?_⟩
  show (I (((((n + 1) * q.Facts) + (t * (q.Acts.length : Int))) + a) + 1)) = I (actV q n a t)
  rfl

set_option maxRecDepth 100000 in
theorem Clone {H0 : Heap} {S : Nat → Prop} (va : Value) (a : List Int) (ra : Rd S H0 va a) : CallsH Try.prog 61 #[va] H0 (fun rv_ H' => Ext NoB H0 H' ∧ Rd (fun b => S b ∧ b < H0.size) H' rv_ a) := by
  have hby := (Rd.list.1 ra).bound
  have hS0 : St H0 NoB (fun b => S b ∧ b < H0.size) [rdE va a] H0 := St.arg (St.start (fun _ h => h.2)) (Bl0.nil) ra (fun _ h => h.1)
  refine callsH_of_wpF (args := [va]) (rs := [.tmp 2]) Try.func61 rfl Try.ntmps61 Try.results61 (by kernel_rfl) (Nat.le_of_ble_eq_true rfl) ?_
  have a0_0 : argF [va] 0 = va := rfl
  generalize argF [va] = f0 at *
  refine wpF_seq ?_
  refine wpF_cut (fun f H => f 0 = va ∧ H0 = H) ?_ ?_
  · refine wpF_region ?_
    refine wpL_q (U := NoB) rfl (q_assign (v := (Value.slice none 0 0)) rfl rfl) ?_
    exact ⟨a0_0, rfl⟩
  rintro f1 _ ⟨a1_0, rfl⟩
  clear a0_0
  refine wpF_seq ?_
  refine wpF_seq ?_
  refine wpF_cut (fun f H => f 0 = va ∧ f 4 = B (isNil va) ∧ H0 = H) ?_ ?_
  · refine wpF_region ?_
    refine wpL_q (U := NoB) rfl (q_move (v := va) rfl a1_0) ?_
    refine wpL_q (U := NoB) rfl (q_nilS rfl Try.underlying22 rfl ((hS0.rdl 0 rfl))) ?_
    exact ⟨a1_0, rfl, rfl⟩
  rintro f2 _ ⟨a2_0, a2_4, rfl⟩
  clear a1_0
  refine wpF_cond a2_4 (fun hnil => ?t14) (fun hnil => ?e14)
  case t14 =>
    refine wpF_seq ?_
    refine wpF_cut (fun f H => f 2 = (Value.slice none 0 0) ∧ H0 = H) ?_ ?_
    · refine wpF_region ?_
      refine wpL_q (U := NoB) rfl (q_assign (v := (Value.slice none 0 0)) rfl rfl) ?_
      exact ⟨rfl, rfl⟩
    rintro f4 _ ⟨a4_2, rfl⟩
    clear a2_0 a2_4
    refine wpF_ret ?_
    refine ⟨_, resT a4_2 resN, hS0.frame, ?_⟩
    show Rd (fun b => S b ∧ b < H0.size) H0 (Value.slice none 0 0) a
    rw [isNil_len (Rd.list.1 ra) hnil]
    exact rdNil
  refine wpF_skip ?_
  refine wpF_seq ?_
  refine wpF_cut (fun f H => ∃ (v9 : Value), f 2 = v9 ∧ St H0 NoB (fun b => S b ∧ b < H0.size) [rowE 3 v9 (a : List Int)] H) ?_ ?_
  · refine wpF_region ?_
    refine wpL_o rfl ?_
    refine e_buildSlice (vs := []) (xs := ([] : List Int)) rfl Try.underlying22 Try.zeroValue3 rfl Try.sizeOf3 par0 rfl hS0 (RdVs.nil) (by decide) (by decide) (fun v5 H6 hS7 hxx hvv5 => ?_)
    replace hS7 : St H0 NoB (fun b => S b ∧ b < H0.size) [rowE 3 v5 ([] : List Int), rdE va a] H6 := hS7
    refine wpL_q (U := NoB) rfl (q_move (v := va) rfl a2_0) ?_
    have hS8 : St H0 NoB (fun b => S b ∧ b < H0.size) [rowE 3 v5 ([] : List Int), rdE va a] H6 := hS7
    refine wpL_o rfl ?_
    refine e_append rfl Try.underlying22 em_Int_3_StepC1 rfl rfl hS8 (hS8.rdS 1 rfl) (fun _ h => h) (by have : GoT.bytes Int = 8 := rfl; simp; omega) (by decide) (fun v9 H10 hS11 hxx => ?_)
    replace hS11 : St H0 NoB (fun b => S b ∧ b < H0.size) [rowE 3 v9 (a : List Int), rdE va a] H10 := by simpa using hS11
    refine wpL_q (U := NoB) rfl (q_assign (v := v9) rfl rfl) ?_
    exact ⟨v9, rfl, (hS11.drop (sk (sn (List.Sublist.slnil))))⟩
  rintro f12 H12 ⟨v9, a12_2, hS12⟩
  clear a2_0 a2_4
  refine wpF_ret ?_
  refine ⟨_, resT a12_2 resN, hS12.frame, ?_⟩
  show Rd (fun b => S b ∧ b < H0.size) H12 v9 a
  have hS13 : St H0 NoB (fun b => S b ∧ b < H0.size) [rdE v9 a] H12 := St.fin hS12
  exact (hS13.result (hS13.rdS 0 rfl))

set_option maxRecDepth 100000 in
theorem add_E {H0 : Heap} (S : Nat → Prop) (g : Nat) (vf vg va vc vl : Value) (q : Quest) (n w : Int) (Cl : List (List Int)) (l : List Int) (hA : ∀ e ∈ [rowE 22 vc (Cl : List (List Int)), blkE g (.cells #[I (q.Facts), vf, vg, va, I (n), I (w), vc] 84)], e.ok S H0) (hsb : ∀ b, S b → b < H0.size) (hin : ∀ b, own [rowE 22 vc (Cl : List (List Int)), blkE g (.cells #[I (q.Facts), vf, vg, va, I (n), I (w), vc] 84)] b → S b) (hne : ∀ b, rowB vc b → b ≠ g) (rl : Rd S H0 vl l) (hcl : Cl.length ≤ 1000000) : CallsH Try.prog 53 #[PT g 0, vl] H0 (fun rv_ H' => Ext (own [rowE 22 vc (Cl : List (List Int)), blkE g (.cells #[I (q.Facts), vf, vg, va, I (n), I (w), vc] 84)]) H0 H' ∧ ∃ vc_, rv_ = Value.tuple #[] ∧ Gone S [rowE 22 vc (Cl : List (List Int)), blkE g (.cells #[I (q.Facts), vf, vg, va, I (n), I (w), vc] 84)] [rowE 22 vc_ (Cl ++ [l] : List (List Int)), blkE g (.cells #[I (q.Facts), vf, vg, va, I (n), I (w), vc_] 84)] H0 H') := by
  have hS00 := St.handed hA (pw2 hne) hsb hin
  have hS0 : St H0 (own [rowE 22 vc (Cl : List (List Int)), blkE g (.cells #[I (q.Facts), vf, vg, va, I (n), I (w), vc] 84)]) (fun b => S b ∧ ¬ own [rowE 22 vc (Cl : List (List Int)), blkE g (.cells #[I (q.Facts), vf, vg, va, I (n), I (w), vc] 84)] b) [rdE vl l, rowE 22 vc (Cl : List (List Int)), blkE g (.cells #[I (q.Facts), vf, vg, va, I (n), I (w), vc] 84)] H0 := hS00.rd (rl.sub fun b hb => handed_sub hin hb)
  refine callsH_of_wpF (args := [PT g 0, vl]) (rs := []) Try.func53 rfl Try.ntmps53 Try.results53 (by kernel_rfl) (Nat.le_of_ble_eq_true rfl) ?_
  have a0_0 : argF [PT g 0, vl] 0 = PT g 0 := rfl
  have a0_1 : argF [PT g 0, vl] 1 = vl := rfl
  generalize argF [PT g 0, vl] = f0 at *
  refine wpF_cut (fun f H => ∃ (v1o9 : Value), St H0 (own [rowE 22 vc (Cl : List (List Int)), blkE g (.cells #[I (q.Facts), vf, vg, va, I (n), I (w), vc] 84)]) (fun b => S b ∧ ¬ own [rowE 22 vc (Cl : List (List Int)), blkE g (.cells #[I (q.Facts), vf, vg, va, I (n), I (w), vc] 84)] b) [blkE g (.cells #[I (q.Facts), vf, vg, va, I (n), I (w), v1o9] 84), rowE 22 v1o9 (Cl ++ ([l]) : List (List Int)), rdE vl l] H) ?_ ?_
  · refine wpF_drawn [none, none, none, none, none, none, none, none, none, some 0, none, none, none, some 1] [[0], [], [], [], [], [], [], [], [], [], [], [], [], []] (fun l b => match l with | 0 => rowB vc b | 1 => True | _ => False) (by kernel_rfl) (by kernel_rfl) ?_
    refine wpR_q 0 (by kernel_rfl) rfl (quietAt rfl rfl (q_move (v := PT g 0) rfl a0_0)) ?_
    refine wpR_q 1 (by kernel_rfl) rfl (quietAt rfl rfl (q_move (v := PT g 0) rfl a0_0)) ?_
    refine wpR_q 2 (by kernel_rfl) rfl (quietAt rfl rfl (q_nilCheck rfl rfl)) ?_
    refine wpR_q 3 (by kernel_rfl) rfl (quietAt rfl rfl (q_fieldAddr rfl Try.underlying84 rfl Try.sizeOf58 rfl)) ?_
    refine wpR_q 4 (by kernel_rfl) rfl (quietAt rfl rfl (q_fieldAddr rfl Try.underlying58 rfl Try.sizeOf56 rfl)) ?_
    refine wpR_q 5 (by kernel_rfl) rfl (quietAt rfl rfl (q_loadBlk rfl rfl Try.isAgg56 (hS0.blk 2 rfl) rfl (labU_not [] rfl (List.forall_mem_nil _)))) ?_
    refine wpR_q 6 (by kernel_rfl) rfl (quietAt rfl rfl (q_move (v := vl) rfl a0_1)) ?_
    refine wpR_n [7] (by kernel_rfl) ?_
    refine List.forall_mem_cons.2 ⟨?_, List.forall_mem_nil _⟩
    refine exE rfl rfl ?_
    refine e_call rfl Try.call61 (arr1 (v0 := vl) rfl) (Clone vl _ (hS0.rdS 0 rfl)) ?_
    rintro r1o7 H1o7 ⟨hxx, hrr1o7⟩
    have hS1o7 : St H0 (own [rowE 22 vc (Cl : List (List Int)), blkE g (.cells #[I (q.Facts), vf, vg, va, I (n), I (w), vc] 84)]) (fun b => S b ∧ ¬ own [rowE 22 vc (Cl : List (List Int)), blkE g (.cells #[I (q.Facts), vf, vg, va, I (n), I (w), vc] 84)] b) [rdE r1o7 l, rdE vl l, rowE 22 vc (Cl : List (List Int)), blkE g (.cells #[I (q.Facts), vf, vg, va, I (n), I (w), vc] 84)] H1o7 := hS0.res hxx hrr1o7
    refine ⟨Ext.mono hxx (fun _ h => h.elim), ?_⟩
    refine wpR_n [8] (by kernel_rfl) ?_
    refine List.forall_mem_cons.2 ⟨?_, List.forall_mem_nil _⟩
    refine exE rfl rfl ?_
    refine e_buildSlice (vs := [r1o7]) (xs := ([l] : List (List Int))) rfl Try.underlying56 Try.zeroValue22 rfl Try.sizeOf22 (par1 (v0 := r1o7) rfl) rfl hS1o7 (RdVs.cons (hS1o7.rdS 0 rfl) (RdVs.nil)) (by decide) (by decide) (fun v1o8 H1o8 hS1o8 hxx hvv1o8 => ?_)
    replace hS1o8 : St H0 (own [rowE 22 vc (Cl : List (List Int)), blkE g (.cells #[I (q.Facts), vf, vg, va, I (n), I (w), vc] 84)]) (fun b => S b ∧ ¬ own [rowE 22 vc (Cl : List (List Int)), blkE g (.cells #[I (q.Facts), vf, vg, va, I (n), I (w), vc] 84)] b) [rowE 22 v1o8 ([l] : List (List Int)), rdE r1o7 l, rdE vl l, rowE 22 vc (Cl : List (List Int)), blkE g (.cells #[I (q.Facts), vf, vg, va, I (n), I (w), vc] 84)] H1o8 := hS1o8
    refine ⟨Ext.mono hxx (fun _ h => h.elim), ?_⟩
    refine wpR_n [9] (by kernel_rfl) ?_
    refine List.forall_mem_cons.2 ⟨?_, List.forall_mem_nil _⟩
    have hS1o9 : St H0 (own [rowE 22 vc (Cl : List (List Int)), blkE g (.cells #[I (q.Facts), vf, vg, va, I (n), I (w), vc] 84)]) (fun b => S b ∧ ¬ own [rowE 22 vc (Cl : List (List Int)), blkE g (.cells #[I (q.Facts), vf, vg, va, I (n), I (w), vc] 84)] b) [rdE v1o8 ([l] : List (List Int)), rdE r1o7 l, rdE vl l, rowE 22 vc (Cl : List (List Int)), blkE g (.cells #[I (q.Facts), vf, vg, va, I (n), I (w), vc] 84)] H1o8 := St.fin hS1o8
    have hS1o9x2 : St H0 (own [rowE 22 vc (Cl : List (List Int)), blkE g (.cells #[I (q.Facts), vf, vg, va, I (n), I (w), vc] 84)]) (fun b => S b ∧ ¬ own [rowE 22 vc (Cl : List (List Int)), blkE g (.cells #[I (q.Facts), vf, vg, va, I (n), I (w), vc] 84)] b) [rowE 22 vc (Cl : List (List Int)), rdE v1o8 ([l] : List (List Int)), rdE r1o7 l, rdE vl l, blkE g (.cells #[I (q.Facts), vf, vg, va, I (n), I (w), vc] 84)] H1o8 := (hS1o9.front 3 rfl)
    refine exE rfl rfl ?_
    refine e_append rfl Try.underlying56 em_LInt_22_StepC1 rfl rfl hS1o9x2 (hS1o9x2.rdS 1 rfl) (fun _ h => h) (by have hb : GoT.bytes (List Int) = 24 := rfl; simp [hb]; omega) (by decide) (fun v1o9 H1o9 hS1o9x3 hxx => ?_)
    replace hS1o9x3 : St H0 (own [rowE 22 vc (Cl : List (List Int)), blkE g (.cells #[I (q.Facts), vf, vg, va, I (n), I (w), vc] 84)]) (fun b => S b ∧ ¬ own [rowE 22 vc (Cl : List (List Int)), blkE g (.cells #[I (q.Facts), vf, vg, va, I (n), I (w), vc] 84)] b) [rowE 22 v1o9 (Cl ++ ([l]) : List (List Int)), rdE v1o8 ([l] : List (List Int)), rdE r1o7 l, rdE vl l, blkE g (.cells #[I (q.Facts), vf, vg, va, I (n), I (w), vc] 84)] H1o9 := hS1o9x3
    refine ⟨Ext.mono hxx (labS_of 0 rfl (fun b hb => hb)), ?_⟩
    refine wpR_q 10 (by kernel_rfl) rfl (quietAt rfl rfl (q_nilCheck rfl rfl)) ?_
    refine wpR_q 11 (by kernel_rfl) rfl (quietAt rfl rfl (q_fieldAddr rfl Try.underlying84 rfl Try.sizeOf58 rfl)) ?_
    refine wpR_q 12 (by kernel_rfl) rfl (quietAt rfl rfl (q_fieldAddr rfl Try.underlying58 rfl Try.sizeOf56 rfl)) ?_
    refine wpR_n [13] (by kernel_rfl) ?_
    refine List.forall_mem_cons.2 ⟨?_, List.forall_mem_nil _⟩
    refine exE rfl rfl ?_
    refine e_storeBlk (v := v1o9) rfl rfl rfl (oneCell_rdL (hS1o9x3.rowl 0 rfl)) Try.sizeOf56 (by show _ < 7; decide) (hS1o9x3.front 4 rfl) (fun H1o13 hS1o13 hxx => ?_)
    replace hS1o13 : St H0 (own [rowE 22 vc (Cl : List (List Int)), blkE g (.cells #[I (q.Facts), vf, vg, va, I (n), I (w), vc] 84)]) (fun b => S b ∧ ¬ own [rowE 22 vc (Cl : List (List Int)), blkE g (.cells #[I (q.Facts), vf, vg, va, I (n), I (w), vc] 84)] b) [blkE g (.cells #[I (q.Facts), vf, vg, va, I (n), I (w), v1o9] 84), rowE 22 v1o9 (Cl ++ ([l]) : List (List Int)), rdE v1o8 ([l] : List (List Int)), rdE r1o7 l, rdE vl l] H1o13 := hS1o13
    refine ⟨Ext.mono hxx (labS_of 1 rfl (fun _ _ => trivial)), ?_⟩
    refine wpR_end (by kernel_rfl) ?_
    exact ⟨v1o9, (hS1o13.drop (sk (sk (sn (sn (sk (List.Sublist.slnil)))))))⟩
  rintro f2 H2 ⟨v1o9, hS2⟩
  clear a0_0 a0_1
  refine ⟨_, resN, hS2.frameM, ?_⟩
  show ∃ vc_, (Value.tuple #[]) = Value.tuple #[] ∧ Gone S [rowE 22 vc (Cl : List (List Int)), blkE g (.cells #[I (q.Facts), vf, vg, va, I (n), I (w), vc] 84)] [rowE 22 vc_ (Cl ++ [l] : List (List Int)), blkE g (.cells #[I (q.Facts), vf, vg, va, I (n), I (w), vc_] 84)] H0 H2
  exact ⟨v1o9, rfl, St.leave3 (St.drop (show St H0 (own [rowE 22 vc (Cl : List (List Int)), blkE g (.cells #[I (q.Facts), vf, vg, va, I (n), I (w), vc] 84)]) (fun b => S b ∧ ¬ own [rowE 22 vc (Cl : List (List Int)), blkE g (.cells #[I (q.Facts), vf, vg, va, I (n), I (w), vc] 84)] b) [rowE 22 v1o9 (Cl ++ ([l]) : List (List Int)), blkE g (.cells #[I (q.Facts), vf, vg, va, I (n), I (w), v1o9] 84), rdE vl l] H2 from (hS2.front 1 rfl)) (sk (sk (sn (List.Sublist.slnil)))))⟩

end Go.Um
