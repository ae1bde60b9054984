import Derived.Test.YtkhpaklglggagaaProg
import Derived.Test.YtkhpaklglggagaaAutoA3
import Derived.Test.YtkhpaklglggagaaAutoCls
import Derived.Test.YtkhpaklglggagaaUmHas
import Derived.Test.YtkhpaklglggagaaUmTrunc
import Derived.Test.YtkhpaklglggagaaUmSub
namespace Go.Um
open Go.Proofs
open GoT (sz ag rdc)
open KeyT (kv)

theorem el_Bool_4_AutoL2 : ElT Try.prog Bool 4 := ⟨Try.isAgg4, Try.sizeOf4⟩
theorem el_Int_3_AutoL2 : ElT Try.prog Int 3 := ⟨Try.isAgg3, Try.sizeOf3⟩
theorem el_LInt_22_AutoL2 : ElT Try.prog (List Int) 22 := ⟨Try.isAgg22, Try.sizeOf22⟩
theorem em_Int_3_AutoL2 : ElemOk Try.prog Int 3 := ⟨Try.t3, (.int .i64 0), by kernel_rfl, by kernel_rfl, by kernel_rfl, by kernel_rfl, by kernel_rfl⟩

set_option maxRecDepth 100000 in
theorem EqualFunc {H0 : Heap} (va vb vf : Value) (a b : List Int) (gp : Int → Int → Bool) (ra : Rd NoB H0 va a) (rb : Rd NoB H0 vb b) (hf : ∀ x y, x ∈ a → y ∈ b → ∀ H, Ext NoB H0 H → FnH Try.prog vf #[I x, I y] H (fun rv H' => Ext NoB H H' ∧ rv = B (gp x y))) : CallsH Try.prog 79 #[va, vb, vf] H0 (fun rv_ H' => Ext NoB H0 H' ∧ rv_ = B (decide (a.length = b.length) && (List.range a.length).all fun k => gp (nth a k) (nth b k))) := by
  have hsm := (Rd.list.1 ra).small
  have hsm2 := (Rd.list.1 rb).small
  have hS0 : St H0 NoB NoB [rdE va a, rdE vb b] H0 := St.arg (St.arg (St.start (fun _ h => h.elim)) (Bl0.nil) rb (fun _ h => h)) (Bl0.cons (Bl0.nil)) ra (fun _ h => h)
  refine callsH_of_wpF (args := [va, vb, vf]) (rs := [.tmp 6]) Try.func79 rfl Try.ntmps79 Try.results79 (by kernel_rfl) (Nat.le_of_ble_eq_true rfl) ?_
  have a0_0 : argF [va, vb, vf] 0 = va := rfl
  have a0_1 : argF [va, vb, vf] 1 = vb := rfl
  have a0_2 : argF [va, vb, vf] 2 = vf := rfl
  generalize argF [va, vb, vf] = f0 at *
  refine wpF_seq ?_
  refine wpF_cut (fun f H => f 0 = va ∧ f 1 = vb ∧ f 2 = vf ∧ H0 = H) ?_ ?_
  · refine wpF_region ?_
    refine wpL_q (U := NoB) rfl (q_assign (v := B (false)) rfl rfl) ?_
    exact ⟨a0_0, a0_1, a0_2, rfl⟩
  rintro f1 _ ⟨a1_0, a1_1, a1_2, rfl⟩
  clear a0_0 a0_1 a0_2
  refine wpF_seq ?_
  refine wpF_seq ?_
  refine wpF_cut (fun f H => f 0 = va ∧ f 1 = vb ∧ f 2 = vf ∧ f 14 = B (decide ((a.length : Int) ≠ (b.length : Int))) ∧ H0 = H) ?_ ?_
  · refine wpF_region ?_
    refine wpL_q (U := NoB) rfl (q_move (v := va) rfl a1_0) ?_
    refine wpL_q (U := NoB) rfl (q_lenRd rfl Try.underlying22 rfl (hS0.rdl 0 rfl)) ?_
    refine wpL_q (U := NoB) rfl (q_move (v := vb) rfl a1_1) ?_
    refine wpL_q (U := NoB) rfl (q_lenRd rfl Try.underlying22 rfl (hS0.rdl 1 rfl)) ?_
    refine wpL_q (U := NoB) rfl (q_neq rfl rfl rfl) ?_
    exact ⟨a1_0, a1_1, a1_2, rfl, rfl⟩
  rintro f2 _ ⟨a2_0, a2_1, a2_2, a2_14, rfl⟩
  clear a1_0 a1_1 a1_2
  refine wpF_condP a2_14 (fun hlen => ?t21) (fun hlen => ?e21)
  case t21 =>
    refine wpF_seq ?_
    refine wpF_cut (fun f H => f 6 = B (false) ∧ H0 = H) ?_ ?_
    · refine wpF_region ?_
      refine wpL_q (U := NoB) rfl (q_assign (v := B (false)) rfl rfl) ?_
      exact ⟨rfl, rfl⟩
    rintro f4 _ ⟨a4_6, rfl⟩
    clear a2_0 a2_1 a2_14 a2_2
    refine wpF_ret ?_
    refine ⟨_, resT a4_6 resN, hS0.frame, ?_⟩
    show (B (false)) = B (decide (a.length = b.length) && (List.range a.length).all fun k => gp (nth a k) (nth b k))
    exact congrArg B (eqf_len hlen).symm
  refine wpF_skip ?_
  refine wpF_seq ?_
  refine wpF_seq ?_
  refine wpF_cut (fun f H => f 1 = vb ∧ f 2 = vf ∧ f 15 = va ∧ f 16 = I ((a.length : Int)) ∧ f 17 = I (0) ∧ H0 = H) ?_ ?_
  · refine wpF_region ?_
    refine wpL_q (U := NoB) rfl (q_move (v := va) rfl a2_0) ?_
    refine wpL_q (U := NoB) rfl (q_lenRd rfl Try.underlying22 rfl (hS0.rdl 0 rfl)) ?_
    refine wpL_q (U := NoB) rfl (q_move (v := I (0)) rfl rfl) ?_
    exact ⟨a2_1, a2_2, rfl, rfl, rfl, rfl⟩
  rintro f5 _ ⟨a5_1, a5_2, a5_15, a5_16, a5_17, rfl⟩
  clear a2_0 a2_1 a2_14 a2_2
  refine wpF_block ?_
  refine wpF_loop (fun mz f H => ∃ (k : Nat), mz = a.length - k ∧ (k ≤ a.length) ∧ (∀ j, j < k → gp (nth a j) (nth b j) = true) ∧ f 1 = vb ∧ f 2 = vf ∧ f 15 = va ∧ f 16 = I ((a.length : Int)) ∧ f 17 = I ((k : Int)) ∧ St H0 NoB NoB [rdE va a, rdE vb b] H) (a.length - 0) ?_ ?_
  · exact ⟨0, rfl, Nat.zero_le _, (fun j hj => absurd hj (Nat.not_lt_zero j)), a5_1, a5_2, a5_15, a5_16, (Eq.trans a5_17 (congrArg I (by omega))), hS0⟩
  intro m6 f6 H6 hI6
  obtain ⟨k, hm6, hk, hno, a6_1, a6_2, a6_15, a6_16, a6_17, hS6⟩ := hI6
  clear a5_1 a5_15 a5_16 a5_17 a5_2
  refine wpF_seq ?_
  refine wpF_cut (fun f H => f 1 = vb ∧ f 2 = vf ∧ f 15 = va ∧ f 16 = I ((a.length : Int)) ∧ f 17 = I ((k : Int)) ∧ f 18 = B (decide ((k : Int) < (a.length : Int))) ∧ H6 = H) ?_ ?_
  · refine wpF_region ?_
    refine wpL_q (U := NoB) rfl (q_lss rfl a6_17 a6_16) ?_
    exact ⟨a6_1, a6_2, a6_15, a6_16, a6_17, rfl, rfl⟩
  rintro f7 _ ⟨a7_1, a7_2, a7_15, a7_16, a7_17, a7_18, rfl⟩
  clear a6_1 a6_15 a6_16 a6_17 a6_2
  refine wpF_seq ?_
  refine wpF_condP a7_18 (fun hlt => ?t20) (fun hlt => ?e20)
  case e20 =>
    refine wpF_exit ?_
    refine atX_here ?_
    refine wpF_seq ?_
    refine wpF_cut (fun f H => f 6 = B (true) ∧ H6 = H) ?_ ?_
    · refine wpF_region ?_
      refine wpL_q (U := NoB) rfl (q_assign (v := B (true)) rfl rfl) ?_
      exact ⟨rfl, rfl⟩
    rintro f19 _ ⟨a19_6, rfl⟩
    clear a7_1 a7_15 a7_16 a7_17 a7_18 a7_2
    refine wpF_ret ?_
    refine ⟨_, resT a19_6 resN, hS6.frame, ?_⟩
    show (B (true)) = B (decide (a.length = b.length) && (List.range a.length).all fun k => gp (nth a k) (nth b k))
    exact congrArg B (eqf_yes (by omega) (fun j hj => hno j (by omega))).symm
  refine wpF_skip ?_
  refine wpF_seq ?_
  refine wpF_block ?_
  refine wpF_seq ?_
  refine wpF_cut (fun f H => f 1 = vb ∧ f 2 = vf ∧ f 7 = I ((k : Int)) ∧ f 8 = I (nth a k) ∧ f 15 = va ∧ f 16 = I ((a.length : Int)) ∧ f 17 = I ((k : Int)) ∧ H6 = H) ?_ ?_
  · refine wpF_region ?_
    refine wpL_q (U := NoB) rfl (q_move (v := I ((k : Int))) rfl a7_17) ?_
    refine wpL_q (U := NoB) rfl (q_indexRd (k := k) rfl Try.underlying22 el_Int_3_AutoL2 a7_15 a7_17 (hS6.rdl 0 rfl) (by omega) (by omega)) ?_
    refine wpL_q (U := NoB) rfl (q_loadInt (k := k) rfl rfl el_Int_3_AutoL2 (hS6.rdl 0 rfl) (by omega) (fun _ h => h)) ?_
    refine wpL_q (U := NoB) rfl (q_assign (v := I ((k : Int))) rfl rfl) ?_
    refine wpL_q (U := NoB) rfl (q_assign (v := I (nth a k)) rfl rfl) ?_
    exact ⟨a7_1, a7_2, rfl, rfl, a7_15, a7_16, a7_17, rfl⟩
  rintro f9 _ ⟨a9_1, a9_2, a9_7, a9_8, a9_15, a9_16, a9_17, rfl⟩
  clear a7_1 a7_15 a7_16 a7_17 a7_18 a7_2
  refine wpF_seq ?_
  refine wpF_cut (fun f H => f 1 = vb ∧ f 2 = vf ∧ f 8 = I (nth a k) ∧ f 9 = I (nth b k) ∧ f 15 = va ∧ f 16 = I ((a.length : Int)) ∧ f 17 = I ((k : Int)) ∧ H6 = H) ?_ ?_
  · refine wpF_region ?_
    refine wpL_q (U := NoB) rfl (q_move (v := vb) rfl a9_1) ?_
    refine wpL_q (U := NoB) rfl (q_move (v := I ((k : Int))) rfl a9_7) ?_
    refine wpL_q (U := NoB) rfl (q_indexRd (k := k) rfl Try.underlying22 el_Int_3_AutoL2 rfl rfl (hS6.rdl 1 rfl) (by omega) (by omega)) ?_
    refine wpL_q (U := NoB) rfl (q_loadInt (k := k) rfl rfl el_Int_3_AutoL2 (hS6.rdl 1 rfl) (by omega) (fun _ h => h)) ?_
    refine wpL_q (U := NoB) rfl (q_assign (v := I (nth b k)) rfl rfl) ?_
    exact ⟨a9_1, a9_2, a9_8, rfl, a9_15, a9_16, a9_17, rfl⟩
  rintro f10 _ ⟨a10_1, a10_2, a10_8, a10_9, a10_15, a10_16, a10_17, rfl⟩
  clear a9_1 a9_15 a9_16 a9_17 a9_2 a9_7 a9_8
  refine wpF_seq ?_
  refine wpF_cut (fun f H => f 1 = vb ∧ f 2 = vf ∧ f 15 = va ∧ f 16 = I ((a.length : Int)) ∧ f 17 = I ((k : Int)) ∧ f 30 = B (!(gp (nth a k) (nth b k))) ∧ St H0 NoB NoB [rdE va a, rdE vb b] H) ?_ ?_
  · refine wpF_region ?_
    refine wpL_q (U := NoB) rfl (q_move (v := vf) rfl a10_2) ?_
    refine wpL_q (U := NoB) rfl (q_move (v := I (nth a k)) rfl a10_8) ?_
    refine wpL_q (U := NoB) rfl (q_move (v := I (nth b k)) rfl a10_9) ?_
    refine wpL_o rfl ?_
    refine e_callF rfl rfl (arr2 (v0 := I (nth a k)) (v1 := I (nth b k)) rfl rfl) (hf _ _ (nth_mem (l := a) (k := k) (by omega)) (nth_mem (l := b) (k := k) (by omega)) _ hS6.frame) ?_
    rintro _ H11 ⟨hxx, rfl⟩
    have hS12 : St H0 NoB NoB [rdE va a, rdE vb b] H11 := hS6.ext hxx
    refine wpL_q (U := NoB) rfl (q_not rfl rfl) ?_
    exact ⟨a10_1, a10_2, a10_15, a10_16, a10_17, rfl, hS12⟩
  rintro f14 H14 ⟨a14_1, a14_2, a14_15, a14_16, a14_17, a14_30, hS14⟩
  clear a10_1 a10_15 a10_16 a10_17 a10_2 a10_8 a10_9
  refine wpF_cond a14_30 (fun hg => ?t18) (fun hg => ?e18)
  case e18 =>
    refine wpF_skip ?_
    refine wpF_cut (fun f H => f 1 = vb ∧ f 2 = vf ∧ f 15 = va ∧ f 16 = I ((a.length : Int)) ∧ f 17 = I ((k : Int) + 1) ∧ H14 = H) ?_ ?_
    · refine wpF_region ?_
      refine wpL_q (U := NoB) rfl (q_add rfl a14_17 rfl (by constructor <;> omega)) ?_
      refine wpL_q (U := NoB) rfl (q_move (v := I ((k : Int) + 1)) rfl rfl) ?_
      exact ⟨a14_1, a14_2, a14_15, a14_16, rfl, rfl⟩
    rintro f17 _ ⟨a17_1, a17_2, a17_15, a17_16, a17_17, rfl⟩
    clear a14_1 a14_15 a14_16 a14_17 a14_2 a14_30
    refine ⟨_, ?_, k + 1, rfl, (by omega), (all_succ hno (by simpa using hg)), a17_1, a17_2, a17_15, a17_16, (Eq.trans a17_17 (congrArg I (by omega))), hS14⟩
    omega
  refine wpF_seq ?_
  refine wpF_cut (fun f H => f 6 = B (false) ∧ H14 = H) ?_ ?_
  · refine wpF_region ?_
    refine wpL_q (U := NoB) rfl (q_assign (v := B (false)) rfl rfl) ?_
    exact ⟨rfl, rfl⟩
  rintro f16 _ ⟨a16_6, rfl⟩
  clear a14_1 a14_15 a14_16 a14_17 a14_2 a14_30
  refine wpF_ret ?_
  refine ⟨_, resT a16_6 resN, hS14.frame, ?_⟩
  show (B (false)) = B (decide (a.length = b.length) && (List.range a.length).all fun k => gp (nth a k) (nth b k))
  exact congrArg B (eqf_no (k := k) (by omega) (by simpa using hg)).symm

set_option maxRecDepth 100000 in
theorem classes_1_1 {H0 : Heap} (x y : Int) (gc : Nat) (vC : Value) (C : List Int) (hb : H0[gc]? = some (.cells #[vC] 22)) (rC : Rd NoB H0 vC C) (hx : 0 ≤ x ∧ x < (C.length : Int)) (hy : 0 ≤ y ∧ y < (C.length : Int)) : CallsH Try.prog 80 #[I (x), I (y), PT gc 0] H0 (fun rv_ H' => Ext NoB H0 H' ∧ rv_ = B (decide (nth C x.toNat = nth C y.toNat))) := by
  have hsm := (Rd.list.1 rC).small
  have hS0 : St H0 NoB NoB [fixE gc (.cells #[vC] 22), rdE vC C] H0 := St.argFix (St.arg (St.start (fun _ h => h.elim)) (Bl0.nil) rC (fun _ h => h)) (Bl0.cons (Bl0.nil)) hb (fun h => h)
  refine callsH_of_wpF (args := [I (x), I (y), PT gc 0]) (rs := [.tmp 5]) Try.func80 rfl Try.ntmps80 Try.results80 (by kernel_rfl) (Nat.le_of_ble_eq_true rfl) ?_
  have a0_0 : argF [I (x), I (y), PT gc 0] 0 = I (x) := rfl
  have a0_1 : argF [I (x), I (y), PT gc 0] 1 = I (y) := rfl
  have a0_2 : argF [I (x), I (y), PT gc 0] 2 = PT gc 0 := rfl
  generalize argF [I (x), I (y), PT gc 0] = f0 at *
  refine wpF_seq ?_
  refine wpF_cut (fun f H => f 0 = I (x) ∧ f 1 = I (y) ∧ f 2 = PT gc 0 ∧ H0 = H) ?_ ?_
  · refine wpF_region ?_
    refine wpL_q (U := NoB) rfl (q_assign (v := B (false)) rfl rfl) ?_
    exact ⟨a0_0, a0_1, a0_2, rfl⟩
  rintro f1 _ ⟨a1_0, a1_1, a1_2, rfl⟩
  clear a0_0 a0_1 a0_2
  refine wpF_seq ?_
  refine wpF_cut (fun f H => f 5 = B (decide ((nth C ((x).toNat)) = (nth C ((y).toNat)))) ∧ H0 = H) ?_ ?_
  · refine wpF_drawn [] [] (fun _ _ => False) (by kernel_rfl) (by kernel_rfl) ?_
    refine wpR_q 0 (by kernel_rfl) rfl (quietAt rfl rfl (q_loadBlk rfl a1_2 Try.isAgg22 (hS0.fixd 0 rfl) rfl (labU_not [] rfl (List.forall_mem_nil _)))) ?_
    refine wpR_q 1 (by kernel_rfl) rfl (quietAt rfl rfl (q_move (v := I (x)) rfl a1_0)) ?_
    refine wpR_q 2 (by kernel_rfl) rfl (quietAt rfl rfl (q_indexRd (k := (x).toNat) rfl Try.underlying22 el_Int_3_AutoL2 rfl rfl (hS0.rdl 1 rfl) (by omega) (by omega))) ?_
    refine wpR_q 3 (by kernel_rfl) rfl (quietAt rfl rfl (q_loadInt (k := (x).toNat) rfl rfl el_Int_3_AutoL2 (hS0.rdl 1 rfl) (by omega) (labU_sub [] rfl (List.forall_mem_nil _)))) ?_
    refine wpR_q 4 (by kernel_rfl) rfl (quietAt rfl rfl (q_loadBlk rfl a1_2 Try.isAgg22 (hS0.fixd 0 rfl) rfl (labU_not [] rfl (List.forall_mem_nil _)))) ?_
    refine wpR_q 5 (by kernel_rfl) rfl (quietAt rfl rfl (q_move (v := I (y)) rfl a1_1)) ?_
    refine wpR_q 6 (by kernel_rfl) rfl (quietAt rfl rfl (q_indexRd (k := (y).toNat) rfl Try.underlying22 el_Int_3_AutoL2 rfl rfl (hS0.rdl 1 rfl) (by omega) (by omega))) ?_
    refine wpR_q 7 (by kernel_rfl) rfl (quietAt rfl rfl (q_loadInt (k := (y).toNat) rfl rfl el_Int_3_AutoL2 (hS0.rdl 1 rfl) (by omega) (labU_sub [] rfl (List.forall_mem_nil _)))) ?_
    refine wpR_q 8 (by kernel_rfl) rfl (quietAt rfl rfl (q_eql rfl rfl rfl)) ?_
    refine wpR_q 9 (by kernel_rfl) rfl (quietAt rfl rfl (q_assign (v := B (decide ((nth C ((x).toNat)) = (nth C ((y).toNat))))) rfl rfl)) ?_
    refine wpR_end (by kernel_rfl) ?_
    exact ⟨rfl, rfl⟩
  rintro f3 _ ⟨a3_5, rfl⟩
  clear a1_0 a1_1 a1_2
  refine wpF_ret ?_
  refine ⟨_, resT a3_5 resN, hS0.frame, ?_⟩
  show (B (decide ((nth C ((x).toNat)) = (nth C ((y).toNat))))) = B (decide (nth C x.toNat = nth C y.toNat))
  rfl

set_option maxHeartbeats 1000000 in
set_option maxRecDepth 100000 in
theorem classes_1 {H0 : Heap} (j i : Int) (gc gi ga : Nat) (vC c0 vn vt : Value) (C : List Int) (a : Auto) (hbc : H0[gc]? = some (.cells #[vC] 22)) (hbi : H0[gi]? = some (.cells #[I i] 3)) (hba : H0[ga]? = some (.cells #[c0, vn, vt] 36)) (rC : Rd NoB H0 vC C) (rn : Rd NoB H0 vn a.Next) (hW : WF a) (hCl : C.length = a.Next.length) (hi : 0 ≤ i ∧ i < (a.Next.length : Int)) (hj : 0 ≤ j ∧ j < (a.Next.length : Int)) : CallsH Try.prog 78 #[I (j), PT gc 0, PT gi 0, PT ga 0] H0 (fun rv_ H' => Ext NoB H0 H' ∧ rv_ = B (sameC a C i j)) := by
  have hsm := (Rd.list.1 rC).small
  have hrow : ∀ z : Int, (z ∈ nth a.Next i.toNat ∨ z ∈ nth a.Next j.toNat) → 0 ≤ z ∧ z < (C.length : Int) := fun z hz => by rw [hCl]; exact hz.elim (hW.to _ (by omega) z) (hW.to _ (by omega) z)
  have hS0 : St H0 NoB NoB [fixE gc (.cells #[vC] 22), fixE gi (.cells #[I (i)] 3), fixE ga (.cells #[c0, vn, vt] 36), rdE vC C, rdE vn a.Next] H0 := St.argFix (St.argFix (St.argFix (St.arg (St.arg (St.start (fun _ h => h.elim)) (Bl0.nil) rn (fun _ h => h)) (Bl0.cons (Bl0.nil)) rC (fun _ h => h)) (Bl0.cons (Bl0.cons (Bl0.nil))) hba (fun h => h)) (Bl0.consF (Bl0.cons (Bl0.cons (Bl0.nil)))) hbi (fun h => h)) (Bl0.consF (Bl0.consF (Bl0.cons (Bl0.cons (Bl0.nil))))) hbc (fun h => h)
  refine callsH_of_wpF (args := [I (j), PT gc 0, PT gi 0, PT ga 0]) (rs := [.tmp 5]) Try.func78 rfl Try.ntmps78 Try.results78 (by kernel_rfl) (Nat.le_of_ble_eq_true rfl) ?_
  have a0_0 : argF [I (j), PT gc 0, PT gi 0, PT ga 0] 0 = I (j) := rfl
  have a0_1 : argF [I (j), PT gc 0, PT gi 0, PT ga 0] 1 = PT gc 0 := rfl
  have a0_2 : argF [I (j), PT gc 0, PT gi 0, PT ga 0] 2 = PT gi 0 := rfl
  have a0_3 : argF [I (j), PT gc 0, PT gi 0, PT ga 0] 3 = PT ga 0 := rfl
  generalize argF [I (j), PT gc 0, PT gi 0, PT ga 0] = f0 at *
  refine wpF_seq ?_
  refine wpF_cut (fun f H => f 0 = I (j) ∧ f 1 = PT gc 0 ∧ f 2 = PT gi 0 ∧ f 3 = PT ga 0 ∧ H0 = H) ?_ ?_
  · refine wpF_region ?_
    refine wpL_q (U := NoB) rfl (q_assign (v := B (false)) rfl rfl) ?_
    exact ⟨a0_0, a0_1, a0_2, a0_3, rfl⟩
  rintro f1 _ ⟨a1_0, a1_1, a1_2, a1_3, rfl⟩
  clear a0_0 a0_1 a0_2 a0_3
  refine wpF_seq ?_
  refine wpF_cut (fun f H => f 5 = B (decide (((nth C ((i).toNat)) = (nth C ((j).toNat))) ∧ ((decide ((nth a.Next ((i).toNat)).length = (nth a.Next ((j).toNat)).length) && (List.range (nth a.Next ((i).toNat)).length).all fun k => (fun x y => decide (nth C x.toNat = nth C y.toNat)) (nth (nth a.Next ((i).toNat)) k) (nth (nth a.Next ((j).toNat)) k)) = true))) ∧ St H0 NoB NoB [fixE gc (.cells #[vC] 22), fixE gi (.cells #[I (i)] 3), fixE ga (.cells #[c0, vn, vt] 36), rdE vC C, rdE vn a.Next] H) ?_ ?_
  · refine wpF_drawn [] [] (fun _ _ => False) (by kernel_rfl) (by kernel_rfl) ?_
    refine wpR_q 0 (by kernel_rfl) rfl (quietAt rfl rfl (q_loadBlk rfl a1_1 Try.isAgg22 (hS0.fixd 0 rfl) rfl (labU_not [] rfl (List.forall_mem_nil _)))) ?_
    refine wpR_q 1 (by kernel_rfl) rfl (quietAt rfl rfl (q_loadBlk rfl a1_2 Try.isAgg3 (hS0.fixd 1 rfl) rfl (labU_not [] rfl (List.forall_mem_nil _)))) ?_
    refine wpR_q 2 (by kernel_rfl) rfl (quietAt rfl rfl (q_indexRd (k := (i).toNat) rfl Try.underlying22 el_Int_3_AutoL2 rfl rfl (hS0.rdl 3 rfl) (by omega) (by omega))) ?_
    refine wpR_q 3 (by kernel_rfl) rfl (quietAt rfl rfl (q_loadInt (k := (i).toNat) rfl rfl el_Int_3_AutoL2 (hS0.rdl 3 rfl) (by omega) (labU_sub [] rfl (List.forall_mem_nil _)))) ?_
    refine wpR_q 4 (by kernel_rfl) rfl (quietAt rfl rfl (q_loadBlk rfl a1_1 Try.isAgg22 (hS0.fixd 0 rfl) rfl (labU_not [] rfl (List.forall_mem_nil _)))) ?_
    refine wpR_q 5 (by kernel_rfl) rfl (quietAt rfl rfl (q_move (v := I (j)) rfl a1_0)) ?_
    refine wpR_q 6 (by kernel_rfl) rfl (quietAt rfl rfl (q_indexRd (k := (j).toNat) rfl Try.underlying22 el_Int_3_AutoL2 rfl rfl (hS0.rdl 3 rfl) (by omega) (by omega))) ?_
    refine wpR_q 7 (by kernel_rfl) rfl (quietAt rfl rfl (q_loadInt (k := (j).toNat) rfl rfl el_Int_3_AutoL2 (hS0.rdl 3 rfl) (by omega) (labU_sub [] rfl (List.forall_mem_nil _)))) ?_
    refine wpR_q 8 (by kernel_rfl) rfl (quietAt rfl rfl (q_eql rfl rfl rfl)) ?_
    refine wpR_q 9 (by kernel_rfl) rfl (quietAt rfl rfl (q_move (v := B (decide ((nth C ((i).toNat)) = (nth C ((j).toNat))))) rfl rfl)) ?_
    by_cases hg3 : (nth C ((i).toNat)) = (nth C ((j).toNat))
    · have hb4 := Eq.trans rfl (congrArg B (decide_eq_true hg3))
      refine wpR_q 10 (by kernel_rfl) rfl (quietAt_g rfl rfl rfl rfl hb4 (q_fieldAddr rfl Try.underlying36 rfl Try.sizeOf27 a1_3)) ?_
      refine wpR_q 11 (by kernel_rfl) rfl (quietAt_g rfl rfl rfl rfl hb4 (q_loadBlk rfl rfl Try.isAgg27 (hS0.fixd 2 rfl) rfl (labU_not [] rfl (List.forall_mem_nil _)))) ?_
      refine wpR_q 12 (by kernel_rfl) rfl (quietAt_g rfl rfl rfl rfl hb4 (q_loadBlk rfl a1_2 Try.isAgg3 (hS0.fixd 1 rfl) rfl (labU_not [] rfl (List.forall_mem_nil _)))) ?_
      refine wpR_q 13 (by kernel_rfl) rfl (quietAt_g rfl rfl rfl rfl hb4 (q_indexRd (k := (i).toNat) rfl Try.underlying27 el_LInt_22_AutoL2 rfl rfl (hS0.rdl 4 rfl) (by omega) (by omega))) ?_
      obtain ⟨u2o14, huu2o14, hlu2o14⟩ := (Rd.list.1 (hS0.rdS 4 rfl)).elem ((i).toNat) (by omega)
      have hS2o14 : St H0 NoB NoB [rdE u2o14 (nth a.Next ((i).toNat)), fixE gc (.cells #[vC] 22), fixE gi (.cells #[I (i)] 3), fixE ga (.cells #[c0, vn, vt] 36), rdE vC C, rdE vn a.Next] H0 := hS0.rd huu2o14
      refine wpR_q 14 (by kernel_rfl) rfl (quietAt_g rfl rfl rfl rfl hb4 (q_loadE rfl rfl (hlu2o14 Try.prog 22 _ el_LInt_22_AutoL2 (labU_sub [] rfl (List.forall_mem_nil _))))) ?_
      refine wpR_q 15 (by kernel_rfl) rfl (quietAt_g rfl rfl rfl rfl hb4 (q_fieldAddr rfl Try.underlying36 rfl Try.sizeOf27 a1_3)) ?_
      refine wpR_q 16 (by kernel_rfl) rfl (quietAt_g rfl rfl rfl rfl hb4 (q_loadBlk rfl rfl Try.isAgg27 (hS2o14.fixd 3 rfl) rfl (labU_not [] rfl (List.forall_mem_nil _)))) ?_
      refine wpR_q 17 (by kernel_rfl) rfl (quietAt_g rfl rfl rfl rfl hb4 (q_move (v := I (j)) rfl a1_0)) ?_
      refine wpR_q 18 (by kernel_rfl) rfl (quietAt_g rfl rfl rfl rfl hb4 (q_indexRd (k := (j).toNat) rfl Try.underlying27 el_LInt_22_AutoL2 rfl rfl (hS2o14.rdl 5 rfl) (by omega) (by omega))) ?_
      obtain ⟨u2o19, huu2o19, hlu2o19⟩ := (Rd.list.1 (hS2o14.rdS 5 rfl)).elem ((j).toNat) (by omega)
      have hS2o19 : St H0 NoB NoB [rdE u2o19 (nth a.Next ((j).toNat)), rdE u2o14 (nth a.Next ((i).toNat)), fixE gc (.cells #[vC] 22), fixE gi (.cells #[I (i)] 3), fixE ga (.cells #[c0, vn, vt] 36), rdE vC C, rdE vn a.Next] H0 := hS2o14.rd huu2o19
      refine wpR_q 19 (by kernel_rfl) rfl (quietAt_g rfl rfl rfl rfl hb4 (q_loadE rfl rfl (hlu2o19 Try.prog 22 _ el_LInt_22_AutoL2 (labU_sub [] rfl (List.forall_mem_nil _))))) ?_
      refine wpR_q 20 (by kernel_rfl) rfl (quietAt_g rfl rfl rfl rfl hb4 (q_makeFunc (fi' := #[]) rfl (by simp) (arr1 (v0 := PT gc 0) a1_1))) ?_
      refine wpR_n [21] (by kernel_rfl) ?_
      refine List.forall_mem_cons.2 ⟨?_, List.forall_mem_nil _⟩
      refine exE_g rfl rfl rfl rfl hb4 ?_
      refine e_call rfl Try.call79 (arr3 (v0 := u2o14) (v1 := u2o19) (v2 := Value.func (.func 80) #[] #[PT gc 0]) rfl rfl rfl) (EqualFunc u2o14 u2o19 (Value.func (.func 80) #[] #[PT gc 0]) (nth a.Next ((i).toNat)) (nth a.Next ((j).toNat)) (fun x y => decide (nth C x.toNat = nth C y.toNat)) (hS2o19.rdN 1 rfl) (hS2o19.rdN 0 rfl) (fun x y hx hy H hE => ⟨_, _, rfl, Try.call80, classes_1_1 x y gc _ C (hE.blk (hS2o19.fixd 2 rfl)) ((hS2o19.rdN 5 rfl).extN hE) (hrow x (.inl hx)) (hrow y (.inr hy))⟩)) ?_
      rintro _ H2o21 ⟨hxx, rfl⟩
      have hS2o21 : St H0 NoB NoB [rdE u2o19 (nth a.Next ((j).toNat)), rdE u2o14 (nth a.Next ((i).toNat)), fixE gc (.cells #[vC] 22), fixE gi (.cells #[I (i)] 3), fixE ga (.cells #[c0, vn, vt] 36), rdE vC C, rdE vn a.Next] H2o21 := hS2o19.ext hxx
      refine ⟨Ext.mono hxx (fun _ h => h.elim), ?_⟩
      refine wpR_q 22 (by kernel_rfl) rfl (quietAt rfl rfl (q_pickT (v := B (decide ((nth a.Next ((i).toNat)).length = (nth a.Next ((j).toNat)).length) && (List.range (nth a.Next ((i).toNat)).length).all fun k => (fun x y => decide (nth C x.toNat = nth C y.toNat)) (nth (nth a.Next ((i).toNat)) k) (nth (nth a.Next ((j).toNat)) k))) rfl hb4 rfl)) ?_
      refine wpR_q 23 (by kernel_rfl) rfl (quietAt rfl rfl (q_assign (v := B (decide ((nth a.Next ((i).toNat)).length = (nth a.Next ((j).toNat)).length) && (List.range (nth a.Next ((i).toNat)).length).all fun k => (fun x y => decide (nth C x.toNat = nth C y.toNat)) (nth (nth a.Next ((i).toNat)) k) (nth (nth a.Next ((j).toNat)) k))) rfl rfl)) ?_
      refine wpR_end (by kernel_rfl) ?_
      exact ⟨(Eq.trans rfl (congrArg B (bool_congr_of ((Iff.rfl).trans (((and_iff_right hg3).trans Iff.rfl)).symm)))), (hS2o21.drop (sn (sn (sk (sk (sk (sk (sk (List.Sublist.slnil)))))))))⟩
    · have hb5 := Eq.trans rfl (congrArg B (decide_eq_false hg3))
      refine wpR_q 10 (by kernel_rfl) rfl (quietAt_s rfl rfl rfl rfl hb5 rfl) ?_
      refine wpR_q 11 (by kernel_rfl) rfl (quietAt_s rfl rfl rfl rfl hb5 rfl) ?_
      refine wpR_q 12 (by kernel_rfl) rfl (quietAt_s rfl rfl rfl rfl hb5 rfl) ?_
      refine wpR_q 13 (by kernel_rfl) rfl (quietAt_s rfl rfl rfl rfl hb5 rfl) ?_
      refine wpR_q 14 (by kernel_rfl) rfl (quietAt_s rfl rfl rfl rfl hb5 rfl) ?_
      refine wpR_q 15 (by kernel_rfl) rfl (quietAt_s rfl rfl rfl rfl hb5 rfl) ?_
      refine wpR_q 16 (by kernel_rfl) rfl (quietAt_s rfl rfl rfl rfl hb5 rfl) ?_
      refine wpR_q 17 (by kernel_rfl) rfl (quietAt_s rfl rfl rfl rfl hb5 rfl) ?_
      refine wpR_q 18 (by kernel_rfl) rfl (quietAt_s rfl rfl rfl rfl hb5 rfl) ?_
      refine wpR_q 19 (by kernel_rfl) rfl (quietAt_s rfl rfl rfl rfl hb5 rfl) ?_
      refine wpR_q 20 (by kernel_rfl) rfl (quietAt_s rfl rfl rfl rfl hb5 rfl) ?_
      refine wpR_q 21 (by kernel_rfl) rfl (quietAt_s rfl rfl rfl rfl hb5 rfl) ?_
      refine wpR_q 22 (by kernel_rfl) rfl (quietAt rfl rfl (q_pickF (v := B (false)) rfl hb5 rfl)) ?_
      refine wpR_q 23 (by kernel_rfl) rfl (quietAt rfl rfl (q_assign (v := B (false)) rfl rfl)) ?_
      refine wpR_end (by kernel_rfl) ?_
      exact ⟨(Eq.trans rfl (congrArg B ((decide_eq_false (fun h => hg3 h.1)).symm))), hS0⟩
  rintro f6 H6 ⟨a6_5, hS6⟩
  clear a1_0 a1_1 a1_2 a1_3
  refine wpF_ret ?_
  refine ⟨_, resT a6_5 resN, hS6.frame, ?_⟩
  show (B (decide (((nth C ((i).toNat)) = (nth C ((j).toNat))) ∧ ((decide ((nth a.Next ((i).toNat)).length = (nth a.Next ((j).toNat)).length) && (List.range (nth a.Next ((i).toNat)).length).all fun k => (fun x y => decide (nth C x.toNat = nth C y.toNat)) (nth (nth a.Next ((i).toNat)) k) (nth (nth a.Next ((j).toNat)) k)) = true)))) = B (sameC a C i j)
  exact congrArg B (show _ = sameC a C i j from and_dec)

set_option maxHeartbeats 2000000 in
set_option maxRecDepth 100000 in
theorem classes_L {H0 : Heap} {S : Nat → Prop} (vn vt : Value) (a : Auto) (rn : Rd S H0 vn a.Next) (rt : Rd S H0 vt a.Takes) (hsg : In64 a.Signs) (hW : WF a) : CallsH Try.prog 66 #[Value.agg #[I (a.Signs), vn, vt]] H0 (fun rv_ H' => Ext NoB H0 H' ∧ ∃ cs_, Rd (fun b => S b ∧ b < H0.size) H' rv_ cs_ ∧ ClsL a cs_) := by
  have hsn := (Rd.list.1 rn).small
  have hst := (Rd.list.1 rt).small
  have hm := hW.takes
  have hm2 := hW.many
  have hS0 : St H0 NoB (fun b => S b ∧ b < H0.size) [rdE vn a.Next, rdE vt a.Takes] H0 := St.arg (St.arg (St.start (fun _ h => h.2)) (Bl0.nil) rt (fun _ h => h.1)) (Bl0.cons (Bl0.nil)) rn (fun _ h => h.1)
  refine callsH_of_wpF (args := [Value.agg #[I (a.Signs), vn, vt]]) (rs := [.tmp 2]) Try.func66 rfl Try.ntmps66 Try.results66 (by kernel_rfl) (Nat.le_of_ble_eq_true rfl) ?_
  have a0_0 : argF [Value.agg #[I (a.Signs), vn, vt]] 0 = Value.agg #[I (a.Signs), vn, vt] := rfl
  generalize argF [Value.agg #[I (a.Signs), vn, vt]] = f0 at *
  refine wpF_seq ?_
  refine wpF_cut (fun f H => ∃ (g1 : Nat), f 1 = PT g1 0 ∧ St H0 NoB (fun b => S b ∧ b < H0.size) [blkE g1 (.cells #[I (a.Signs), vn, vt] 36), rdE vn a.Next, rdE vt a.Takes] H) ?_ ?_
  · refine wpF_region ?_
    refine wpL_o rfl ?_
    refine e_box (v := Value.agg #[I (a.Signs), vn, vt]) rfl a0_0 hS0 (fun g1 H2 hS3 hxx => ?_)
    replace hS3 : St H0 NoB (fun b => S b ∧ b < H0.size) [blkE g1 (.cells #[I (a.Signs), vn, vt] 36), rdE vn a.Next, rdE vt a.Takes] H2 := hS3
    refine wpL_q (U := NoB) rfl (q_assign (v := (Value.slice none 0 0)) rfl rfl) ?_
    exact ⟨g1, rfl, hS3⟩
  rintro f4 H4 ⟨g1, a4_1, hS4⟩
  clear a0_0
  refine wpF_seq ?_
  refine wpF_cut (fun f H => ∃ (v5 : Value), ∃ (g8 : Nat), f 1 = PT g1 0 ∧ f 3 = PT g8 0 ∧ St H0 NoB (fun b => S b ∧ b < H0.size) [blkE g8 (.cells #[v5] 22), rowE 3 v5 (List.replicate a.Next.length (0 : Int) : List Int), blkE g1 (.cells #[I (a.Signs), vn, vt] 36), rdE vn a.Next, rdE vt a.Takes] H) ?_ ?_
  · refine wpF_region ?_
    refine wpL_q (U := NoB) rfl (q_fieldAddr rfl Try.underlying36 rfl Try.sizeOf27 a4_1) ?_
    refine wpL_q (U := NoB) rfl (q_loadBlk rfl rfl Try.isAgg27 (hS4.blk 0 rfl) rfl (fun h => h)) ?_
    refine wpL_q (U := NoB) rfl (q_lenRd rfl Try.underlying27 rfl (hS4.rdl 1 rfl)) ?_
    refine wpL_o rfl ?_
    refine e_makeSlice (n := a.Next.length) (x0 := ((0 : Int) : Int)) rfl Try.underlying22 Try.zeroValue3 em_Int_3_AutoL2 Try.sizeOf3 rfl rfl (by omega) (fun _ _ => Rd.int.2 ⟨rfl, by decide⟩) hS4 (by have hb : GoT.bytes Int = 8 := rfl; simp [hb]; omega) (by omega) (fun v5 H6 hS7 hxx => ?_)
    replace hS7 : St H0 NoB (fun b => S b ∧ b < H0.size) [rowE 3 v5 (List.replicate a.Next.length (0 : Int) : List Int), blkE g1 (.cells #[I (a.Signs), vn, vt] 36), rdE vn a.Next, rdE vt a.Takes] H6 := hS7
    refine wpL_o rfl ?_
    refine e_alloc rfl Try.zeroValue22 hS7 (fun g8 H9 hS10 hxx => ?_)
    replace hS10 : St H0 NoB (fun b => S b ∧ b < H0.size) [blkE g8 (.cells #[(Value.slice none 0 0)] 22), rowE 3 v5 (List.replicate a.Next.length (0 : Int) : List Int), blkE g1 (.cells #[I (a.Signs), vn, vt] 36), rdE vn a.Next, rdE vt a.Takes] H9 := hS10
    refine wpL_o rfl ?_
    refine e_storeBlk (v := v5) rfl rfl rfl (oneCell_rdL (hS10.rowl 1 rfl)) Try.sizeOf22 (by show _ < 1; decide) hS10 (fun H11 hS12 hxx => ?_)
    replace hS12 : St H0 NoB (fun b => S b ∧ b < H0.size) [blkE g8 (.cells #[v5] 22), rowE 3 v5 (List.replicate a.Next.length (0 : Int) : List Int), blkE g1 (.cells #[I (a.Signs), vn, vt] 36), rdE vn a.Next, rdE vt a.Takes] H11 := hS12
    exact ⟨v5, g8, a4_1, rfl, hS12⟩
  rintro f13 H13 ⟨v5, g8, a13_1, a13_3, hS13⟩
  clear a4_1
  refine wpF_seq ?_
  refine wpF_seq ?_
  refine wpF_cut (fun f H => f 1 = PT g1 0 ∧ f 3 = PT g8 0 ∧ f 18 = vt ∧ f 19 = I ((a.Takes.length : Int)) ∧ f 20 = I (0) ∧ H13 = H) ?_ ?_
  · refine wpF_region ?_
    refine wpL_q (U := NoB) rfl (q_fieldAddr rfl Try.underlying36 rfl Try.sizeOf32 a13_1) ?_
    refine wpL_q (U := NoB) rfl (q_loadBlk rfl rfl Try.isAgg32 (hS13.blk 2 rfl) rfl (fun h => h)) ?_
    refine wpL_q (U := NoB) rfl (q_lenRd rfl Try.underlying32 rfl (hS13.rdl 4 rfl)) ?_
    refine wpL_q (U := NoB) rfl (q_move (v := I (0)) rfl rfl) ?_
    exact ⟨a13_1, a13_3, rfl, rfl, rfl, rfl⟩
  rintro f14 _ ⟨a14_1, a14_3, a14_18, a14_19, a14_20, rfl⟩
  clear a13_1 a13_3
  refine wpF_block ?_
  refine wpF_loop (fun mz f H => ∃ (k : Nat), mz = a.Takes.length - k ∧ (k ≤ a.Takes.length) ∧ f 1 = PT g1 0 ∧ f 3 = PT g8 0 ∧ f 18 = vt ∧ f 19 = I ((a.Takes.length : Int)) ∧ f 20 = I ((k : Int)) ∧ St H0 NoB (fun b => S b ∧ b < H0.size) [blkE g8 (.cells #[v5] 22), rowE 3 v5 (initC a k : List Int), blkE g1 (.cells #[I (a.Signs), vn, vt] 36), rdE vn a.Next, rdE vt a.Takes] H) (a.Takes.length - 0) ?_ ?_
  · exact ⟨0, rfl, Nat.zero_le _, a14_1, a14_3, a14_18, a14_19, (Eq.trans a14_20 (congrArg I (by omega))), (show St H0 NoB (fun b => S b ∧ b < H0.size) [blkE g8 (.cells #[v5] 22), rowE 3 v5 (initC a 0 : List Int), blkE g1 (.cells #[I (a.Signs), vn, vt] 36), rdE vn a.Next, rdE vt a.Takes] H13 from (by have h__ := hS13; rw [← initC_zero] at h__; exact h__))⟩
  intro m15 f15 H15 hI15
  obtain ⟨k, hm15, hk, a15_1, a15_3, a15_18, a15_19, a15_20, hS15⟩ := hI15
  clear a14_1 a14_18 a14_19 a14_20 a14_3
  refine wpF_seq ?_
  refine wpF_cut (fun f H => f 1 = PT g1 0 ∧ f 3 = PT g8 0 ∧ f 18 = vt ∧ f 19 = I ((a.Takes.length : Int)) ∧ f 20 = I ((k : Int)) ∧ f 21 = B (decide ((k : Int) < (a.Takes.length : Int))) ∧ H15 = H) ?_ ?_
  · refine wpF_region ?_
    refine wpL_q (U := NoB) rfl (q_lss rfl a15_20 a15_19) ?_
    exact ⟨a15_1, a15_3, a15_18, a15_19, a15_20, rfl, rfl⟩
  rintro f16 _ ⟨a16_1, a16_3, a16_18, a16_19, a16_20, a16_21, rfl⟩
  clear a15_1 a15_18 a15_19 a15_20 a15_3
  refine wpF_seq ?_
  refine wpF_condP a16_21 (fun hlt => ?t94) (fun hlt => ?e94)
  case t94 =>
    have hil := initC_len (a := a) (k := k)
    refine wpF_skip ?_
    refine wpF_seq ?_
    refine wpF_block ?_
    refine wpF_seq ?_
    refine wpF_cut (fun f H => f 1 = PT g1 0 ∧ f 3 = PT g8 0 ∧ f 4 = I ((k : Int)) ∧ f 5 = B (nth a.Takes k) ∧ f 18 = vt ∧ f 19 = I ((a.Takes.length : Int)) ∧ f 20 = I ((k : Int)) ∧ H15 = H) ?_ ?_
    · refine wpF_region ?_
      refine wpL_q (U := NoB) rfl (q_move (v := I ((k : Int))) rfl a16_20) ?_
      refine wpL_q (U := NoB) rfl (q_indexRd (k := k) rfl Try.underlying32 el_Bool_4_AutoL2 a16_18 a16_20 (hS15.rdl 4 rfl) (by omega) (by omega)) ?_
      refine wpL_q (U := NoB) rfl (q_loadBool (k := k) rfl rfl el_Bool_4_AutoL2 (hS15.rdl 4 rfl) (by omega) (fun _ h => h)) ?_
      refine wpL_q (U := NoB) rfl (q_assign (v := I ((k : Int))) rfl rfl) ?_
      refine wpL_q (U := NoB) rfl (q_assign (v := B (nth a.Takes k)) rfl rfl) ?_
      exact ⟨a16_1, a16_3, rfl, rfl, a16_18, a16_19, a16_20, rfl⟩
    rintro f18 _ ⟨a18_1, a18_3, a18_4, a18_5, a18_18, a18_19, a18_20, rfl⟩
    clear a16_1 a16_18 a16_19 a16_20 a16_21 a16_3
    refine wpF_seq ?_
    refine wpF_cut (fun f H => f 1 = PT g1 0 ∧ f 3 = PT g8 0 ∧ f 4 = I ((k : Int)) ∧ f 18 = vt ∧ f 19 = I ((a.Takes.length : Int)) ∧ f 20 = I ((k : Int)) ∧ f 25 = B (nth a.Takes k) ∧ H15 = H) ?_ ?_
    · refine wpF_region ?_
      refine wpL_q (U := NoB) rfl (q_move (v := B (nth a.Takes k)) rfl a18_5) ?_
      exact ⟨a18_1, a18_3, a18_4, a18_18, a18_19, a18_20, rfl, rfl⟩
    rintro f19 _ ⟨a19_1, a19_3, a19_4, a19_18, a19_19, a19_20, a19_25, rfl⟩
    clear a18_1 a18_18 a18_19 a18_20 a18_3 a18_4 a18_5
    refine wpF_cut (fun f H => f 1 = PT g1 0 ∧ f 3 = PT g8 0 ∧ f 18 = vt ∧ f 19 = I ((a.Takes.length : Int)) ∧ f 20 = I ((k : Int)) ∧ St H0 NoB (fun b => S b ∧ b < H0.size) [blkE g8 (.cells #[v5] 22), rowE 3 v5 (initC a (k + 1) : List Int), blkE g1 (.cells #[I (a.Signs), vn, vt] 36), rdE vn a.Next, rdE vt a.Takes] H) ?_ ?_
    · refine wpF_cond a19_25 (fun hset => ?t26) (fun hset => ?e26)
      case e26 =>
        refine wpF_skip ?_
        exact ⟨a19_1, a19_3, a19_18, a19_19, a19_20, (show St H0 NoB (fun b => S b ∧ b < H0.size) [blkE g8 (.cells #[v5] 22), rowE 3 v5 (initC a (k + 1) : List Int), blkE g1 (.cells #[I (a.Signs), vn, vt] 36), rdE vn a.Next, rdE vt a.Takes] H15 from (by have h__ := hS15; rw [initC_no (by simp [hset])] at h__; exact h__))⟩
      refine wpF_cut (fun f H => f 1 = PT g1 0 ∧ f 3 = PT g8 0 ∧ f 18 = vt ∧ f 19 = I ((a.Takes.length : Int)) ∧ f 20 = I ((k : Int)) ∧ St H0 NoB (fun b => S b ∧ b < H0.size) [rowE 3 v5 ((initC a k).set k 1 : List Int), blkE g8 (.cells #[v5] 22), blkE g1 (.cells #[I (a.Signs), vn, vt] 36), rdE vn a.Next, rdE vt a.Takes] H) ?_ ?_
      · refine wpF_region ?_
        refine wpL_q (U := NoB) rfl (q_loadBlk rfl a19_3 Try.isAgg22 (hS15.blk 0 rfl) rfl (fun h => h)) ?_
        refine wpL_q (U := NoB) rfl (q_move (v := I ((k : Int))) rfl a19_4) ?_
        refine wpL_q (U := NoB) rfl (q_indexRd (k := k) rfl Try.underlying22 el_Int_3_AutoL2 rfl rfl (hS15.rowl 1 rfl) (by omega) (by omega)) ?_
        have hS22 : St H0 NoB (fun b => S b ∧ b < H0.size) [rowE 3 v5 (initC a k : List Int), blkE g8 (.cells #[v5] 22), blkE g1 (.cells #[I (a.Signs), vn, vt] 36), rdE vn a.Next, rdE vt a.Takes] H15 := (hS15.front 1 rfl)
        refine wpL_o rfl ?_
        refine e_rowSet (k := k) (u := I (1)) rfl rfl rfl rfl Try.sizeOf3 (by first | (simp; omega) | omega) hS22 (Rd.int.2 ⟨rfl, by first | assumption | (constructor <;> omega)⟩) (fun H23 hS24 hxx => ?_)
        replace hS24 : St H0 NoB (fun b => S b ∧ b < H0.size) [rowE 3 v5 ((initC a k).set k 1 : List Int), blkE g8 (.cells #[v5] 22), blkE g1 (.cells #[I (a.Signs), vn, vt] 36), rdE vn a.Next, rdE vt a.Takes] H23 := hS24
        exact ⟨a19_1, a19_3, a19_18, a19_19, a19_20, hS24⟩
      rintro f25 H25 ⟨a25_1, a25_3, a25_18, a25_19, a25_20, hS25⟩
      clear a19_1 a19_18 a19_19 a19_20 a19_25 a19_3 a19_4
      exact ⟨a25_1, a25_3, a25_18, a25_19, a25_20, (show St H0 NoB (fun b => S b ∧ b < H0.size) [blkE g8 (.cells #[v5] 22), rowE 3 v5 (initC a (k + 1) : List Int), blkE g1 (.cells #[I (a.Signs), vn, vt] 36), rdE vn a.Next, rdE vt a.Takes] H25 from (by have h__ := (St.drop (show St H0 NoB (fun b => S b ∧ b < H0.size) [blkE g8 (.cells #[v5] 22), rowE 3 v5 ((initC a k).set k 1 : List Int), blkE g1 (.cells #[I (a.Signs), vn, vt] 36), rdE vn a.Next, rdE vt a.Takes] H25 from (hS25.front 1 rfl)) (sk (sk (sk (sk (sk (List.Sublist.slnil))))))); rw [initC_yes hset] at h__; exact h__))⟩
    rintro f20 H20 ⟨a20_1, a20_3, a20_18, a20_19, a20_20, hS20⟩
    clear a19_1 a19_18 a19_19 a19_20 a19_25 a19_3 a19_4
    refine wpF_cut (fun f H => f 1 = PT g1 0 ∧ f 3 = PT g8 0 ∧ f 18 = vt ∧ f 19 = I ((a.Takes.length : Int)) ∧ f 20 = I ((k : Int) + 1) ∧ H20 = H) ?_ ?_
    · refine wpF_region ?_
      refine wpL_q (U := NoB) rfl (q_add rfl a20_20 rfl (by constructor <;> omega)) ?_
      refine wpL_q (U := NoB) rfl (q_move (v := I ((k : Int) + 1)) rfl rfl) ?_
      exact ⟨a20_1, a20_3, a20_18, a20_19, rfl, rfl⟩
    rintro f27 _ ⟨a27_1, a27_3, a27_18, a27_19, a27_20, rfl⟩
    clear a20_1 a20_18 a20_19 a20_20 a20_3
    refine ⟨_, ?_, k + 1, rfl, (by omega), a27_1, a27_3, a27_18, a27_19, (Eq.trans a27_20 (congrArg I (by omega))), hS20⟩
    omega
  refine wpF_exit ?_
  refine atX_here ?_
  refine wpF_block ?_
  refine wpF_loop (fun mz f H => ∃ (m : Nat), ∃ (C : List Int), ∃ (vC : Value), mz = a.Next.length + 1 - (diff C).length ∧ (Cm a m C) ∧ f 1 = PT g1 0 ∧ f 3 = PT g8 0 ∧ St H0 NoB (fun b => S b ∧ b < H0.size) [rowE 3 vC (C : List Int), blkE g8 (.cells #[vC] 22), blkE g1 (.cells #[I (a.Signs), vn, vt] 36), rdE vn a.Next, rdE vt a.Takes] H) (a.Next.length + 1 - (diff (initC a k)).length) ?_ ?_
  · exact ⟨0, initC a k, v5, rfl, (Cm.start hW (by omega)), a16_1, a16_3, (show St H0 NoB (fun b => S b ∧ b < H0.size) [rowE 3 v5 ((initC a k) : List Int), blkE g8 (.cells #[v5] 22), blkE g1 (.cells #[I (a.Signs), vn, vt] 36), rdE vn a.Next, rdE vt a.Takes] H15 from (St.drop (show St H0 NoB (fun b => S b ∧ b < H0.size) [rowE 3 v5 (initC a k : List Int), blkE g8 (.cells #[v5] 22), blkE g1 (.cells #[I (a.Signs), vn, vt] 36), rdE vn a.Next, rdE vt a.Takes] H15 from (hS15.front 1 rfl)) (sk (sk (sk (sk (sk (List.Sublist.slnil))))))))⟩
  intro m28 f28 H28 hI28
  obtain ⟨m, C, vC, hm28, hC, a28_1, a28_3, hS28⟩ := hI28
  clear a16_1 a16_18 a16_19 a16_20 a16_21 a16_3
  refine wpF_block ?_
  refine wpF_seq ?_
  have hCl := hC.len
  have hmr := hC.more hW
  refine wpF_cut (fun f H => f 1 = PT g1 0 ∧ f 3 = PT g8 0 ∧ f 6 = (Value.slice none 0 0) ∧ H28 = H) ?_ ?_
  · refine wpF_region ?_
    refine wpL_q (U := NoB) rfl (q_assign (v := (Value.slice none 0 0)) rfl rfl) ?_
    exact ⟨a28_1, a28_3, rfl, rfl⟩
  rintro f29 _ ⟨a29_1, a29_3, a29_6, rfl⟩
  clear a28_1 a28_3
  have hS30 : St H0 NoB (fun b => S b ∧ b < H0.size) [rowE 3 (Value.slice none 0 0) ([] : List Int), rowE 3 vC (C : List Int), blkE g8 (.cells #[vC] 22), blkE g1 (.cells #[I (a.Signs), vn, vt] 36), rdE vn a.Next, rdE vt a.Takes] H28 := hS28.row0 3
  refine wpF_seq ?_
  refine wpF_cut (fun f H => ∃ (v31 : Value), f 1 = PT g1 0 ∧ f 3 = PT g8 0 ∧ f 6 = (Value.slice none 0 0) ∧ f 7 = v31 ∧ St H0 NoB (fun b => S b ∧ b < H0.size) [rowE 3 v31 (List.replicate C.length (0 : Int) : List Int), rowE 3 (Value.slice none 0 0) ([] : List Int), rowE 3 vC (C : List Int), blkE g8 (.cells #[vC] 22), blkE g1 (.cells #[I (a.Signs), vn, vt] 36), rdE vn a.Next, rdE vt a.Takes] H) ?_ ?_
  · refine wpF_region ?_
    refine wpL_q (U := NoB) rfl (q_loadBlk rfl a29_3 Try.isAgg22 (hS30.blk 2 rfl) rfl (fun h => h)) ?_
    refine wpL_q (U := NoB) rfl (q_lenRd rfl Try.underlying22 rfl (hS30.rowl 1 rfl)) ?_
    refine wpL_o rfl ?_
    refine e_makeSlice (n := C.length) (x0 := ((0 : Int) : Int)) rfl Try.underlying22 Try.zeroValue3 em_Int_3_AutoL2 Try.sizeOf3 rfl rfl (by omega) (fun _ _ => Rd.int.2 ⟨rfl, by decide⟩) hS30 (by have hb : GoT.bytes Int = 8 := rfl; simp [hb]; omega) (by omega) (fun v31 H32 hS33 hxx => ?_)
    replace hS33 : St H0 NoB (fun b => S b ∧ b < H0.size) [rowE 3 v31 (List.replicate C.length (0 : Int) : List Int), rowE 3 (Value.slice none 0 0) ([] : List Int), rowE 3 vC (C : List Int), blkE g8 (.cells #[vC] 22), blkE g1 (.cells #[I (a.Signs), vn, vt] 36), rdE vn a.Next, rdE vt a.Takes] H32 := hS33
    refine wpL_q (U := NoB) rfl (q_assign (v := v31) rfl rfl) ?_
    exact ⟨v31, a29_1, a29_3, a29_6, rfl, hS33⟩
  rintro f34 H34 ⟨v31, a34_1, a34_3, a34_6, a34_7, hS34⟩
  clear a29_1 a29_3 a29_6
  have hS35 : St H0 NoB (fun b => S b ∧ b < H0.size) [rowE 3 v31 (List.replicate a.Next.length 0 : List Int), rowE 3 (Value.slice none 0 0) ([] : List Int), rowE 3 vC (C : List Int), blkE g8 (.cells #[vC] 22), blkE g1 (.cells #[I (a.Signs), vn, vt] 36), rdE vn a.Next, rdE vt a.Takes] H34 := by have h__ := hS34; rw [hC.len] at h__; exact h__
  refine wpF_seq ?_
  refine wpF_seq ?_
  refine wpF_cut (fun f H => f 1 = PT g1 0 ∧ f 3 = PT g8 0 ∧ f 6 = (Value.slice none 0 0) ∧ f 7 = v31 ∧ f 34 = I ((C.length : Int)) ∧ f 35 = I (0) ∧ H34 = H) ?_ ?_
  · refine wpF_region ?_
    refine wpL_q (U := NoB) rfl (q_loadBlk rfl a34_3 Try.isAgg22 (hS35.blk 3 rfl) rfl (fun h => h)) ?_
    refine wpL_q (U := NoB) rfl (q_lenRd rfl Try.underlying22 rfl (hS35.rowl 2 rfl)) ?_
    refine wpL_q (U := NoB) rfl (q_move (v := I (0)) rfl rfl) ?_
    exact ⟨a34_1, a34_3, a34_6, a34_7, rfl, rfl, rfl⟩
  rintro f36 _ ⟨a36_1, a36_3, a36_6, a36_7, a36_34, a36_35, rfl⟩
  clear a34_1 a34_3 a34_6 a34_7
  refine wpF_block ?_
  refine wpF_loop (fun mz f H => ∃ (i : Nat), ∃ (vR : Value), mz = a.Next.length - i ∧ (i ≤ a.Next.length) ∧ f 1 = PT g1 0 ∧ f 3 = PT g8 0 ∧ f 6 = vR ∧ f 7 = v31 ∧ f 34 = I ((C.length : Int)) ∧ f 35 = I ((i : Int)) ∧ St H0 NoB (fun b => S b ∧ b < H0.size) [rowE 3 vR (repsTo (sameC a C) i : List Int), rowE 3 v31 (nxtTo (sameC a C) a.Next.length i : List Int), rowE 3 vC (C : List Int), blkE g8 (.cells #[vC] 22), blkE g1 (.cells #[I (a.Signs), vn, vt] 36), rdE vn a.Next, rdE vt a.Takes] H) (a.Next.length - 0) ?_ ?_
  · exact ⟨0, (Value.slice none 0 0), rfl, Nat.zero_le _, a36_1, a36_3, a36_6, a36_7, a36_34, (Eq.trans a36_35 (congrArg I (by omega))), (show St H0 NoB (fun b => S b ∧ b < H0.size) [rowE 3 (Value.slice none 0 0) (repsTo (sameC a C) 0 : List Int), rowE 3 v31 (nxtTo (sameC a C) a.Next.length 0 : List Int), rowE 3 vC (C : List Int), blkE g8 (.cells #[vC] 22), blkE g1 (.cells #[I (a.Signs), vn, vt] 36), rdE vn a.Next, rdE vt a.Takes] H34 from (by have h__ := (St.drop (show St H0 NoB (fun b => S b ∧ b < H0.size) [rowE 3 (Value.slice none 0 0) ([] : List Int), rowE 3 v31 (List.replicate a.Next.length 0 : List Int), rowE 3 vC (C : List Int), blkE g8 (.cells #[vC] 22), blkE g1 (.cells #[I (a.Signs), vn, vt] 36), rdE vn a.Next, rdE vt a.Takes] H34 from (hS35.front 1 rfl)) (sk (sk (sk (sk (sk (sk (sk (List.Sublist.slnil))))))))); rw [← nxtTo_zero (s := sameC a C)] at h__; exact h__))⟩
  intro m37 f37 H37 hI37
  obtain ⟨i, vR, hm37, hi, a37_1, a37_3, a37_6, a37_7, a37_34, a37_35, hS37⟩ := hI37
  clear a36_1 a36_3 a36_34 a36_35 a36_6 a36_7
  refine wpF_seq ?_
  refine wpF_cut (fun f H => f 1 = PT g1 0 ∧ f 3 = PT g8 0 ∧ f 6 = vR ∧ f 7 = v31 ∧ f 34 = I ((C.length : Int)) ∧ f 35 = I ((i : Int)) ∧ f 36 = B (decide ((i : Int) < (C.length : Int))) ∧ H37 = H) ?_ ?_
  · refine wpF_region ?_
    refine wpL_q (U := NoB) rfl (q_lss rfl a37_35 a37_34) ?_
    exact ⟨a37_1, a37_3, a37_6, a37_7, a37_34, a37_35, rfl, rfl⟩
  rintro f38 _ ⟨a38_1, a38_3, a38_6, a38_7, a38_34, a38_35, a38_36, rfl⟩
  clear a37_1 a37_3 a37_34 a37_35 a37_6 a37_7
  refine wpF_seq ?_
  refine wpF_condP a38_36 (fun hlt2 => ?t93) (fun hlt2 => ?e93)
  case t93 =>
    have hrr := reps_rng hW hC (i := i) (by omega)
    refine wpF_skip ?_
    refine wpF_seq ?_
    refine wpF_block ?_
    refine wpF_seq ?_
    refine wpF_cut (fun f H => ∃ (g40 : Nat), f 1 = PT g1 0 ∧ f 3 = PT g8 0 ∧ f 6 = vR ∧ f 7 = v31 ∧ f 8 = PT g40 0 ∧ f 34 = I ((C.length : Int)) ∧ f 35 = I ((i : Int)) ∧ St H0 NoB (fun b => S b ∧ b < H0.size) [blkE g40 (.cells #[I ((i : Int))] 3), rowE 3 vR (repsTo (sameC a C) i : List Int), rowE 3 v31 (nxtTo (sameC a C) a.Next.length i : List Int), rowE 3 vC (C : List Int), blkE g8 (.cells #[vC] 22), blkE g1 (.cells #[I (a.Signs), vn, vt] 36), rdE vn a.Next, rdE vt a.Takes] H) ?_ ?_
    · refine wpF_region ?_
      refine wpL_q (U := NoB) rfl (q_move (v := I ((i : Int))) rfl a38_35) ?_
      refine wpL_o rfl ?_
      refine e_alloc rfl Try.zeroValue3 hS37 (fun g40 H41 hS42 hxx => ?_)
      replace hS42 : St H0 NoB (fun b => S b ∧ b < H0.size) [blkE g40 (.cells #[I (0)] 3), rowE 3 vR (repsTo (sameC a C) i : List Int), rowE 3 v31 (nxtTo (sameC a C) a.Next.length i : List Int), rowE 3 vC (C : List Int), blkE g8 (.cells #[vC] 22), blkE g1 (.cells #[I (a.Signs), vn, vt] 36), rdE vn a.Next, rdE vt a.Takes] H41 := hS42
      refine wpL_o rfl ?_
      refine e_storeBlk (v := I ((i : Int))) rfl rfl rfl rfl Try.sizeOf3 (by show _ < 1; decide) hS42 (fun H43 hS44 hxx => ?_)
      replace hS44 : St H0 NoB (fun b => S b ∧ b < H0.size) [blkE g40 (.cells #[I ((i : Int))] 3), rowE 3 vR (repsTo (sameC a C) i : List Int), rowE 3 v31 (nxtTo (sameC a C) a.Next.length i : List Int), rowE 3 vC (C : List Int), blkE g8 (.cells #[vC] 22), blkE g1 (.cells #[I (a.Signs), vn, vt] 36), rdE vn a.Next, rdE vt a.Takes] H43 := hS44
      exact ⟨g40, a38_1, a38_3, a38_6, a38_7, rfl, a38_34, a38_35, hS44⟩
    rintro f45 H45 ⟨g40, a45_1, a45_3, a45_6, a45_7, a45_8, a45_34, a45_35, hS45⟩
    clear a38_1 a38_3 a38_34 a38_35 a38_36 a38_6 a38_7
    refine wpF_seq ?_
    refine wpF_cut (fun f H => f 1 = PT g1 0 ∧ f 3 = PT g8 0 ∧ f 6 = vR ∧ f 7 = v31 ∧ f 8 = PT g40 0 ∧ f 9 = I (idxOf (fun j => sameC a C (i : Int) j) (repsTo (sameC a C) i)) ∧ f 34 = I ((C.length : Int)) ∧ f 35 = I ((i : Int)) ∧ St H0 NoB (fun b => S b ∧ b < H0.size) [blkE g40 (.cells #[I ((i : Int))] 3), rowE 3 vR (repsTo (sameC a C) i : List Int), rowE 3 v31 (nxtTo (sameC a C) a.Next.length i : List Int), rowE 3 vC (C : List Int), blkE g8 (.cells #[vC] 22), blkE g1 (.cells #[I (a.Signs), vn, vt] 36), rdE vn a.Next, rdE vt a.Takes] H) ?_ ?_
    · refine wpF_region ?_
      refine wpL_q (U := NoB) rfl (q_move (v := vR) rfl a45_6) ?_
      refine wpL_q (U := NoB) rfl (q_makeFunc (fi' := #[]) rfl (by simp) (arr3 (v0 := PT g8 0) (v1 := PT g40 0) (v2 := PT g1 0) a45_3 a45_8 a45_1)) ?_
      refine wpL_o rfl ?_
      refine e_call rfl Try.call50 (arr2 (v0 := vR) (v1 := Value.func (.func 78) #[] #[PT g8 0, PT g40 0, PT g1 0]) rfl rfl) (IndexFunc vR (Value.func (.func 78) #[] #[PT g8 0, PT g40 0, PT g1 0]) (repsTo (sameC a C) i) (fun j => sameC a C (i : Int) j) (hS45.rowN 1 rfl) (fun x hx H hE => ⟨_, _, rfl, Try.call78, classes_1 x (i : Int) g8 g40 g1 vC _ vn vt C a (hE.blk (hS45.blk 4 rfl)) (hE.blk (hS45.blk 0 rfl)) (hE.blk (hS45.blk 5 rfl)) ((hS45.rowN 3 rfl).extN hE) ((hS45.rdN 6 rfl).extN hE) hW hC.len (by omega) (hrr.1 x hx)⟩)) ?_
      rintro _ H46 ⟨hxx, rfl⟩
      have hS47 : St H0 NoB (fun b => S b ∧ b < H0.size) [blkE g40 (.cells #[I ((i : Int))] 3), rowE 3 vR (repsTo (sameC a C) i : List Int), rowE 3 v31 (nxtTo (sameC a C) a.Next.length i : List Int), rowE 3 vC (C : List Int), blkE g8 (.cells #[vC] 22), blkE g1 (.cells #[I (a.Signs), vn, vt] 36), rdE vn a.Next, rdE vt a.Takes] H46 := hS45.ext hxx
      refine wpL_q (U := NoB) rfl (q_assign (v := I (idxOf (fun j => sameC a C (i : Int) j) (repsTo (sameC a C) i))) rfl rfl) ?_
      exact ⟨a45_1, a45_3, a45_6, a45_7, a45_8, rfl, a45_34, a45_35, hS47⟩
    rintro f49 H49 ⟨a49_1, a49_3, a49_6, a49_7, a49_8, a49_9, a49_34, a49_35, hS49⟩
    clear a45_1 a45_3 a45_34 a45_35 a45_6 a45_7 a45_8
    refine wpF_seq ?_
    refine wpF_seq ?_
    refine wpF_cut (fun f H => f 1 = PT g1 0 ∧ f 3 = PT g8 0 ∧ f 6 = vR ∧ f 7 = v31 ∧ f 8 = PT g40 0 ∧ f 9 = I (idxOf (fun j => sameC a C (i : Int) j) (repsTo (sameC a C) i)) ∧ f 34 = I ((C.length : Int)) ∧ f 35 = I ((i : Int)) ∧ f 42 = B (decide ((idxOf (fun j => sameC a C (i : Int) j) (repsTo (sameC a C) i)) < 0)) ∧ H49 = H) ?_ ?_
    · refine wpF_region ?_
      refine wpL_q (U := NoB) rfl (q_move (v := I (idxOf (fun j => sameC a C (i : Int) j) (repsTo (sameC a C) i))) rfl a49_9) ?_
      refine wpL_q (U := NoB) rfl (q_lss rfl rfl rfl) ?_
      exact ⟨a49_1, a49_3, a49_6, a49_7, a49_8, a49_9, a49_34, a49_35, rfl, rfl⟩
    rintro f50 _ ⟨a50_1, a50_3, a50_6, a50_7, a50_8, a50_9, a50_34, a50_35, a50_42, rfl⟩
    clear a49_1 a49_3 a49_34 a49_35 a49_6 a49_7 a49_8 a49_9
    refine wpF_cut (fun f H => ∃ (vN : Value), ∃ (kk : Int), (kk = numC (sameC a C) i) ∧ f 1 = PT g1 0 ∧ f 3 = PT g8 0 ∧ f 6 = vN ∧ f 7 = v31 ∧ f 8 = PT g40 0 ∧ f 9 = I (kk) ∧ f 34 = I ((C.length : Int)) ∧ f 35 = I ((i : Int)) ∧ St H0 NoB (fun b => S b ∧ b < H0.size) [rowE 3 vN (repsTo (sameC a C) (i + 1) : List Int), blkE g40 (.cells #[I ((i : Int))] 3), rowE 3 v31 (nxtTo (sameC a C) a.Next.length i : List Int), rowE 3 vC (C : List Int), blkE g8 (.cells #[vC] 22), blkE g1 (.cells #[I (a.Signs), vn, vt] 36), rdE vn a.Next, rdE vt a.Takes] H) ?_ ?_
    · refine wpF_condP a50_42 (fun hneg => ?t64) (fun hneg => ?e64)
      case e64 =>
        refine wpF_skip ?_
        exact ⟨vR, idxOf (fun j => sameC a C (i : Int) j) (repsTo (sameC a C) i), (repsTo_no hneg).2, a50_1, a50_3, a50_6, a50_7, a50_8, (Eq.trans a50_9 (congrArg I (by omega))), a50_34, a50_35, (show St H0 NoB (fun b => S b ∧ b < H0.size) [rowE 3 vR (repsTo (sameC a C) (i + 1) : List Int), blkE g40 (.cells #[I ((i : Int))] 3), rowE 3 v31 (nxtTo (sameC a C) a.Next.length i : List Int), rowE 3 vC (C : List Int), blkE g8 (.cells #[vC] 22), blkE g1 (.cells #[I (a.Signs), vn, vt] 36), rdE vn a.Next, rdE vt a.Takes] H49 from (by have h__ := (St.drop (show St H0 NoB (fun b => S b ∧ b < H0.size) [rowE 3 vR (repsTo (sameC a C) i : List Int), blkE g40 (.cells #[I ((i : Int))] 3), rowE 3 v31 (nxtTo (sameC a C) a.Next.length i : List Int), rowE 3 vC (C : List Int), blkE g8 (.cells #[vC] 22), blkE g1 (.cells #[I (a.Signs), vn, vt] 36), rdE vn a.Next, rdE vt a.Takes] H49 from (hS49.front 1 rfl)) (sk (sk (sk (sk (sk (sk (sk (sk (List.Sublist.slnil)))))))))); rw [← (repsTo_no hneg).1] at h__; exact h__))⟩
      refine wpF_seq ?_
      refine wpF_cut (fun f H => f 1 = PT g1 0 ∧ f 3 = PT g8 0 ∧ f 6 = vR ∧ f 7 = v31 ∧ f 8 = PT g40 0 ∧ f 9 = I (((repsTo (sameC a C) i).length : Int)) ∧ f 34 = I ((C.length : Int)) ∧ f 35 = I ((i : Int)) ∧ H49 = H) ?_ ?_
      · refine wpF_region ?_
        refine wpL_q (U := NoB) rfl (q_move (v := vR) rfl a50_6) ?_
        refine wpL_q (U := NoB) rfl (q_lenRd rfl Try.underlying22 rfl (hS49.rowl 1 rfl)) ?_
        refine wpL_q (U := NoB) rfl (q_assign (v := I (((repsTo (sameC a C) i).length : Int))) rfl rfl) ?_
        exact ⟨a50_1, a50_3, a50_6, a50_7, a50_8, rfl, a50_34, a50_35, rfl⟩
      rintro f53 _ ⟨a53_1, a53_3, a53_6, a53_7, a53_8, a53_9, a53_34, a53_35, rfl⟩
      clear a50_1 a50_3 a50_34 a50_35 a50_42 a50_6 a50_7 a50_8 a50_9
      refine wpF_cut (fun f H => ∃ (v59 : Value), f 1 = PT g1 0 ∧ f 3 = PT g8 0 ∧ f 6 = v59 ∧ f 7 = v31 ∧ f 8 = PT g40 0 ∧ f 9 = I (((repsTo (sameC a C) i).length : Int)) ∧ f 34 = I ((C.length : Int)) ∧ f 35 = I ((i : Int)) ∧ St H0 NoB (fun b => S b ∧ b < H0.size) [rowE 3 v59 (repsTo (sameC a C) (i + 1) : List Int), blkE g40 (.cells #[I ((i : Int))] 3), rowE 3 v31 (nxtTo (sameC a C) a.Next.length i : List Int), rowE 3 vC (C : List Int), blkE g8 (.cells #[vC] 22), blkE g1 (.cells #[I (a.Signs), vn, vt] 36), rdE vn a.Next, rdE vt a.Takes] H) ?_ ?_
      · refine wpF_region ?_
        refine wpL_q (U := NoB) rfl (q_move (v := vR) rfl a53_6) ?_
        refine wpL_q (U := NoB) rfl (q_loadBlk rfl a53_8 Try.isAgg3 (hS49.blk 0 rfl) rfl (fun h => h)) ?_
        refine wpL_o rfl ?_
        refine e_buildSlice (vs := [I ((i : Int))]) (xs := ([(i : Int)] : List Int)) rfl Try.underlying22 Try.zeroValue3 rfl Try.sizeOf3 (par1 (v0 := I ((i : Int))) rfl) rfl hS49 (RdVs.cons (Rd.int.2 ⟨rfl, by first | assumption | (constructor <;> omega)⟩) (RdVs.nil)) (by decide) (by decide) (fun v54 H55 hS56 hxx hvv54 => ?_)
        replace hS56 : St H0 NoB (fun b => S b ∧ b < H0.size) [rowE 3 v54 ([(i : Int)] : List Int), blkE g40 (.cells #[I ((i : Int))] 3), rowE 3 vR (repsTo (sameC a C) i : List Int), rowE 3 v31 (nxtTo (sameC a C) a.Next.length i : List Int), rowE 3 vC (C : List Int), blkE g8 (.cells #[vC] 22), blkE g1 (.cells #[I (a.Signs), vn, vt] 36), rdE vn a.Next, rdE vt a.Takes] H55 := hS56
        have hS57 : St H0 NoB (fun b => S b ∧ b < H0.size) [rdE v54 ([(i : Int)] : List Int), blkE g40 (.cells #[I ((i : Int))] 3), rowE 3 vR (repsTo (sameC a C) i : List Int), rowE 3 v31 (nxtTo (sameC a C) a.Next.length i : List Int), rowE 3 vC (C : List Int), blkE g8 (.cells #[vC] 22), blkE g1 (.cells #[I (a.Signs), vn, vt] 36), rdE vn a.Next, rdE vt a.Takes] H55 := St.fin hS56
        have hS58 : St H0 NoB (fun b => S b ∧ b < H0.size) [rowE 3 vR (repsTo (sameC a C) i : List Int), rdE v54 ([(i : Int)] : List Int), blkE g40 (.cells #[I ((i : Int))] 3), rowE 3 v31 (nxtTo (sameC a C) a.Next.length i : List Int), rowE 3 vC (C : List Int), blkE g8 (.cells #[vC] 22), blkE g1 (.cells #[I (a.Signs), vn, vt] 36), rdE vn a.Next, rdE vt a.Takes] H55 := (hS57.front 2 rfl)
        refine wpL_o rfl ?_
        refine e_append rfl Try.underlying22 em_Int_3_AutoL2 rfl rfl hS58 (hS58.rdS 1 rfl) (fun _ h => h) (by have hb : GoT.bytes Int = 8 := rfl; have hr40 := hrr.2; simp [hb]; omega) (by decide) (fun v59 H60 hS61 hxx => ?_)
        replace hS61 : St H0 NoB (fun b => S b ∧ b < H0.size) [rowE 3 v59 ((repsTo (sameC a C) i) ++ ([(i : Int)]) : List Int), rdE v54 ([(i : Int)] : List Int), blkE g40 (.cells #[I ((i : Int))] 3), rowE 3 v31 (nxtTo (sameC a C) a.Next.length i : List Int), rowE 3 vC (C : List Int), blkE g8 (.cells #[vC] 22), blkE g1 (.cells #[I (a.Signs), vn, vt] 36), rdE vn a.Next, rdE vt a.Takes] H60 := hS61
        have hS62 : St H0 NoB (fun b => S b ∧ b < H0.size) [rowE 3 v59 (repsTo (sameC a C) (i + 1) : List Int), rdE v54 ([(i : Int)] : List Int), blkE g40 (.cells #[I ((i : Int))] 3), rowE 3 v31 (nxtTo (sameC a C) a.Next.length i : List Int), rowE 3 vC (C : List Int), blkE g8 (.cells #[vC] 22), blkE g1 (.cells #[I (a.Signs), vn, vt] 36), rdE vn a.Next, rdE vt a.Takes] H60 := by rw [show (repsTo (sameC a C) (i + 1)) = ((repsTo (sameC a C) i) ++ ([(i : Int)])) from (repsTo_yes hneg).1]; exact hS61
        refine wpL_q (U := NoB) rfl (q_assign (v := v59) rfl rfl) ?_
        exact ⟨v59, a53_1, a53_3, rfl, a53_7, a53_8, a53_9, a53_34, a53_35, (hS62.drop (sk (sn (sk (sk (sk (sk (sk (sk (sk (List.Sublist.slnil)))))))))))⟩
      rintro f63 H63 ⟨v59, a63_1, a63_3, a63_6, a63_7, a63_8, a63_9, a63_34, a63_35, hS63⟩
      clear a53_1 a53_3 a53_34 a53_35 a53_6 a53_7 a53_8 a53_9
      exact ⟨v59, ((repsTo (sameC a C) i).length : Int), (repsTo_yes hneg).2, a63_1, a63_3, a63_6, a63_7, a63_8, (Eq.trans a63_9 (congrArg I (by omega))), a63_34, a63_35, hS63⟩
    rintro f51 H51 ⟨vN, kk, hkk, a51_1, a51_3, a51_6, a51_7, a51_8, a51_9, a51_34, a51_35, hS51⟩
    clear a50_1 a50_3 a50_34 a50_35 a50_42 a50_6 a50_7 a50_8 a50_9
    have hkb := numC_rng hW hC (i := i) (by omega)
    rw [← hkk] at hkb
    have hnl := nxtTo_len (s := sameC a C) (n := a.Next.length) (i := i)
    refine wpF_cut (fun f H => f 1 = PT g1 0 ∧ f 3 = PT g8 0 ∧ f 6 = vN ∧ f 7 = v31 ∧ f 34 = I ((C.length : Int)) ∧ f 35 = I ((i : Int)) ∧ St H0 NoB (fun b => S b ∧ b < H0.size) [rowE 3 v31 ((nxtTo (sameC a C) a.Next.length i).set i kk : List Int), rowE 3 vN (repsTo (sameC a C) (i + 1) : List Int), blkE g40 (.cells #[I ((i : Int))] 3), rowE 3 vC (C : List Int), blkE g8 (.cells #[vC] 22), blkE g1 (.cells #[I (a.Signs), vn, vt] 36), rdE vn a.Next, rdE vt a.Takes] H) ?_ ?_
    · refine wpF_region ?_
      refine wpL_q (U := NoB) rfl (q_move (v := v31) rfl a51_7) ?_
      refine wpL_q (U := NoB) rfl (q_loadBlk rfl a51_8 Try.isAgg3 (hS51.blk 1 rfl) rfl (fun h => h)) ?_
      refine wpL_q (U := NoB) rfl (q_move (v := I (kk)) rfl a51_9) ?_
      refine wpL_q (U := NoB) rfl (q_indexRd (k := i) rfl Try.underlying22 el_Int_3_AutoL2 rfl rfl (hS51.rowl 2 rfl) (by omega) (by omega)) ?_
      have hS65 : St H0 NoB (fun b => S b ∧ b < H0.size) [rowE 3 v31 (nxtTo (sameC a C) a.Next.length i : List Int), rowE 3 vN (repsTo (sameC a C) (i + 1) : List Int), blkE g40 (.cells #[I ((i : Int))] 3), rowE 3 vC (C : List Int), blkE g8 (.cells #[vC] 22), blkE g1 (.cells #[I (a.Signs), vn, vt] 36), rdE vn a.Next, rdE vt a.Takes] H51 := (hS51.front 2 rfl)
      refine wpL_o rfl ?_
      refine e_rowSet (k := i) (u := I (kk)) rfl rfl rfl rfl Try.sizeOf3 (by first | (simp; omega) | omega) hS65 (Rd.int.2 ⟨rfl, by first | assumption | (constructor <;> omega)⟩) (fun H66 hS67 hxx => ?_)
      replace hS67 : St H0 NoB (fun b => S b ∧ b < H0.size) [rowE 3 v31 ((nxtTo (sameC a C) a.Next.length i).set i kk : List Int), rowE 3 vN (repsTo (sameC a C) (i + 1) : List Int), blkE g40 (.cells #[I ((i : Int))] 3), rowE 3 vC (C : List Int), blkE g8 (.cells #[vC] 22), blkE g1 (.cells #[I (a.Signs), vn, vt] 36), rdE vn a.Next, rdE vt a.Takes] H66 := hS67
      exact ⟨a51_1, a51_3, a51_6, a51_7, a51_34, a51_35, hS67⟩
    rintro f68 H68 ⟨a68_1, a68_3, a68_6, a68_7, a68_34, a68_35, hS68⟩
    clear a51_1 a51_3 a51_34 a51_35 a51_6 a51_7 a51_8 a51_9
    refine wpF_cut (fun f H => f 1 = PT g1 0 ∧ f 3 = PT g8 0 ∧ f 6 = vN ∧ f 7 = v31 ∧ f 34 = I ((C.length : Int)) ∧ f 35 = I ((i : Int) + 1) ∧ H68 = H) ?_ ?_
    · refine wpF_region ?_
      refine wpL_q (U := NoB) rfl (q_add rfl a68_35 rfl (by constructor <;> omega)) ?_
      refine wpL_q (U := NoB) rfl (q_move (v := I ((i : Int) + 1)) rfl rfl) ?_
      exact ⟨a68_1, a68_3, a68_6, a68_7, a68_34, rfl, rfl⟩
    rintro f69 _ ⟨a69_1, a69_3, a69_6, a69_7, a69_34, a69_35, rfl⟩
    clear a68_1 a68_3 a68_34 a68_35 a68_6 a68_7
    refine ⟨_, ?_, i + 1, vN, rfl, (by omega), a69_1, a69_3, a69_6, a69_7, a69_34, (Eq.trans a69_35 (congrArg I (by omega))), (show St H0 NoB (fun b => S b ∧ b < H0.size) [rowE 3 vN (repsTo (sameC a C) (i + 1) : List Int), rowE 3 v31 (nxtTo (sameC a C) a.Next.length (i + 1) : List Int), rowE 3 vC (C : List Int), blkE g8 (.cells #[vC] 22), blkE g1 (.cells #[I (a.Signs), vn, vt] 36), rdE vn a.Next, rdE vt a.Takes] H68 from (by have h__ := (St.drop (show St H0 NoB (fun b => S b ∧ b < H0.size) [rowE 3 vN (repsTo (sameC a C) (i + 1) : List Int), rowE 3 v31 ((nxtTo (sameC a C) a.Next.length i).set i kk : List Int), blkE g40 (.cells #[I ((i : Int))] 3), rowE 3 vC (C : List Int), blkE g8 (.cells #[vC] 22), blkE g1 (.cells #[I (a.Signs), vn, vt] 36), rdE vn a.Next, rdE vt a.Takes] H68 from (hS68.front 1 rfl)) (sk (sk (sn (sk (sk (sk (sk (sk (List.Sublist.slnil)))))))))); rw [hkk, nxtTo_set] at h__; exact h__))⟩
    omega
  obtain rfl : i = a.Next.length := by omega
  refine wpF_exit ?_
  refine atX_here ?_
  refine wpF_seq ?_
  refine wpF_cut (fun f H => ∃ (r70 : Nat), f 1 = PT g1 0 ∧ f 3 = PT g8 0 ∧ f 6 = vR ∧ f 7 = v31 ∧ f 10 = (Value.map (some r70)) ∧ St H0 NoB (fun b => S b ∧ b < H0.size) [mapE r70 ([] : List (Int × Bool)), rowE 3 vR (repsTo (sameC a C) a.Next.length : List Int), rowE 3 v31 (nxtTo (sameC a C) a.Next.length a.Next.length : List Int), rowE 3 vC (C : List Int), blkE g8 (.cells #[vC] 22), blkE g1 (.cells #[I (a.Signs), vn, vt] 36), rdE vn a.Next, rdE vt a.Takes] H) ?_ ?_
  · refine wpF_region ?_
    refine wpL_o rfl ?_
    refine e_makeMap (κ := Int) (β := Bool) rfl hS37 (fun r70 H71 hS72 hxx => ?_)
    replace hS72 : St H0 NoB (fun b => S b ∧ b < H0.size) [mapE r70 ([] : List (Int × Bool)), rowE 3 vR (repsTo (sameC a C) a.Next.length : List Int), rowE 3 v31 (nxtTo (sameC a C) a.Next.length a.Next.length : List Int), rowE 3 vC (C : List Int), blkE g8 (.cells #[vC] 22), blkE g1 (.cells #[I (a.Signs), vn, vt] 36), rdE vn a.Next, rdE vt a.Takes] H71 := hS72
    refine wpL_q (U := NoB) rfl (q_assign (v := (Value.map (some r70))) rfl rfl) ?_
    exact ⟨r70, a38_1, a38_3, a38_6, a38_7, rfl, hS72⟩
  rintro f73 H73 ⟨r70, a73_1, a73_3, a73_6, a73_7, a73_10, hS73⟩
  clear a38_1 a38_3 a38_34 a38_35 a38_36 a38_6 a38_7
  refine wpF_seq ?_
  refine wpF_seq ?_
  refine wpF_cut (fun f H => f 1 = PT g1 0 ∧ f 3 = PT g8 0 ∧ f 6 = vR ∧ f 7 = v31 ∧ f 10 = (Value.map (some r70)) ∧ f 55 = vC ∧ f 56 = I ((C.length : Int)) ∧ f 57 = I (0) ∧ H73 = H) ?_ ?_
  · refine wpF_region ?_
    refine wpL_q (U := NoB) rfl (q_loadBlk rfl a73_3 Try.isAgg22 (hS73.blk 4 rfl) rfl (fun h => h)) ?_
    refine wpL_q (U := NoB) rfl (q_lenRd rfl Try.underlying22 rfl (hS73.rowl 3 rfl)) ?_
    refine wpL_q (U := NoB) rfl (q_move (v := I (0)) rfl rfl) ?_
    exact ⟨a73_1, a73_3, a73_6, a73_7, a73_10, rfl, rfl, rfl, rfl⟩
  rintro f74 _ ⟨a74_1, a74_3, a74_6, a74_7, a74_10, a74_55, a74_56, a74_57, rfl⟩
  clear a73_1 a73_10 a73_3 a73_6 a73_7
  refine wpF_block ?_
  refine wpF_loop (fun mz f H => ∃ (q : Nat), ∃ (mm : List (Int × Bool)), mz = C.length - q ∧ (q ≤ C.length) ∧ (mm.map (·.1) = diff (C.take q)) ∧ f 1 = PT g1 0 ∧ f 3 = PT g8 0 ∧ f 6 = vR ∧ f 7 = v31 ∧ f 10 = (Value.map (some r70)) ∧ f 55 = vC ∧ f 56 = I ((C.length : Int)) ∧ f 57 = I ((q : Int)) ∧ St H0 NoB (fun b => S b ∧ b < H0.size) [mapE r70 (mm : List (Int × Bool)), rowE 3 vR (repsTo (sameC a C) a.Next.length : List Int), rowE 3 v31 (nxtTo (sameC a C) a.Next.length a.Next.length : List Int), rowE 3 vC (C : List Int), blkE g8 (.cells #[vC] 22), blkE g1 (.cells #[I (a.Signs), vn, vt] 36), rdE vn a.Next, rdE vt a.Takes] H) (C.length - 0) ?_ ?_
  · exact ⟨0, [], rfl, Nat.zero_le _, rfl, a74_1, a74_3, a74_6, a74_7, a74_10, a74_55, a74_56, (Eq.trans a74_57 (congrArg I (by omega))), (show St H0 NoB (fun b => S b ∧ b < H0.size) [mapE r70 (([]) : List (Int × Bool)), rowE 3 vR (repsTo (sameC a C) a.Next.length : List Int), rowE 3 v31 (nxtTo (sameC a C) a.Next.length a.Next.length : List Int), rowE 3 vC (C : List Int), blkE g8 (.cells #[vC] 22), blkE g1 (.cells #[I (a.Signs), vn, vt] 36), rdE vn a.Next, rdE vt a.Takes] H73 from hS73)⟩
  intro m75 f75 H75 hI75
  obtain ⟨q, mm, hm75, hq, hmm, a75_1, a75_3, a75_6, a75_7, a75_10, a75_55, a75_56, a75_57, hS75⟩ := hI75
  clear a74_1 a74_10 a74_3 a74_55 a74_56 a74_57 a74_6 a74_7
  refine wpF_seq ?_
  refine wpF_cut (fun f H => f 1 = PT g1 0 ∧ f 3 = PT g8 0 ∧ f 6 = vR ∧ f 7 = v31 ∧ f 10 = (Value.map (some r70)) ∧ f 55 = vC ∧ f 56 = I ((C.length : Int)) ∧ f 57 = I ((q : Int)) ∧ f 58 = B (decide ((q : Int) < (C.length : Int))) ∧ H75 = H) ?_ ?_
  · refine wpF_region ?_
    refine wpL_q (U := NoB) rfl (q_lss rfl a75_57 a75_56) ?_
    exact ⟨a75_1, a75_3, a75_6, a75_7, a75_10, a75_55, a75_56, a75_57, rfl, rfl⟩
  rintro f76 _ ⟨a76_1, a76_3, a76_6, a76_7, a76_10, a76_55, a76_56, a76_57, a76_58, rfl⟩
  clear a75_1 a75_10 a75_3 a75_55 a75_56 a75_57 a75_6 a75_7
  refine wpF_seq ?_
  refine wpF_condP a76_58 (fun hlt3 => ?t92) (fun hlt3 => ?e92)
  case t92 =>
    refine wpF_skip ?_
    refine wpF_seq ?_
    refine wpF_block ?_
    refine wpF_seq ?_
    refine wpF_cut (fun f H => f 1 = PT g1 0 ∧ f 3 = PT g8 0 ∧ f 6 = vR ∧ f 7 = v31 ∧ f 10 = (Value.map (some r70)) ∧ f 12 = I (nth C q) ∧ f 55 = vC ∧ f 56 = I ((C.length : Int)) ∧ f 57 = I ((q : Int)) ∧ H75 = H) ?_ ?_
    · refine wpF_region ?_
      refine wpL_q (U := NoB) rfl (q_indexRd (k := q) rfl Try.underlying22 el_Int_3_AutoL2 a76_55 a76_57 (hS75.rowl 3 rfl) (by omega) (by omega)) ?_
      refine wpL_q (U := NoB) rfl (q_loadInt (k := q) rfl rfl el_Int_3_AutoL2 (hS75.rowl 3 rfl) (by omega) (fun _ h => h)) ?_
      refine wpL_q (U := NoB) rfl (q_assign (v := I (nth C q)) rfl rfl) ?_
      exact ⟨a76_1, a76_3, a76_6, a76_7, a76_10, rfl, a76_55, a76_56, a76_57, rfl⟩
    rintro f78 _ ⟨a78_1, a78_3, a78_6, a78_7, a78_10, a78_12, a78_55, a78_56, a78_57, rfl⟩
    clear a76_1 a76_10 a76_3 a76_55 a76_56 a76_57 a76_58 a76_6 a76_7
    refine wpF_cut (fun f H => f 1 = PT g1 0 ∧ f 3 = PT g8 0 ∧ f 6 = vR ∧ f 7 = v31 ∧ f 10 = (Value.map (some r70)) ∧ f 55 = vC ∧ f 56 = I ((C.length : Int)) ∧ f 57 = I ((q : Int)) ∧ St H0 NoB (fun b => S b ∧ b < H0.size) [mapE r70 (mset mm (nth C q) true : List (Int × Bool)), rowE 3 vR (repsTo (sameC a C) a.Next.length : List Int), rowE 3 v31 (nxtTo (sameC a C) a.Next.length a.Next.length : List Int), rowE 3 vC (C : List Int), blkE g8 (.cells #[vC] 22), blkE g1 (.cells #[I (a.Signs), vn, vt] 36), rdE vn a.Next, rdE vt a.Takes] H) ?_ ?_
    · refine wpF_region ?_
      refine wpL_q (U := NoB) rfl (q_move (v := (Value.map (some r70))) rfl a78_10) ?_
      refine wpL_q (U := NoB) rfl (q_move (v := I (nth C q)) rfl a78_12) ?_
      have hS79 : St H0 NoB (fun b => S b ∧ b < H0.size) [mapE r70 (mm : List (Int × Bool)), rowE 3 vR (repsTo (sameC a C) a.Next.length : List Int), rowE 3 v31 (nxtTo (sameC a C) a.Next.length a.Next.length : List Int), rowE 3 vC (C : List Int), blkE g8 (.cells #[vC] 22), blkE g1 (.cells #[I (a.Signs), vn, vt] 36), rdE vn a.Next, rdE vt a.Takes] H75 := hS75
      refine wpL_o rfl ?_
      refine e_mapUpdate (k := (nth C q)) (.inl rfl) Try.underlying103 (keyLaw_int Try.underlying3) rfl rfl rfl hS79 (Rd.bool.2 rfl) (fun H80 hS81 hxx => ?_)
      replace hS81 : St H0 NoB (fun b => S b ∧ b < H0.size) [mapE r70 (mset mm (nth C q) true : List (Int × Bool)), rowE 3 vR (repsTo (sameC a C) a.Next.length : List Int), rowE 3 v31 (nxtTo (sameC a C) a.Next.length a.Next.length : List Int), rowE 3 vC (C : List Int), blkE g8 (.cells #[vC] 22), blkE g1 (.cells #[I (a.Signs), vn, vt] 36), rdE vn a.Next, rdE vt a.Takes] H80 := hS81
      exact ⟨a78_1, a78_3, a78_6, a78_7, a78_10, a78_55, a78_56, a78_57, hS81⟩
    rintro f82 H82 ⟨a82_1, a82_3, a82_6, a82_7, a82_10, a82_55, a82_56, a82_57, hS82⟩
    clear a78_1 a78_10 a78_12 a78_3 a78_55 a78_56 a78_57 a78_6 a78_7
    refine wpF_cut (fun f H => f 1 = PT g1 0 ∧ f 3 = PT g8 0 ∧ f 6 = vR ∧ f 7 = v31 ∧ f 10 = (Value.map (some r70)) ∧ f 55 = vC ∧ f 56 = I ((C.length : Int)) ∧ f 57 = I ((q : Int) + 1) ∧ H82 = H) ?_ ?_
    · refine wpF_region ?_
      refine wpL_q (U := NoB) rfl (q_add rfl a82_57 rfl (by constructor <;> omega)) ?_
      refine wpL_q (U := NoB) rfl (q_move (v := I ((q : Int) + 1)) rfl rfl) ?_
      exact ⟨a82_1, a82_3, a82_6, a82_7, a82_10, a82_55, a82_56, rfl, rfl⟩
    rintro f83 _ ⟨a83_1, a83_3, a83_6, a83_7, a83_10, a83_55, a83_56, a83_57, rfl⟩
    clear a82_1 a82_10 a82_3 a82_55 a82_56 a82_57 a82_6 a82_7
    refine ⟨_, ?_, q + 1, mset mm (nth C q) true, rfl, (by omega), (keys_step (by omega) hmm), a83_1, a83_3, a83_6, a83_7, a83_10, a83_55, a83_56, (Eq.trans a83_57 (congrArg I (by omega))), (show St H0 NoB (fun b => S b ∧ b < H0.size) [mapE r70 ((mset mm (nth C q) true) : List (Int × Bool)), rowE 3 vR (repsTo (sameC a C) a.Next.length : List Int), rowE 3 v31 (nxtTo (sameC a C) a.Next.length a.Next.length : List Int), rowE 3 vC (C : List Int), blkE g8 (.cells #[vC] 22), blkE g1 (.cells #[I (a.Signs), vn, vt] 36), rdE vn a.Next, rdE vt a.Takes] H82 from hS82)⟩
    omega
  have hmm2 : mm.map (·.1) = diff C := by rw [hmm, List.take_of_length_le (by omega)]
  have hml := keys_len hmm2
  refine wpF_exit ?_
  refine atX_here ?_
  refine wpF_seq ?_
  refine wpF_cut (fun f H => f 1 = PT g1 0 ∧ f 3 = PT g8 0 ∧ f 6 = vR ∧ f 10 = (Value.map (some r70)) ∧ St H0 NoB (fun b => S b ∧ b < H0.size) [blkE g8 (.cells #[v31] 22), mapE r70 (mm : List (Int × Bool)), rowE 3 vR (repsTo (sameC a C) a.Next.length : List Int), rowE 3 v31 (nxtTo (sameC a C) a.Next.length a.Next.length : List Int), rowE 3 vC (C : List Int), blkE g1 (.cells #[I (a.Signs), vn, vt] 36), rdE vn a.Next, rdE vt a.Takes] H) ?_ ?_
  · refine wpF_region ?_
    refine wpL_q (U := NoB) rfl (q_move (v := v31) rfl a76_7) ?_
    refine wpL_o rfl ?_
    refine e_storeBlk (v := v31) rfl a76_3 rfl (oneCell_rdL (hS75.rowl 2 rfl)) Try.sizeOf22 (by show _ < 1; decide) (hS75.front 4 rfl) (fun H84 hS85 hxx => ?_)
    replace hS85 : St H0 NoB (fun b => S b ∧ b < H0.size) [blkE g8 (.cells #[v31] 22), mapE r70 (mm : List (Int × Bool)), rowE 3 vR (repsTo (sameC a C) a.Next.length : List Int), rowE 3 v31 (nxtTo (sameC a C) a.Next.length a.Next.length : List Int), rowE 3 vC (C : List Int), blkE g1 (.cells #[I (a.Signs), vn, vt] 36), rdE vn a.Next, rdE vt a.Takes] H84 := hS85
    exact ⟨a76_1, a76_3, a76_6, a76_10, hS85⟩
  rintro f86 H86 ⟨a86_1, a86_3, a86_6, a86_10, hS86⟩
  clear a76_1 a76_10 a76_3 a76_55 a76_56 a76_57 a76_58 a76_6 a76_7
  refine wpF_seq ?_
  refine wpF_cut (fun f H => f 1 = PT g1 0 ∧ f 3 = PT g8 0 ∧ f 69 = B (decide ((mm.length : Int) = ((repsTo (sameC a C) a.Next.length).length : Int))) ∧ H86 = H) ?_ ?_
  · refine wpF_region ?_
    refine wpL_q (U := NoB) rfl (q_move (v := (Value.map (some r70))) rfl a86_10) ?_
    refine wpL_q (U := NoB) rfl (q_lenMap rfl Try.underlying103 rfl (hS86.get 1 rfl) (fun h => h)) ?_
    refine wpL_q (U := NoB) rfl (q_move (v := vR) rfl a86_6) ?_
    refine wpL_q (U := NoB) rfl (q_lenRd rfl Try.underlying22 rfl (hS86.rowl 2 rfl)) ?_
    refine wpL_q (U := NoB) rfl (q_eql rfl rfl rfl) ?_
    exact ⟨a86_1, a86_3, rfl, rfl⟩
  rintro f87 _ ⟨a87_1, a87_3, a87_69, rfl⟩
  clear a86_1 a86_10 a86_3 a86_6
  refine wpF_condP a87_69 (fun h69 => ?t91) (fun h69 => ?e91)
  case e91 =>
    refine wpF_skip ?_
    refine ⟨_, ?_, m + 1, nxtTo (sameC a C) a.Next.length a.Next.length, v31, rfl, (hC.next hW), a87_1, a87_3, (show St H0 NoB (fun b => S b ∧ b < H0.size) [rowE 3 v31 ((nxtTo (sameC a C) a.Next.length a.Next.length) : List Int), blkE g8 (.cells #[v31] 22), blkE g1 (.cells #[I (a.Signs), vn, vt] 36), rdE vn a.Next, rdE vt a.Takes] H86 from (St.drop (show St H0 NoB (fun b => S b ∧ b < H0.size) [rowE 3 v31 (nxtTo (sameC a C) a.Next.length a.Next.length : List Int), blkE g8 (.cells #[v31] 22), mapE r70 (mm : List (Int × Bool)), rowE 3 vR (repsTo (sameC a C) a.Next.length : List Int), rowE 3 vC (C : List Int), blkE g1 (.cells #[I (a.Signs), vn, vt] 36), rdE vn a.Next, rdE vt a.Takes] H86 from (hS86.front 3 rfl)) (sk (sk (sn (sn (sn (sk (sk (sk (List.Sublist.slnil)))))))))))⟩
    omega
  refine wpF_seq ?_
  refine wpF_cut (fun f H => f 2 = v31 ∧ H86 = H) ?_ ?_
  · refine wpF_region ?_
    refine wpL_q (U := NoB) rfl (q_loadBlk rfl a87_3 Try.isAgg22 (hS86.blk 0 rfl) rfl (fun h => h)) ?_
    refine wpL_q (U := NoB) rfl (q_assign (v := v31) rfl rfl) ?_
    exact ⟨rfl, rfl⟩
  rintro f89 _ ⟨a89_2, rfl⟩
  clear a87_1 a87_3 a87_69
  refine wpF_ret ?_
  refine ⟨_, resT a89_2 resN, hS86.frame, ?_⟩
  show ∃ cs_, Rd (fun b => S b ∧ b < H0.size) H86 v31 cs_ ∧ ClsL a cs_
  have hS90 : St H0 NoB (fun b => S b ∧ b < H0.size) [rdE v31 (nxtTo (sameC a C) a.Next.length a.Next.length), blkE g8 (.cells #[v31] 22), mapE r70 (mm : List (Int × Bool)), rowE 3 vR (repsTo (sameC a C) a.Next.length : List Int), rowE 3 vC (C : List Int), blkE g1 (.cells #[I (a.Signs), vn, vt] 36), rdE vn a.Next, rdE vt a.Takes] H86 := St.fin (hS86.front 3 rfl)
  exact ⟨_, (hS90.result (hS90.rdS 0 rfl)), hC.done hW (by omega)⟩

end Go.Um
