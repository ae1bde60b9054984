import Derived.Test.YtacphjgolmolmaaGreatProg
import Derived.Test.YtacphjgolmolmaaGreatUmArrUpB
namespace Go.Um
open Go.Proofs
open GoT (sz ag rdc)
open KeyT (kv)
theorem el_Decl_43_AskC1 : ElT Tryz.prog Decl 43 := ⟨Tryz.isAgg43, Tryz.sizeOf43⟩
theorem el_Int_3_AskC1 : ElT Tryz.prog Int 3 := ⟨Tryz.isAgg3, Tryz.sizeOf3⟩
theorem em_Int_3_AskC1 : ElemOk Tryz.prog Int 3 := ⟨Tryz.t3, (.int .i64 0), by kernel_rfl, by kernel_rfl, by kernel_rfl, by kernel_rfl, by kernel_rfl⟩
set_option maxRecDepth 100000 in
theorem Ints_R {H0 : Heap} (va vb : Value) (a b : List Int) (ra : Rd NoB H0 va a) (rb : Rd NoB H0 vb b) : CallsH Tryz.prog 11 #[va, vb] H0 (fun rv_ H' => Ext NoB H0 H' ∧ rv_ = B (decide (a = b))) := by
 have hsm := (Rd.list.1 ra).small
 have hS0 : St H0 NoB NoB [rdE va a, rdE vb b] H0 := St.arg (St.arg (St.start (fun _ h => h.elim)) (Bl0.nil) rb (fun _ h => h)) (Bl0.cons (Bl0.nil)) ra (fun _ h => h)
 refine callsH_of_wpF (args := [va, vb]) (rs := [.tmp 4]) Tryz.func11 rfl Tryz.ntmps11 Tryz.results11 (by kernel_rfl) (Nat.le_of_ble_eq_true rfl) ?_
 have y0 : argF [va, vb] 0 = va := rfl
 have y1 : argF [va, vb] 1 = vb := rfl
 generalize argF [va, vb] = f0 at *
 refine wpF_seq ?_
 refine wpF_region ?_
 refine la (v := B (false)) rfl rfl rfl ?_
 refine wpL_nil ?_
 refine wpF_seq ?_
 refine wpF_seq ?_
 refine wpF_region ?_
 refine lm (v := va) rfl rfl y0 ?_
 refine lq rfl (q_lenRd rfl Tryz.underlying24 rfl (hS0.rdl 0 rfl)) ?_
 refine lm (v := vb) rfl rfl y1 ?_
 refine lq rfl (q_lenRd rfl Tryz.underlying24 rfl (hS0.rdl 1 rfl)) ?_
 refine lq rfl (q_neq rfl rfl rfl) ?_
 refine wpL_nil ?_
 refine wpF_condP rfl (fun hlen => ?t8) (fun hlen => ?e8)
 case t8 =>
  refine wpF_seq ?_
  refine wpF_region ?_
  refine la (v := B (false)) rfl rfl rfl ?_
  refine wpL_nil ?_
  refine wpF_ret ?_
  refine ⟨_, resT rfl resN, hS0.frame, ?_⟩
  show (B (false)) = B (decide (a = b))
  exact congrArg B (by simp; intro h; subst h; simp at hlen)
 refine wpF_skip ?_
 refine wpF_seq ?_
 refine wpF_seq ?_
 refine wpF_region ?_
 refine la (v := I (0)) rfl rfl rfl ?_
 refine wpL_nil ?_
 refine wpF_block ?_
 refine wpF_loop (fun mz f H => ∃ (k : Nat), mz = a.length - k ∧ (k ≤ a.length) ∧ (a.take k = b.take k) ∧ f 0 = va ∧ f 1 = vb ∧ f 5 = I ((k : Int)) ∧ H0 = H) (a.length - 0) ?_ ?_
 ·exact ⟨0, rfl, Nat.zero_le _, rfl, y0, y1, (Eq.trans rfl (congrArg I (by omega))), rfl⟩
 intro m2 f2 H2 hI2
 clear y0 y1
 obtain ⟨k, hm2, hk, hpre, y0, y1, y5, rfl⟩ := hI2
 refine wpF_seq ?_
 refine wpF_seq ?_
 refine wpF_region ?_
 refine lm (v := I ((k : Int))) rfl rfl y5 ?_
 refine lm (v := va) rfl rfl y0 ?_
 refine lq rfl (q_lenRd rfl Tryz.underlying24 rfl (hS0.rdl 0 rfl)) ?_
 refine lq rfl (q_lss rfl rfl rfl) ?_
 refine wpL_nil ?_
 refine wpF_condP rfl (fun hlt => ?t7) (fun hlt => ?e7)
 case e7 =>
  refine wpF_exit ?_
  refine atX_here ?_
  refine wpF_seq ?_
  refine wpF_region ?_
  refine la (v := B (true)) rfl rfl rfl ?_
  refine wpL_nil ?_
  refine wpF_ret ?_
  refine ⟨_, resT rfl resN, hS0.frame, ?_⟩
  show (B (true)) = B (decide (a = b))
  exact congrArg B (by simp; exact take_all hpre (by omega) (by omega))
 refine wpF_skip ?_
 refine wpF_seq ?_
 refine wpF_block ?_
 refine wpF_seq ?_
 refine wpF_drawn [] [] (fun _ _ => False) (by kernel_rfl) (by kernel_rfl) ?_
 refine rq 0 (by kernel_rfl) rfl rfl (q_move (v := va) rfl y0) ?_
 refine rq 1 (by kernel_rfl) rfl rfl (q_move (v := I ((k : Int))) rfl y5) ?_
 refine rq 2 (by kernel_rfl) rfl rfl (q_indexRd (k := k) rfl Tryz.underlying24 el_Int_3_AskC1 rfl rfl (hS0.rdl 0 rfl) (by omega) (by omega)) ?_
 refine rq 3 (by kernel_rfl) rfl rfl (q_loadInt (k := k) rfl rfl el_Int_3_AskC1 (hS0.rdl 0 rfl) (by omega) (labU_sub [] rfl (fe))) ?_
 refine rq 4 (by kernel_rfl) rfl rfl (q_move (v := vb) rfl y1) ?_
 refine rq 5 (by kernel_rfl) rfl rfl (q_move (v := I ((k : Int))) rfl y5) ?_
 refine rq 6 (by kernel_rfl) rfl rfl (q_indexRd (k := k) rfl Tryz.underlying24 el_Int_3_AskC1 rfl rfl (hS0.rdl 1 rfl) (by omega) (by omega)) ?_
 refine rq 7 (by kernel_rfl) rfl rfl (q_loadInt (k := k) rfl rfl el_Int_3_AskC1 (hS0.rdl 1 rfl) (by omega) (labU_sub [] rfl (fe))) ?_
 refine rq 8 (by kernel_rfl) rfl rfl (q_neq rfl rfl rfl) ?_
 refine wpR_end (by kernel_rfl) ?_
 skip
 refine wpF_condP rfl (fun hne => ?t6) (fun hne => ?e6)
 case t6 =>
  refine wpF_seq ?_
  refine wpF_region ?_
  refine la (v := B (false)) rfl rfl rfl ?_
  refine wpL_nil ?_
  refine wpF_ret ?_
  refine ⟨_, resT rfl resN, hS0.frame, ?_⟩
  show (B (false)) = B (decide (a = b))
  exact congrArg B (by simp; intro h; subst h; simp at hne)
 refine wpF_skip ?_
 refine wpF_region ?_
 refine lm (v := I ((k : Int))) rfl rfl y5 ?_
 refine lq rfl (q_add rfl rfl rfl (by constructor <;> omega)) ?_
 refine la (v := I ((k : Int) + 1)) rfl rfl rfl ?_
 refine wpL_nil ?_
 refine ⟨_, ?_, k + 1, rfl, (by omega), (take_same hpre (by omega) (by omega) (by simpa using hne)), y0, y1, (Eq.trans rfl (congrArg I (by omega))), rfl⟩
 omega
set_option maxRecDepth 100000 in
theorem Equal {H0 : Heap} (va vb : Value) (a b : List Int) (ra : Rd NoB H0 va a) (rb : Rd NoB H0 vb b) : CallsH Tryz.prog 38 #[va, vb] H0 (fun rv_ H' => Ext NoB H0 H' ∧ rv_ = B (decide (a = b))) := by
 have hsm := (Rd.list.1 ra).small
 have hS0 : St H0 NoB NoB [rdE va a, rdE vb b] H0 := St.arg (St.arg (St.start (fun _ h => h.elim)) (Bl0.nil) rb (fun _ h => h)) (Bl0.cons (Bl0.nil)) ra (fun _ h => h)
 refine callsH_of_wpF (args := [va, vb]) (rs := [.tmp 4]) Tryz.func38 rfl Tryz.ntmps38 Tryz.results38 (by kernel_rfl) (Nat.le_of_ble_eq_true rfl) ?_
 have y0 : argF [va, vb] 0 = va := rfl
 have y1 : argF [va, vb] 1 = vb := rfl
 generalize argF [va, vb] = f0 at *
 refine wpF_seq ?_
 refine wpF_region ?_
 refine la (v := B (false)) rfl rfl rfl ?_
 refine wpL_nil ?_
 refine wpF_seq ?_
 refine wpF_seq ?_
 refine wpF_region ?_
 refine lm (v := va) rfl rfl y0 ?_
 refine lq rfl (q_lenRd rfl Tryz.underlying24 rfl (hS0.rdl 0 rfl)) ?_
 refine lm (v := vb) rfl rfl y1 ?_
 refine lq rfl (q_lenRd rfl Tryz.underlying24 rfl (hS0.rdl 1 rfl)) ?_
 refine lq rfl (q_neq rfl rfl rfl) ?_
 refine wpL_nil ?_
 refine wpF_condP rfl (fun hlen => ?t8) (fun hlen => ?e8)
 case t8 =>
  refine wpF_seq ?_
  refine wpF_region ?_
  refine la (v := B (false)) rfl rfl rfl ?_
  refine wpL_nil ?_
  refine wpF_ret ?_
  refine ⟨_, resT rfl resN, hS0.frame, ?_⟩
  show (B (false)) = B (decide (a = b))
  exact congrArg B (by simp; intro h; subst h; simp at hlen)
 refine wpF_skip ?_
 refine wpF_seq ?_
 refine wpF_seq ?_
 refine wpF_region ?_
 refine lm (v := va) rfl rfl y0 ?_
 refine lq rfl (q_lenRd rfl Tryz.underlying24 rfl (hS0.rdl 0 rfl)) ?_
 refine lm (v := I (0)) rfl rfl rfl ?_
 refine wpL_nil ?_
 refine wpF_block ?_
 refine wpF_loop (fun mz f H => ∃ (k : Nat), mz = a.length - k ∧ (k ≤ a.length) ∧ (a.take k = b.take k) ∧ f 0 = va ∧ f 1 = vb ∧ f 12 = I ((a.length : Int)) ∧ f 13 = I ((k : Int)) ∧ H0 = H) (a.length - 0) ?_ ?_
 ·exact ⟨0, rfl, Nat.zero_le _, rfl, y0, y1, rfl, (Eq.trans rfl (congrArg I (by omega))), rfl⟩
 intro m2 f2 H2 hI2
 clear y0 y1
 obtain ⟨k, hm2, hk, hpre, y0, y1, y12, y13, rfl⟩ := hI2
 refine wpF_seq ?_
 refine wpF_region ?_
 refine lq rfl (q_lss rfl y13 y12) ?_
 refine wpL_nil ?_
 refine wpF_seq ?_
 refine wpF_condP rfl (fun hlt => ?t7) (fun hlt => ?e7)
 case e7 =>
  refine wpF_exit ?_
  refine atX_here ?_
  refine wpF_seq ?_
  refine wpF_region ?_
  refine la (v := B (true)) rfl rfl rfl ?_
  refine wpL_nil ?_
  refine wpF_ret ?_
  refine ⟨_, resT rfl resN, hS0.frame, ?_⟩
  show (B (true)) = B (decide (a = b))
  exact congrArg B (by simp; exact take_all hpre (by omega) (by omega))
 refine wpF_skip ?_
 refine wpF_seq ?_
 refine wpF_block ?_
 refine wpF_seq ?_
 refine wpF_region ?_
 refine lm (v := I ((k : Int))) rfl rfl y13 ?_
 refine la (v := I ((k : Int))) rfl rfl rfl ?_
 refine wpL_nil ?_
 refine wpF_seq ?_
 refine wpF_drawn [] [] (fun _ _ => False) (by kernel_rfl) (by kernel_rfl) ?_
 refine rq 0 (by kernel_rfl) rfl rfl (q_move (v := va) rfl y0) ?_
 refine rq 1 (by kernel_rfl) rfl rfl (q_move (v := I ((k : Int))) rfl rfl) ?_
 refine rq 2 (by kernel_rfl) rfl rfl (q_indexRd (k := k) rfl Tryz.underlying24 el_Int_3_AskC1 rfl rfl (hS0.rdl 0 rfl) (by omega) (by omega)) ?_
 refine rq 3 (by kernel_rfl) rfl rfl (q_loadInt (k := k) rfl rfl el_Int_3_AskC1 (hS0.rdl 0 rfl) (by omega) (labU_sub [] rfl (fe))) ?_
 refine rq 4 (by kernel_rfl) rfl rfl (q_move (v := vb) rfl y1) ?_
 refine rq 5 (by kernel_rfl) rfl rfl (q_move (v := I ((k : Int))) rfl rfl) ?_
 refine rq 6 (by kernel_rfl) rfl rfl (q_indexRd (k := k) rfl Tryz.underlying24 el_Int_3_AskC1 rfl rfl (hS0.rdl 1 rfl) (by omega) (by omega)) ?_
 refine rq 7 (by kernel_rfl) rfl rfl (q_loadInt (k := k) rfl rfl el_Int_3_AskC1 (hS0.rdl 1 rfl) (by omega) (labU_sub [] rfl (fe))) ?_
 refine rq 8 (by kernel_rfl) rfl rfl (q_neq rfl rfl rfl) ?_
 refine wpR_end (by kernel_rfl) ?_
 skip
 refine wpF_condP rfl (fun hne => ?t6) (fun hne => ?e6)
 case e6 =>
  refine wpF_skip ?_
  refine wpF_region ?_
  refine lq rfl (q_add rfl y13 rfl (by constructor <;> omega)) ?_
  refine lm (v := I ((k : Int) + 1)) rfl rfl rfl ?_
  refine wpL_nil ?_
  refine ⟨_, ?_, k + 1, rfl, (by omega), (take_same hpre (by omega) (by omega) (by simpa using hne)), y0, y1, y12, (Eq.trans rfl (congrArg I (by omega))), rfl⟩
  omega
 refine wpF_seq ?_
 refine wpF_region ?_
 refine la (v := B (false)) rfl rfl rfl ?_
 refine wpL_nil ?_
 refine wpF_ret ?_
 refine ⟨_, resT rfl resN, hS0.frame, ?_⟩
 show (B (false)) = B (decide (a = b))
 exact congrArg B (by simp; intro h; subst h; simp at hne)
set_option maxRecDepth 100000 in
theorem Clone {H0 : Heap} {S : Nat → Prop} (va : Value) (a : List Int) (ra : Rd S H0 va a) : CallsH Tryz.prog 13 #[va] H0 (fun rv_ H' => Ext NoB H0 H' ∧ Rd (SZ S H0) H' rv_ a) := by
 have hby := (Rd.list.1 ra).bound
 have hS0 : St H0 NoB (SZ S H0) [rdE va a] H0 := St.arg (St.start (fun _ h => h.2)) (Bl0.nil) ra (fun _ h => h.1)
 refine callsH_of_wpF (args := [va]) (rs := [.tmp 2]) Tryz.func13 rfl Tryz.ntmps13 Tryz.results13 (by kernel_rfl) (Nat.le_of_ble_eq_true rfl) ?_
 have y0 : argF [va] 0 = va := rfl
 generalize argF [va] = f0 at *
 refine wpF_seq ?_
 refine wpF_region ?_
 refine la (v := nS) rfl rfl rfl ?_
 refine wpL_nil ?_
 refine wpF_seq ?_
 refine wpF_seq ?_
 refine wpF_region ?_
 refine lm (v := va) rfl rfl y0 ?_
 refine lq rfl (q_nilS rfl Tryz.underlying24 rfl ((hS0.rdl 0 rfl))) ?_
 refine wpL_nil ?_
 refine wpF_cond rfl (fun hnil => ?t10) (fun hnil => ?e10)
 case t10 =>
  refine wpF_seq ?_
  refine wpF_region ?_
  refine la (v := nS) rfl rfl rfl ?_
  refine wpL_nil ?_
  refine wpF_ret ?_
  refine ⟨_, resT rfl resN, hS0.frame, ?_⟩
  show Rd (SZ S H0) H0 nS a
  rw [isNil_len (Rd.list.1 ra) hnil]
  exact rdNil
 refine wpF_skip ?_
 refine wpF_seq ?_
 refine wpF_region ?_
 refine lo rfl ?_
 refine e_buildSlice (vs := []) (xs := ([] : List Int)) rfl Tryz.underlying24 Tryz.zeroValue3 rfl Tryz.sizeOf3 par0 rfl hS0 (RdVs.nil) (by decide) (by decide) (fun v2 H3 hS4 hxx hvv2 => ?_)
 refine lm (v := va) rfl rfl y0 ?_
 have hS5 := hS4
 refine lo rfl ?_
 refine e_append rfl Tryz.underlying24 em_Int_3_AskC1 rfl rfl hS5 (hS5.rdS 1 rfl) (fun _ h => h) (by have : GoT.bytes Int = 8 := rfl; simp; omega) (by decide) (fun v6 H7 hS8 hxx => ?_)
 replace hS8 : St H0 NoB (SZ S H0) [rowE 3 v6 (a : List Int), rdE va a] H7 := by simpa using hS8
 refine la (v := v6) rfl rfl rfl ?_
 refine wpL_nil ?_
 refine wpF_ret ?_
 refine ⟨_, resT rfl resN, hS8.frame, ?_⟩
 show Rd (SZ S H0) H7 v6 a
 have hS9 : St H0 NoB (SZ S H0) [rdE v6 a, rdE va a] H7 := St.fin hS8
 exact (hS9.result (hS9.rdS 0 rfl))
set_option maxRecDepth 100000 in
theorem IndexFunc {H0 : Heap} (vs vf : Value) (l : List Int) (gp : Int → Bool) (rs : Rd NoB H0 vs l) (hf : ∀ x, x ∈ l → ∀ H, Ext NoB H0 H → FnH Tryz.prog vf #[I x] H (fun rv H' => Ext NoB H H' ∧ rv = B (gp x))) : CallsH Tryz.prog 44 #[vs, vf] H0 (fun rv_ H' => Ext NoB H0 H' ∧ rv_ = I (idxOf gp l)) := by
 have hsm := (Rd.list.1 rs).small
 have hS0 : St H0 NoB NoB [rdE vs l] H0 := St.arg (St.start (fun _ h => h.elim)) (Bl0.nil) rs (fun _ h => h)
 refine callsH_of_wpF (args := [vs, vf]) (rs := [.tmp 4]) Tryz.func44 rfl Tryz.ntmps44 Tryz.results44 (by kernel_rfl) (Nat.le_of_ble_eq_true rfl) ?_
 have y0 : argF [vs, vf] 0 = vs := rfl
 have y1 : argF [vs, vf] 1 = vf := rfl
 generalize argF [vs, vf] = f0 at *
 refine wpF_seq ?_
 refine wpF_region ?_
 refine la (v := I (0)) rfl rfl rfl ?_
 refine wpL_nil ?_
 refine wpF_seq ?_
 refine wpF_seq ?_
 refine wpF_region ?_
 refine lm (v := vs) rfl rfl y0 ?_
 refine lq rfl (q_lenRd rfl Tryz.underlying24 rfl (hS0.rdl 0 rfl)) ?_
 refine lm (v := I (0)) rfl rfl rfl ?_
 refine wpL_nil ?_
 refine wpF_block ?_
 refine wpF_loop (fun mz f H => ∃ (k : Nat), mz = l.length - k ∧ (k ≤ l.length) ∧ (∀ j, j < k → gp (nth l j) = false) ∧ f 0 = vs ∧ f 1 = vf ∧ f 7 = I ((l.length : Int)) ∧ f 8 = I ((k : Int)) ∧ St H0 NoB NoB [rdE vs l] H) (l.length - 0) ?_ ?_
 ·exact ⟨0, rfl, Nat.zero_le _, (fun j hj => absurd hj (Nat.not_lt_zero j)), y0, y1, rfl, (Eq.trans rfl (congrArg I (by omega))), hS0⟩
 intro m1 f1 H1 hI1
 clear y0 y1
 obtain ⟨k, hm1, hk, hno, y0, y1, y7, y8, hS1⟩ := hI1
 refine wpF_seq ?_
 refine wpF_region ?_
 refine lq rfl (q_lss rfl y8 y7) ?_
 refine wpL_nil ?_
 refine wpF_seq ?_
 refine wpF_condP rfl (fun hlt => ?t8) (fun hlt => ?e8)
 case e8 =>
  refine wpF_exit ?_
  refine atX_here ?_
  refine wpF_seq ?_
  refine wpF_region ?_
  refine la (v := I (-1)) rfl rfl rfl ?_
  refine wpL_nil ?_
  refine wpF_ret ?_
  refine ⟨_, resT rfl resN, hS1.frame, ?_⟩
  show (I (-1)) = I (idxOf gp l)
  exact congrArg I (idxOf_no fun j hj => hno j (by omega)).symm
 refine wpF_skip ?_
 refine wpF_seq ?_
 refine wpF_block ?_
 refine wpF_seq ?_
 refine wpF_region ?_
 refine lm (v := I ((k : Int))) rfl rfl y8 ?_
 refine la (v := I ((k : Int))) rfl rfl rfl ?_
 refine wpL_nil ?_
 refine wpF_seq ?_
 refine wpF_region ?_
 refine lm (v := vf) rfl rfl y1 ?_
 refine lm (v := vs) rfl rfl y0 ?_
 refine lm (v := I ((k : Int))) rfl rfl rfl ?_
 refine lq rfl (q_indexRd (k := k) rfl Tryz.underlying24 el_Int_3_AskC1 rfl rfl (hS1.rdl 0 rfl) (by omega) (by omega)) ?_
 refine lq rfl (q_loadInt (k := k) rfl rfl el_Int_3_AskC1 (hS1.rdl 0 rfl) (by omega) (fun _ h => h)) ?_
 refine lo rfl ?_
 refine e_callF rfl rfl (arr1 (v0 := I (nth l k)) rfl) (hf _ (nth_mem (by omega)) _ hS1.frame) ?_
 rintro _ H3 ⟨hxx, rfl⟩
 have hS4 := hS1.ext hxx
 refine wpL_nil ?_
 refine wpF_cond rfl (fun hg => ?t7) (fun hg => ?e7)
 case e7 =>
  refine wpF_skip ?_
  refine wpF_region ?_
  refine lq rfl (q_add rfl y8 rfl (by constructor <;> omega)) ?_
  refine lm (v := I ((k : Int) + 1)) rfl rfl rfl ?_
  refine wpL_nil ?_
  refine ⟨_, ?_, k + 1, rfl, (by omega), (all_succ hno (by simpa using hg)), y0, y1, y7, (Eq.trans rfl (congrArg I (by omega))), hS4⟩
  omega
 refine wpF_seq ?_
 refine wpF_region ?_
 refine lm (v := I ((k : Int))) rfl rfl rfl ?_
 refine la (v := I ((k : Int))) rfl rfl rfl ?_
 refine wpL_nil ?_
 refine wpF_ret ?_
 refine ⟨_, resT rfl resN, hS4.frame, ?_⟩
 show (I ((k : Int))) = I (idxOf gp l)
 exact congrArg I (idxOf_at (by omega) hno (by simpa using hg)).symm
set_option maxRecDepth 100000 in
theorem ContainsFunc {H0 : Heap} (vs vf : Value) (l : List Int) (gp : Int → Bool) (rs : Rd NoB H0 vs l) (hf : ∀ x, x ∈ l → ∀ H, Ext NoB H0 H → FnH Tryz.prog vf #[I x] H (fun rv H' => Ext NoB H H' ∧ rv = B (gp x))) : CallsH Tryz.prog 23 #[vs, vf] H0 (fun rv_ H' => Ext NoB H0 H' ∧ rv_ = B (l.any gp)) := by
 have hS0 : St H0 NoB NoB [rdE vs l] H0 := St.arg (St.start (fun _ h => h.elim)) (Bl0.nil) rs (fun _ h => h)
 refine callsH_of_wpF (args := [vs, vf]) (rs := [.tmp 4]) Tryz.func23 rfl Tryz.ntmps23 Tryz.results23 (by kernel_rfl) (Nat.le_of_ble_eq_true rfl) ?_
 have y0 : argF [vs, vf] 0 = vs := rfl
 have y1 : argF [vs, vf] 1 = vf := rfl
 generalize argF [vs, vf] = f0 at *
 refine wpF_seq ?_
 refine wpF_region ?_
 refine la (v := B (false)) rfl rfl rfl ?_
 refine wpL_nil ?_
 refine wpF_seq ?_
 refine wpF_region ?_
 refine lm (v := vs) rfl rfl y0 ?_
 refine lm (v := vf) rfl rfl y1 ?_
 refine lo rfl ?_
 refine e_call rfl Tryz.call44 (arr2 (v0 := vs) (v1 := vf) rfl rfl) (IndexFunc vs vf l gp (hS0.rdN 0 rfl) (fun x hx H hE => hf x hx H (hS0.frame.trans hE))) ?_
 rintro _ H1 ⟨hxx, rfl⟩
 have hS2 := hS0.ext hxx
 refine lq rfl (q_geq rfl rfl rfl) ?_
 refine la (v := B (decide (0 ≤ (idxOf gp l)))) rfl rfl rfl ?_
 refine wpL_nil ?_
 refine wpF_ret ?_
 refine ⟨_, resT rfl resN, hS2.frame, ?_⟩
 show (B (decide (0 ≤ (idxOf gp l)))) = B (l.any gp)
 exact congrArg B (bool_congr_of idxOf_any.symm).symm
set_option maxRecDepth 100000 in
theorem IsName_L {H0 : Heap} (s : Str) (hs : s.size ≤ maxLen) : CallsH Tryz.prog 45 #[SB (s)] H0 (fun rv_ H' => Ext NoB H0 H' ∧ rv_ = B (decide (isName s))) := by
 have hsm := Str.small hs
 have hS0 : St H0 NoB NoB [] H0 := St.start (fun _ h => h.elim)
 refine callsH_of_wpF (args := [SB (s)]) (rs := [.tmp 2]) Tryz.func45 rfl Tryz.ntmps45 Tryz.results45 (by kernel_rfl) (Nat.le_of_ble_eq_true rfl) ?_
 have y0 : argF [SB (s)] 0 = SB (s) := rfl
 generalize argF [SB (s)] = f0 at *
 refine wpF_seq ?_
 refine wpF_region ?_
 refine la (v := B (false)) rfl rfl rfl ?_
 refine wpL_nil ?_
 refine wpF_seq ?_
 refine wpF_seq ?_
 refine wpF_region ?_
 refine lm (v := SB (s)) rfl rfl y0 ?_
 refine lq rfl (q_lenStr rfl Tryz.underlying9 rfl) ?_
 refine lm (v := I (0)) rfl rfl rfl ?_
 refine wpL_nil ?_
 refine wpF_block ?_
 refine wpF_loop (fun mz f H => ∃ (k : Nat), mz = s.size - k ∧ (k ≤ s.size) ∧ (∀ j, j < k → ¬ nameBad s j) ∧ f 0 = SB (s) ∧ f 7 = I ((s.size : Int)) ∧ f 8 = I ((k : Int)) ∧ H0 = H) (s.size - 0) ?_ ?_
 ·exact ⟨0, rfl, Nat.zero_le _, (fun j hj => absurd hj (Nat.not_lt_zero j)), y0, rfl, (Eq.trans rfl (congrArg I (by omega))), rfl⟩
 intro m1 f1 H1 hI1
 clear y0
 obtain ⟨k, hm1, hk, hp, y0, y7, y8, rfl⟩ := hI1
 refine wpF_seq ?_
 refine wpF_region ?_
 refine lq rfl (q_lss rfl y8 y7) ?_
 refine wpL_nil ?_
 refine wpF_seq ?_
 refine wpF_condP rfl (fun hlt => ?t35) (fun hlt => ?e35)
 case e35 =>
  refine wpF_exit ?_
  refine atX_here ?_
  refine fcr (fun f H => f 2 = B (decide ((1 ≤ (s.size : Int)) ∧ ((s.size : Int) ≤ 12))) ∧ H0 = H) ?_ ?_
  ·refine lm (v := SB (s)) rfl rfl y0 ?_
   refine lq rfl (q_lenStr rfl Tryz.underlying9 rfl) ?_
   refine lq rfl (q_geq rfl rfl rfl) ?_
   refine lm (v := B (decide (1 ≤ (s.size : Int)))) rfl rfl rfl ?_
   by_cases hg31 : 1 ≤ (s.size : Int)
   ·have hb32 := Eq.trans rfl (congrArg B (decide_eq_true hg31))
    refine gq rfl rfl rfl hb32 (q_move (v := SB (s)) rfl y0) ?_
    refine gq rfl rfl rfl hb32 (q_lenStr rfl Tryz.underlying9 rfl) ?_
    refine gq rfl rfl rfl hb32 (q_leq rfl rfl rfl) ?_
    refine lq rfl (q_pickT (v := B (decide ((s.size : Int) ≤ 12))) rfl hb32 rfl) ?_
    refine la (v := B (decide ((s.size : Int) ≤ 12))) rfl rfl rfl ?_
    exact ⟨(Eq.trans rfl (congrArg B (decide_congr_of ((Iff.rfl).trans (((and_iff_right hg31).trans Iff.rfl)).symm)))), rfl⟩
   ·have hb33 := Eq.trans rfl (congrArg B (decide_eq_false hg31))
    refine wpL_gs rfl rfl rfl hb33 rfl ?_
    refine wpL_gs rfl rfl rfl hb33 rfl ?_
    refine wpL_gs rfl rfl rfl hb33 rfl ?_
    refine lq rfl (q_pickF (v := B (false)) rfl hb33 rfl) ?_
    refine la (v := B (false)) rfl rfl rfl ?_
    exact ⟨(Eq.trans rfl (congrArg B ((decide_eq_false (fun h => hg31 h.1)).symm))), rfl⟩
  clear y0 y7 y8
  rintro f34 _ ⟨y2, rfl⟩
  refine wpF_ret ?_
  refine ⟨_, resT y2 resN, hS0.frame, ?_⟩
  show (B (decide ((1 ≤ (s.size : Int)) ∧ ((s.size : Int) ≤ 12)))) = B (decide (isName s))
  exact congrArg B (decide_congr_of ⟨fun h => ⟨fun j hj => hp j (by omega), h⟩, fun h => h.2⟩)
 refine wpF_skip ?_
 refine wpF_seq ?_
 refine wpF_block ?_
 refine wpF_seq ?_
 refine wpF_region ?_
 refine lm (v := I ((k : Int))) rfl rfl y8 ?_
 refine la (v := I ((k : Int))) rfl rfl rfl ?_
 refine wpL_nil ?_
 refine wpF_seq ?_
 refine wpF_region ?_
 refine lm (v := SB (s)) rfl rfl y0 ?_
 refine lm (v := I ((k : Int))) rfl rfl rfl ?_
 refine lq rfl (q_indexStr (k := k) rfl Tryz.underlying9 rfl rfl (by omega) (by omega)) ?_
 refine la (v := U8 (bAt s k)) rfl rfl rfl ?_
 refine wpL_nil ?_
 refine fcr (fun f H => f 0 = SB (s) ∧ f 3 = I ((k : Int)) ∧ f 4 = U8 (bAt s k) ∧ f 5 = B (decide ((((bAt s k) = 95) ∨ ((97 ≤ (bAt s k)) ∧ ((bAt s k) ≤ 122))) ∨ ((65 ≤ (bAt s k)) ∧ ((bAt s k) ≤ 90)))) ∧ f 7 = I ((s.size : Int)) ∧ f 8 = I ((k : Int)) ∧ H0 = H) ?_ ?_
 ·refine lm (v := U8 (bAt s k)) rfl rfl rfl ?_
  refine lq rfl (q_eql8 rfl rfl rfl) ?_
  refine lm (v := B (decide ((bAt s k) = 95))) rfl rfl rfl ?_
  by_cases hg3 : (bAt s k) = 95
  ·have hb4 := Eq.trans rfl (congrArg B (decide_eq_true hg3))
   refine wpL_gs rfl rfl rfl hb4 rfl ?_
   refine wpL_gs rfl rfl rfl hb4 rfl ?_
   refine wpL_gs rfl rfl rfl hb4 rfl ?_
   refine wpL_gs' rfl rfl rfl rfl ?_
   refine wpL_gs' rfl rfl rfl rfl ?_
   refine wpL_gs rfl rfl rfl hb4 rfl ?_
   refine lq rfl (q_pickT (v := B (true)) rfl hb4 rfl) ?_
   refine lm (v := B (true)) rfl rfl rfl ?_
   refine wpL_gs rfl rfl rfl rfl rfl ?_
   refine wpL_gs rfl rfl rfl rfl rfl ?_
   refine wpL_gs rfl rfl rfl rfl rfl ?_
   refine wpL_gs' rfl rfl rfl rfl ?_
   refine wpL_gs' rfl rfl rfl rfl ?_
   refine wpL_gs rfl rfl rfl rfl rfl ?_
   refine lq rfl (q_pickT (v := B (true)) rfl rfl rfl) ?_
   refine la (v := B (true)) rfl rfl rfl ?_
   exact ⟨y0, rfl, rfl, (Eq.trans rfl (congrArg B ((decide_eq_true (Or.inl (Or.inl hg3))).symm))), y7, y8, rfl⟩
  ·have hb5 := Eq.trans rfl (congrArg B (decide_eq_false hg3))
   refine gq rfl rfl rfl hb5 (q_move (v := U8 (bAt s k)) rfl rfl) ?_
   refine gq rfl rfl rfl hb5 (q_geq8 rfl rfl rfl) ?_
   refine gq rfl rfl rfl hb5 (q_move (v := B (decide (97 ≤ (bAt s k)))) rfl rfl) ?_
   by_cases hg6 : 97 ≤ (bAt s k)
   ·have hb7 := Eq.trans rfl (congrArg B (decide_eq_true hg6))
    refine gq rfl rfl rfl hb7 (q_move (v := U8 (bAt s k)) rfl rfl) ?_
    refine gq rfl rfl rfl hb7 (q_leq8 rfl rfl rfl) ?_
    refine gq rfl rfl rfl hb5 (q_pickT (v := B (decide ((bAt s k) ≤ 122))) rfl hb7 rfl) ?_
    refine lq rfl (q_pickF (v := B (decide ((bAt s k) ≤ 122))) rfl hb5 rfl) ?_
    refine lm (v := B (decide ((bAt s k) ≤ 122))) rfl rfl rfl ?_
    by_cases hg9 : (bAt s k) ≤ 122
    ·have hb10 := Eq.trans rfl (congrArg B (decide_eq_true hg9))
     refine wpL_gs rfl rfl rfl hb10 rfl ?_
     refine wpL_gs rfl rfl rfl hb10 rfl ?_
     refine wpL_gs rfl rfl rfl hb10 rfl ?_
     refine wpL_gs' rfl rfl rfl rfl ?_
     refine wpL_gs' rfl rfl rfl rfl ?_
     refine wpL_gs rfl rfl rfl hb10 rfl ?_
     refine lq rfl (q_pickT (v := B (true)) rfl hb10 rfl) ?_
     refine la (v := B (true)) rfl rfl rfl ?_
     exact ⟨y0, rfl, rfl, (Eq.trans rfl (congrArg B ((decide_eq_true (Or.inl (Or.inr ⟨hg6, hg9⟩))).symm))), y7, y8, rfl⟩
    ·have hb11 := Eq.trans rfl (congrArg B (decide_eq_false hg9))
     refine gq rfl rfl rfl hb11 (q_move (v := U8 (bAt s k)) rfl rfl) ?_
     refine gq rfl rfl rfl hb11 (q_geq8 rfl rfl rfl) ?_
     refine gq rfl rfl rfl hb11 (q_move (v := B (decide (65 ≤ (bAt s k)))) rfl rfl) ?_
     by_cases hg12 : 65 ≤ (bAt s k)
     ·have hb13 := Eq.trans rfl (congrArg B (decide_eq_true hg12))
      refine gq rfl rfl rfl hb13 (q_move (v := U8 (bAt s k)) rfl rfl) ?_
      refine gq rfl rfl rfl hb13 (q_leq8 rfl rfl rfl) ?_
      refine gq rfl rfl rfl hb11 (q_pickT (v := B (decide ((bAt s k) ≤ 90))) rfl hb13 rfl) ?_
      refine lq rfl (q_pickF (v := B (decide ((bAt s k) ≤ 90))) rfl hb11 rfl) ?_
      refine la (v := B (decide ((bAt s k) ≤ 90))) rfl rfl rfl ?_
      exact ⟨y0, rfl, rfl, (Eq.trans rfl (congrArg B (decide_congr_of ((Iff.rfl).trans (((or_iff_right (not_or.2 ⟨hg3, (fun h => hg9 h.2)⟩)).trans ((and_iff_right hg12).trans Iff.rfl))).symm)))), y7, y8, rfl⟩
     ·have hb14 := Eq.trans rfl (congrArg B (decide_eq_false hg12))
      refine wpL_gs rfl rfl rfl hb14 rfl ?_
      refine wpL_gs rfl rfl rfl hb14 rfl ?_
      refine gq rfl rfl rfl hb11 (q_pickF (v := B (false)) rfl hb14 rfl) ?_
      refine lq rfl (q_pickF (v := B (false)) rfl hb11 rfl) ?_
      refine la (v := B (false)) rfl rfl rfl ?_
      exact ⟨y0, rfl, rfl, (Eq.trans rfl (congrArg B ((decide_eq_false (not_or.2 ⟨(not_or.2 ⟨hg3, (fun h => hg9 h.2)⟩), (fun h => hg12 h.1)⟩)).symm))), y7, y8, rfl⟩
   ·have hb8 := Eq.trans rfl (congrArg B (decide_eq_false hg6))
    refine wpL_gs rfl rfl rfl hb8 rfl ?_
    refine wpL_gs rfl rfl rfl hb8 rfl ?_
    refine gq rfl rfl rfl hb5 (q_pickF (v := B (false)) rfl hb8 rfl) ?_
    refine lq rfl (q_pickF (v := B (false)) rfl hb5 rfl) ?_
    refine lm (v := B (false)) rfl rfl rfl ?_
    refine gq rfl rfl rfl rfl (q_move (v := U8 (bAt s k)) rfl rfl) ?_
    refine gq rfl rfl rfl rfl (q_geq8 rfl rfl rfl) ?_
    refine gq rfl rfl rfl rfl (q_move (v := B (decide (65 ≤ (bAt s k)))) rfl rfl) ?_
    by_cases hg15 : 65 ≤ (bAt s k)
    ·have hb16 := Eq.trans rfl (congrArg B (decide_eq_true hg15))
     refine gq rfl rfl rfl hb16 (q_move (v := U8 (bAt s k)) rfl rfl) ?_
     refine gq rfl rfl rfl hb16 (q_leq8 rfl rfl rfl) ?_
     refine gq rfl rfl rfl rfl (q_pickT (v := B (decide ((bAt s k) ≤ 90))) rfl hb16 rfl) ?_
     refine lq rfl (q_pickF (v := B (decide ((bAt s k) ≤ 90))) rfl rfl rfl) ?_
     refine la (v := B (decide ((bAt s k) ≤ 90))) rfl rfl rfl ?_
     exact ⟨y0, rfl, rfl, (Eq.trans rfl (congrArg B (decide_congr_of ((Iff.rfl).trans (((or_iff_right (not_or.2 ⟨hg3, (fun h => hg6 h.1)⟩)).trans ((and_iff_right hg15).trans Iff.rfl))).symm)))), y7, y8, rfl⟩
    ·have hb17 := Eq.trans rfl (congrArg B (decide_eq_false hg15))
     refine wpL_gs rfl rfl rfl hb17 rfl ?_
     refine wpL_gs rfl rfl rfl hb17 rfl ?_
     refine gq rfl rfl rfl rfl (q_pickF (v := B (false)) rfl hb17 rfl) ?_
     refine lq rfl (q_pickF (v := B (false)) rfl rfl rfl) ?_
     refine la (v := B (false)) rfl rfl rfl ?_
     exact ⟨y0, rfl, rfl, (Eq.trans rfl (congrArg B ((decide_eq_false (not_or.2 ⟨(not_or.2 ⟨hg3, (fun h => hg6 h.1)⟩), (fun h => hg15 h.1)⟩)).symm))), y7, y8, rfl⟩
 clear y0 y7 y8
 rintro f18 _ ⟨y0, y3, y4, y5, y7, y8, rfl⟩
 refine fcr (fun f H => f 0 = SB (s) ∧ f 7 = I ((s.size : Int)) ∧ f 8 = I ((k : Int)) ∧ f 45 = B (decide ((¬ ((((bAt s k) = 95) ∨ ((97 ≤ (bAt s k)) ∧ ((bAt s k) ≤ 122))) ∨ ((65 ≤ (bAt s k)) ∧ ((bAt s k) ≤ 90)))) ∧ ((((k : Int) = 0) ∨ ((bAt s k) < 48)) ∨ (57 < (bAt s k))))) ∧ H0 = H) ?_ ?_
 ·refine lm (v := B (decide ((((bAt s k) = 95) ∨ ((97 ≤ (bAt s k)) ∧ ((bAt s k) ≤ 122))) ∨ ((65 ≤ (bAt s k)) ∧ ((bAt s k) ≤ 90))))) rfl rfl y5 ?_
  refine lq rfl (q_notP rfl rfl) ?_
  refine lm (v := B (decide (¬ ((((bAt s k) = 95) ∨ ((97 ≤ (bAt s k)) ∧ ((bAt s k) ≤ 122))) ∨ ((65 ≤ (bAt s k)) ∧ ((bAt s k) ≤ 90)))))) rfl rfl rfl ?_
  by_cases hg19 : ¬ ((((bAt s k) = 95) ∨ ((97 ≤ (bAt s k)) ∧ ((bAt s k) ≤ 122))) ∨ ((65 ≤ (bAt s k)) ∧ ((bAt s k) ≤ 90)))
  ·have hb20 := Eq.trans rfl (congrArg B (decide_eq_true hg19))
   refine gq rfl rfl rfl hb20 (q_move (v := I ((k : Int))) rfl y3) ?_
   refine gq rfl rfl rfl hb20 (q_eql rfl rfl rfl) ?_
   refine gq rfl rfl rfl hb20 (q_move (v := B (decide ((k : Int) = 0))) rfl rfl) ?_
   by_cases hg22 : (k : Int) = 0
   ·have hb23 := Eq.trans rfl (congrArg B (decide_eq_true hg22))
    refine wpL_gs rfl rfl rfl hb23 rfl ?_
    refine wpL_gs rfl rfl rfl hb23 rfl ?_
    refine gq rfl rfl rfl hb20 (q_pickT (v := B (true)) rfl hb23 rfl) ?_
    refine gq rfl rfl rfl hb20 (q_move (v := B (true)) rfl rfl) ?_
    refine wpL_gs rfl rfl rfl rfl rfl ?_
    refine wpL_gs rfl rfl rfl rfl rfl ?_
    refine gq rfl rfl rfl hb20 (q_pickT (v := B (true)) rfl rfl rfl) ?_
    refine lq rfl (q_pickT (v := B (true)) rfl hb20 rfl) ?_
    exact ⟨y0, y7, y8, (Eq.trans rfl (congrArg B ((decide_eq_true ⟨hg19, (Or.inl (Or.inl hg22))⟩).symm))), rfl⟩
   ·have hb24 := Eq.trans rfl (congrArg B (decide_eq_false hg22))
    refine gq rfl rfl rfl hb24 (q_move (v := U8 (bAt s k)) rfl y4) ?_
    refine gq rfl rfl rfl hb24 (q_lss8 rfl rfl rfl) ?_
    refine gq rfl rfl rfl hb20 (q_pickF (v := B (decide ((bAt s k) < 48))) rfl hb24 rfl) ?_
    refine gq rfl rfl rfl hb20 (q_move (v := B (decide ((bAt s k) < 48))) rfl rfl) ?_
    by_cases hg25 : (bAt s k) < 48
    ·have hb26 := Eq.trans rfl (congrArg B (decide_eq_true hg25))
     refine wpL_gs rfl rfl rfl hb26 rfl ?_
     refine wpL_gs rfl rfl rfl hb26 rfl ?_
     refine gq rfl rfl rfl hb20 (q_pickT (v := B (true)) rfl hb26 rfl) ?_
     refine lq rfl (q_pickT (v := B (true)) rfl hb20 rfl) ?_
     exact ⟨y0, y7, y8, (Eq.trans rfl (congrArg B ((decide_eq_true ⟨hg19, (Or.inl (Or.inr hg25))⟩).symm))), rfl⟩
    ·have hb27 := Eq.trans rfl (congrArg B (decide_eq_false hg25))
     refine gq rfl rfl rfl hb27 (q_move (v := U8 (bAt s k)) rfl y4) ?_
     refine gq rfl rfl rfl hb27 (q_gtr8 rfl rfl rfl) ?_
     refine gq rfl rfl rfl hb20 (q_pickF (v := B (decide (57 < (bAt s k)))) rfl hb27 rfl) ?_
     refine lq rfl (q_pickT (v := B (decide (57 < (bAt s k)))) rfl hb20 rfl) ?_
     exact ⟨y0, y7, y8, (Eq.trans rfl (congrArg B (decide_congr_of ((Iff.rfl).trans (((and_iff_right hg19).trans ((or_iff_right (not_or.2 ⟨hg22, hg25⟩)).trans Iff.rfl))).symm)))), rfl⟩
  ·have hb21 := Eq.trans rfl (congrArg B (decide_eq_false hg19))
   refine wpL_gs rfl rfl rfl hb21 rfl ?_
   refine wpL_gs rfl rfl rfl hb21 rfl ?_
   refine wpL_gs rfl rfl rfl hb21 rfl ?_
   refine wpL_gs' rfl rfl rfl rfl ?_
   refine wpL_gs' rfl rfl rfl rfl ?_
   refine wpL_gs rfl rfl rfl hb21 rfl ?_
   refine wpL_gs rfl rfl rfl hb21 rfl ?_
   refine wpL_gs' rfl rfl rfl rfl ?_
   refine wpL_gs' rfl rfl rfl rfl ?_
   refine wpL_gs rfl rfl rfl hb21 rfl ?_
   refine lq rfl (q_pickF (v := B (false)) rfl hb21 rfl) ?_
   exact ⟨y0, y7, y8, (Eq.trans rfl (congrArg B ((decide_eq_false (fun h => hg19 h.1)).symm))), rfl⟩
 clear y0 y3 y4 y5 y7 y8
 rintro f28 _ ⟨y0, y7, y8, y45, rfl⟩
 refine wpF_condP y45 (fun hbad => ?t30) (fun hbad => ?e30)
 case e30 =>
  refine wpF_skip ?_
  refine wpF_region ?_
  refine lq rfl (q_add rfl y8 rfl (by constructor <;> omega)) ?_
  refine lm (v := I ((k : Int) + 1)) rfl rfl rfl ?_
  refine wpL_nil ?_
  refine ⟨_, ?_, k + 1, rfl, (by omega), (all_succ hp hbad), y0, y7, (Eq.trans rfl (congrArg I (by omega))), rfl⟩
  omega
 refine wpF_seq ?_
 refine wpF_region ?_
 refine la (v := B (false)) rfl rfl rfl ?_
 refine wpL_nil ?_
 refine wpF_ret ?_
 refine ⟨_, resT rfl resN, hS0.frame, ?_⟩
 show (B (false)) = B (decide (isName s))
 exact congrArg B (decide_eq_false (fun h => h.1 k (by omega) hbad)).symm
set_option maxRecDepth 100000 in
theorem Word_L {H0 : Heap} (s : Int)  : CallsH Tryz.prog 42 #[I (s)] H0 (fun rv_ H' => Ext NoB H0 H' ∧ rv_ = B (decide (wordS s))) := by
 have hS0 : St H0 NoB NoB [] H0 := St.start (fun _ h => h.elim)
 refine callsH_of_wpF (args := [I (s)]) (rs := [.tmp 2]) Tryz.func42 rfl Tryz.ntmps42 Tryz.results42 (by kernel_rfl) (Nat.le_of_ble_eq_true rfl) ?_
 have y0 : argF [I (s)] 0 = I (s) := rfl
 generalize argF [I (s)] = f0 at *
 refine wpF_seq ?_
 refine wpF_region ?_
 refine la (v := B (false)) rfl rfl rfl ?_
 refine wpL_nil ?_
 refine fcr (fun f H => f 2 = B (decide ((10 < s) ∧ (s ≤ 18))) ∧ H0 = H) ?_ ?_
 ·refine lm (v := I (s)) rfl rfl y0 ?_
  refine lq rfl (q_gtr rfl rfl rfl) ?_
  refine lm (v := B (decide (10 < s))) rfl rfl rfl ?_
  by_cases hg1 : 10 < s
  ·have hb2 := Eq.trans rfl (congrArg B (decide_eq_true hg1))
   refine gq rfl rfl rfl hb2 (q_move (v := I (s)) rfl y0) ?_
   refine gq rfl rfl rfl hb2 (q_leq rfl rfl rfl) ?_
   refine lq rfl (q_pickT (v := B (decide (s ≤ 18))) rfl hb2 rfl) ?_
   refine la (v := B (decide (s ≤ 18))) rfl rfl rfl ?_
   exact ⟨(Eq.trans rfl (congrArg B (decide_congr_of ((Iff.rfl).trans (((and_iff_right hg1).trans Iff.rfl)).symm)))), rfl⟩
  ·have hb3 := Eq.trans rfl (congrArg B (decide_eq_false hg1))
   refine wpL_gs rfl rfl rfl hb3 rfl ?_
   refine wpL_gs rfl rfl rfl hb3 rfl ?_
   refine lq rfl (q_pickF (v := B (false)) rfl hb3 rfl) ?_
   refine la (v := B (false)) rfl rfl rfl ?_
   exact ⟨(Eq.trans rfl (congrArg B ((decide_eq_false (fun h => hg1 h.1)).symm))), rfl⟩
 clear y0
 rintro f4 _ ⟨y2, rfl⟩
 refine wpF_ret ?_
 refine ⟨_, resT y2 resN, hS0.frame, ?_⟩
 show (B (decide ((10 < s) ∧ (s ≤ 18)))) = B (decide (wordS s))
 rfl
set_option maxRecDepth 100000 in
theorem isSort_L {H0 : Heap} (s : Int)  : CallsH Tryz.prog 48 #[I (s)] H0 (fun rv_ H' => Ext NoB H0 H' ∧ rv_ = B (decide (isSortS s))) := by
 have hS0 : St H0 NoB NoB [] H0 := St.start (fun _ h => h.elim)
 refine callsH_of_wpF (args := [I (s)]) (rs := [.tmp 2]) Tryz.func48 rfl Tryz.ntmps48 Tryz.results48 (by kernel_rfl) (Nat.le_of_ble_eq_true rfl) ?_
 have y0 : argF [I (s)] 0 = I (s) := rfl
 generalize argF [I (s)] = f0 at *
 refine wpF_seq ?_
 refine wpF_region ?_
 refine la (v := B (false)) rfl rfl rfl ?_
 refine wpL_nil ?_
 refine fcr (fun f H => f 2 = B (decide (((1 ≤ s) ∧ (s ≤ 5)) ∨ (wordS s))) ∧ St H0 NoB NoB [] H) ?_ ?_
 ·refine lm (v := I (s)) rfl rfl y0 ?_
  refine lq rfl (q_geq rfl rfl rfl) ?_
  refine lm (v := B (decide (1 ≤ s))) rfl rfl rfl ?_
  by_cases hg1 : 1 ≤ s
  ·have hb2 := Eq.trans rfl (congrArg B (decide_eq_true hg1))
   refine gq rfl rfl rfl hb2 (q_move (v := I (s)) rfl y0) ?_
   refine gq rfl rfl rfl hb2 (q_leq rfl rfl rfl) ?_
   refine lq rfl (q_pickT (v := B (decide (s ≤ 5))) rfl hb2 rfl) ?_
   refine lm (v := B (decide (s ≤ 5))) rfl rfl rfl ?_
   by_cases hg4 : s ≤ 5
   ·have hb5 := Eq.trans rfl (congrArg B (decide_eq_true hg4))
    refine wpL_gs rfl rfl rfl hb5 rfl ?_
    refine wpL_gs rfl rfl rfl hb5 rfl ?_
    refine lq rfl (q_pickT (v := B (true)) rfl hb5 rfl) ?_
    refine la (v := B (true)) rfl rfl rfl ?_
    exact ⟨(Eq.trans rfl (congrArg B ((decide_eq_true (Or.inl ⟨hg1, hg4⟩)).symm))), hS0⟩
   ·have hb6 := Eq.trans rfl (congrArg B (decide_eq_false hg4))
    refine gq rfl rfl rfl hb6 (q_move (v := I (s)) rfl y0) ?_
    refine wpL_go rfl rfl rfl hb6 ?_
    refine e_call rfl Tryz.call42 (arr1 (v0 := I (s)) rfl) (Word_L s) ?_
    rintro _ H7 ⟨hxx, rfl⟩
    have hS8 := hS0.ext hxx
    refine lq rfl (q_pickF (v := B (decide (wordS s))) rfl hb6 rfl) ?_
    refine la (v := B (decide (wordS s))) rfl rfl rfl ?_
    exact ⟨(Eq.trans rfl (congrArg B (decide_congr_of ((Iff.rfl).trans (((or_iff_right (fun h => hg4 h.2)).trans Iff.rfl)).symm)))), hS8⟩
  ·have hb3 := Eq.trans rfl (congrArg B (decide_eq_false hg1))
   refine wpL_gs rfl rfl rfl hb3 rfl ?_
   refine wpL_gs rfl rfl rfl hb3 rfl ?_
   refine lq rfl (q_pickF (v := B (false)) rfl hb3 rfl) ?_
   refine lm (v := B (false)) rfl rfl rfl ?_
   refine gq rfl rfl rfl rfl (q_move (v := I (s)) rfl y0) ?_
   refine wpL_go rfl rfl rfl rfl ?_
   refine e_call rfl Tryz.call42 (arr1 (v0 := I (s)) rfl) (Word_L s) ?_
   rintro _ H10 ⟨hxx, rfl⟩
   have hS11 := hS0.ext hxx
   refine lq rfl (q_pickF (v := B (decide (wordS s))) rfl rfl rfl) ?_
   refine la (v := B (decide (wordS s))) rfl rfl rfl ?_
   exact ⟨(Eq.trans rfl (congrArg B (decide_congr_of ((Iff.rfl).trans (((or_iff_right (fun h => hg1 h.1)).trans Iff.rfl)).symm)))), hS11⟩
 clear y0
 rintro f13 H13 ⟨y2, hS13⟩
 refine wpF_ret ?_
 refine ⟨_, resT y2 resN, hS13.frame, ?_⟩
 show (B (decide (((1 ≤ s) ∧ (s ≤ 5)) ∨ (wordS s)))) = B (decide (isSortS s))
 rfl
set_option maxRecDepth 100000 in
theorem numeric_L {H0 : Heap} (s : Int)  : CallsH Tryz.prog 86 #[I (s)] H0 (fun rv_ H' => Ext NoB H0 H' ∧ rv_ = B (decide (numS s))) := by
 have hS0 : St H0 NoB NoB [] H0 := St.start (fun _ h => h.elim)
 refine callsH_of_wpF (args := [I (s)]) (rs := [.tmp 2]) Tryz.func86 rfl Tryz.ntmps86 Tryz.results86 (by kernel_rfl) (Nat.le_of_ble_eq_true rfl) ?_
 have y0 : argF [I (s)] 0 = I (s) := rfl
 generalize argF [I (s)] = f0 at *
 refine wpF_seq ?_
 refine wpF_region ?_
 refine la (v := B (false)) rfl rfl rfl ?_
 refine wpL_nil ?_
 refine fcr (fun f H => f 2 = B (decide ((s = 2) ∨ (s = 3))) ∧ H0 = H) ?_ ?_
 ·refine lm (v := I (s)) rfl rfl y0 ?_
  refine lq rfl (q_eql rfl rfl rfl) ?_
  refine lm (v := B (decide (s = 2))) rfl rfl rfl ?_
  by_cases hg1 : s = 2
  ·have hb2 := Eq.trans rfl (congrArg B (decide_eq_true hg1))
   refine wpL_gs rfl rfl rfl hb2 rfl ?_
   refine wpL_gs rfl rfl rfl hb2 rfl ?_
   refine lq rfl (q_pickT (v := B (true)) rfl hb2 rfl) ?_
   refine la (v := B (true)) rfl rfl rfl ?_
   exact ⟨(Eq.trans rfl (congrArg B ((decide_eq_true (Or.inl hg1)).symm))), rfl⟩
  ·have hb3 := Eq.trans rfl (congrArg B (decide_eq_false hg1))
   refine gq rfl rfl rfl hb3 (q_move (v := I (s)) rfl y0) ?_
   refine gq rfl rfl rfl hb3 (q_eql rfl rfl rfl) ?_
   refine lq rfl (q_pickF (v := B (decide (s = 3))) rfl hb3 rfl) ?_
   refine la (v := B (decide (s = 3))) rfl rfl rfl ?_
   exact ⟨(Eq.trans rfl (congrArg B (decide_congr_of ((Iff.rfl).trans (((or_iff_right hg1).trans Iff.rfl)).symm)))), rfl⟩
 clear y0
 rintro f4 _ ⟨y2, rfl⟩
 refine wpF_ret ?_
 refine ⟨_, resT y2 resN, hS0.frame, ?_⟩
 show (B (decide ((s = 2) ∨ (s = 3)))) = B (decide (numS s))
 rfl
set_option maxRecDepth 100000 in
theorem Sort_2 {H0 : Heap} (s : Int)  : CallsH Tryz.prog 85 #[I (s)] H0 (fun rv_ H' => Ext NoB H0 H' ∧ rv_ = B (decide (s = 1))) := by
 have hS0 : St H0 NoB NoB [] H0 := St.start (fun _ h => h.elim)
 refine callsH_of_wpF (args := [I (s)]) (rs := [.tmp 2]) Tryz.func85 rfl Tryz.ntmps85 Tryz.results85 (by kernel_rfl) (Nat.le_of_ble_eq_true rfl) ?_
 have y0 : argF [I (s)] 0 = I (s) := rfl
 generalize argF [I (s)] = f0 at *
 refine wpF_seq ?_
 refine wpF_region ?_
 refine la (v := B (false)) rfl rfl rfl ?_
 refine wpL_nil ?_
 refine wpF_seq ?_
 refine wpF_region ?_
 refine lm (v := I (s)) rfl rfl y0 ?_
 refine lq rfl (q_eql rfl rfl rfl) ?_
 refine la (v := B (decide (s = 1))) rfl rfl rfl ?_
 refine wpL_nil ?_
 refine wpF_ret ?_
 refine ⟨_, resT rfl resN, hS0.frame, ?_⟩
 show (B (decide (s = 1))) = B (decide (s = 1))
 rfl
set_option maxRecDepth 100000 in
theorem Sort_3 {H0 : Heap} (s : Int)  : CallsH Tryz.prog 88 #[I (s)] H0 (fun rv_ H' => Ext NoB H0 H' ∧ rv_ = B (decide (s = 2))) := by
 have hS0 : St H0 NoB NoB [] H0 := St.start (fun _ h => h.elim)
 refine callsH_of_wpF (args := [I (s)]) (rs := [.tmp 2]) Tryz.func88 rfl Tryz.ntmps88 Tryz.results88 (by kernel_rfl) (Nat.le_of_ble_eq_true rfl) ?_
 have y0 : argF [I (s)] 0 = I (s) := rfl
 generalize argF [I (s)] = f0 at *
 refine wpF_seq ?_
 refine wpF_region ?_
 refine la (v := B (false)) rfl rfl rfl ?_
 refine wpL_nil ?_
 refine wpF_seq ?_
 refine wpF_region ?_
 refine lm (v := I (s)) rfl rfl y0 ?_
 refine lq rfl (q_eql rfl rfl rfl) ?_
 refine la (v := B (decide (s = 2))) rfl rfl rfl ?_
 refine wpL_nil ?_
 refine wpF_ret ?_
 refine ⟨_, resT rfl resN, hS0.frame, ?_⟩
 show (B (decide (s = 2))) = B (decide (s = 2))
 rfl
set_option maxRecDepth 100000 in
theorem checkDecls_2 {H0 : Heap} (s : Int)  : CallsH Tryz.prog 49 #[I (s)] H0 (fun rv_ H' => Ext NoB H0 H' ∧ rv_ = B (decide (s ≠ 4))) := by
 have hS0 : St H0 NoB NoB [] H0 := St.start (fun _ h => h.elim)
 refine callsH_of_wpF (args := [I (s)]) (rs := [.tmp 2]) Tryz.func49 rfl Tryz.ntmps49 Tryz.results49 (by kernel_rfl) (Nat.le_of_ble_eq_true rfl) ?_
 have y0 : argF [I (s)] 0 = I (s) := rfl
 generalize argF [I (s)] = f0 at *
 refine wpF_seq ?_
 refine wpF_region ?_
 refine la (v := B (false)) rfl rfl rfl ?_
 refine wpL_nil ?_
 refine wpF_seq ?_
 refine wpF_region ?_
 refine lm (v := I (s)) rfl rfl y0 ?_
 refine lq rfl (q_neq rfl rfl rfl) ?_
 refine la (v := B (decide (s ≠ 4))) rfl rfl rfl ?_
 refine wpL_nil ?_
 refine wpF_ret ?_
 refine ⟨_, resT rfl resN, hS0.frame, ?_⟩
 show (B (decide (s ≠ 4))) = B (decide (s ≠ 4))
 rfl
set_option maxRecDepth 100000 in
theorem whole_L {H0 : Heap} (p : Prop) [Decidable p]  : CallsH Tryz.prog 87 #[B (decide (p))] H0 (fun rv_ H' => Ext NoB H0 H' ∧ rv_ = I (wholeS p)) := by
 have hS0 : St H0 NoB NoB [] H0 := St.start (fun _ h => h.elim)
 refine callsH_of_wpF (args := [B (decide (p))]) (rs := [.tmp 2]) Tryz.func87 rfl Tryz.ntmps87 Tryz.results87 (by kernel_rfl) (Nat.le_of_ble_eq_true rfl) ?_
 have y0 : argF [B (decide (p))] 0 = B (decide (p)) := rfl
 generalize argF [B (decide (p))] = f0 at *
 refine wpF_seq ?_
 refine wpF_region ?_
 refine la (v := I (0)) rfl rfl rfl ?_
 refine wpL_nil ?_
 refine wpF_seq ?_
 refine wpF_seq ?_
 refine wpF_region ?_
 refine lm (v := B (decide (p))) rfl rfl y0 ?_
 refine wpL_nil ?_
 refine wpF_condP rfl (fun hp => ?t2) (fun hp => ?e2)
 case t2 =>
  refine wpF_seq ?_
  refine wpF_region ?_
  refine la (v := I (2)) rfl rfl rfl ?_
  refine wpL_nil ?_
  refine wpF_ret ?_
  refine ⟨_, resT rfl resN, hS0.frame, ?_⟩
  show (I (2)) = I (wholeS p)
  exact congrArg I (if_pos hp).symm
 refine wpF_skip ?_
 refine wpF_seq ?_
 refine wpF_region ?_
 refine la (v := I (3)) rfl rfl rfl ?_
 refine wpL_nil ?_
 refine wpF_ret ?_
 refine ⟨_, resT rfl resN, hS0.frame, ?_⟩
 show (I (3)) = I (wholeS p)
 exact congrArg I (if_neg hp).symm
set_option maxRecDepth 100000 in
theorem whole_LB {H0 : Heap} (p : Bool)  : CallsH Tryz.prog 87 #[B (p)] H0 (fun rv_ H' => Ext NoB H0 H' ∧ rv_ = I (wholeS (p = true))) := by
 have hS0 : St H0 NoB NoB [] H0 := St.start (fun _ h => h.elim)
 refine callsH_of_wpF (args := [B (p)]) (rs := [.tmp 2]) Tryz.func87 rfl Tryz.ntmps87 Tryz.results87 (by kernel_rfl) (Nat.le_of_ble_eq_true rfl) ?_
 have y0 : argF [B (p)] 0 = B (p) := rfl
 generalize argF [B (p)] = f0 at *
 refine wpF_seq ?_
 refine wpF_region ?_
 refine la (v := I (0)) rfl rfl rfl ?_
 refine wpL_nil ?_
 refine wpF_seq ?_
 refine wpF_seq ?_
 refine wpF_region ?_
 refine lm (v := B (p)) rfl rfl y0 ?_
 refine wpL_nil ?_
 refine wpF_cond rfl (fun hp => ?t2) (fun hp => ?e2)
 case t2 =>
  refine wpF_seq ?_
  refine wpF_region ?_
  refine la (v := I (2)) rfl rfl rfl ?_
  refine wpL_nil ?_
  refine wpF_ret ?_
  refine ⟨_, resT rfl resN, hS0.frame, ?_⟩
  show (I (2)) = I (wholeS (p = true))
  exact congrArg I (if_pos hp).symm
 refine wpF_skip ?_
 refine wpF_seq ?_
 refine wpF_region ?_
 refine la (v := I (3)) rfl rfl rfl ?_
 refine wpL_nil ?_
 refine wpF_ret ?_
 refine ⟨_, resT rfl resN, hS0.frame, ?_⟩
 show (I (3)) = I (wholeS (p = true))
 exact congrArg I (if_neg (by simpa using hp)).symm
set_option maxRecDepth 100000 in
theorem IndexFuncD {H0 : Heap} (vs vf : Value) (l : List Decl) (gp : Decl → Bool) (rs : Rd NoB H0 vs l) (hf : ∀ u x, x ∈ l → ∀ H, Ext NoB H0 H → Rd NoB H u x → FnH Tryz.prog vf #[u] H (fun rv H' => Ext NoB H H' ∧ rv = B (gp x))) : CallsH Tryz.prog 80 #[vs, vf] H0 (fun rv_ H' => Ext NoB H0 H' ∧ rv_ = I (idxOf gp l)) := by
 have hsm : l.length * 48 ≤ 140737488355328 := (Rd.list.1 rs).bound
 have hS0 : St H0 NoB NoB [rdE vs l] H0 := St.arg (St.start (fun _ h => h.elim)) (Bl0.nil) rs (fun _ h => h)
 refine callsH_of_wpF (args := [vs, vf]) (rs := [.tmp 4]) Tryz.func80 rfl Tryz.ntmps80 Tryz.results80 (by kernel_rfl) (Nat.le_of_ble_eq_true rfl) ?_
 have y0 : argF [vs, vf] 0 = vs := rfl
 have y1 : argF [vs, vf] 1 = vf := rfl
 generalize argF [vs, vf] = f0 at *
 refine wpF_seq ?_
 refine wpF_region ?_
 refine la (v := I (0)) rfl rfl rfl ?_
 refine wpL_nil ?_
 refine wpF_seq ?_
 refine wpF_seq ?_
 refine wpF_region ?_
 refine lm (v := vs) rfl rfl y0 ?_
 refine lq rfl (q_lenRd rfl Tryz.underlying22 rfl (hS0.rdl 0 rfl)) ?_
 refine lm (v := I (0)) rfl rfl rfl ?_
 refine wpL_nil ?_
 refine wpF_block ?_
 refine wpF_loop (fun mz f H => ∃ (k : Nat), mz = l.length - k ∧ (k ≤ l.length) ∧ (∀ j, j < k → gp (nth l j) = false) ∧ f 0 = vs ∧ f 1 = vf ∧ f 7 = I ((l.length : Int)) ∧ f 8 = I ((k : Int)) ∧ St H0 NoB NoB [rdE vs l] H) (l.length - 0) ?_ ?_
 ·exact ⟨0, rfl, Nat.zero_le _, (fun j hj => absurd hj (Nat.not_lt_zero j)), y0, y1, rfl, (Eq.trans rfl (congrArg I (by omega))), hS0⟩
 intro m1 f1 H1 hI1
 clear y0 y1
 obtain ⟨k, hm1, hk, hno, y0, y1, y7, y8, hS1⟩ := hI1
 refine wpF_seq ?_
 refine wpF_region ?_
 refine lq rfl (q_lss rfl y8 y7) ?_
 refine wpL_nil ?_
 refine wpF_seq ?_
 refine wpF_condP rfl (fun hlt => ?t10) (fun hlt => ?e10)
 case e10 =>
  refine wpF_exit ?_
  refine atX_here ?_
  refine wpF_seq ?_
  refine wpF_region ?_
  refine la (v := I (-1)) rfl rfl rfl ?_
  refine wpL_nil ?_
  refine wpF_ret ?_
  refine ⟨_, resT rfl resN, hS1.frame, ?_⟩
  show (I (-1)) = I (idxOf gp l)
  exact congrArg I (idxOf_no fun j hj => hno j (by omega)).symm
 refine wpF_skip ?_
 refine wpF_seq ?_
 refine wpF_block ?_
 refine wpF_seq ?_
 refine wpF_region ?_
 refine lm (v := I ((k : Int))) rfl rfl y8 ?_
 refine la (v := I ((k : Int))) rfl rfl rfl ?_
 refine wpL_nil ?_
 refine wpF_seq ?_
 refine wpF_region ?_
 refine lm (v := vf) rfl rfl y1 ?_
 refine lm (v := vs) rfl rfl y0 ?_
 refine lm (v := I ((k : Int))) rfl rfl rfl ?_
 refine lq rfl (q_indexRd (k := k) rfl Tryz.underlying22 el_Decl_43_AskC1 rfl rfl (hS1.rdl 0 rfl) (by omega) (by omega)) ?_
 obtain ⟨u3, huu3, hlu3⟩ := (Rd.list.1 (hS1.rdS 0 rfl)).elem k (by omega)
 obtain ⟨u3n1, rfl, hu30, hu31, hu32⟩ := Rd.decl.1 huu3
 have hS4 := hS1.rd hu31
 refine lq rfl (q_loadE rfl rfl (hlu3 Tryz.prog 43 _ el_Decl_43_AskC1 (fun _ h => False.elim h))) ?_
 refine lo rfl ?_
 refine e_callF rfl rfl (arr1 (v0 := Vg #[SB ((nth l k).Name), u3n1, I ((nth l k).Srt)]) rfl) (hf _ _ (nth_mem (by omega)) _ hS4.frame (Rd.decl.2 ⟨_, rfl, (by assumption), (hS4.rdN 0 rfl), (by assumption)⟩)) ?_
 rintro _ H5 ⟨hxx, rfl⟩
 have hS6 := hS4.ext hxx
 refine wpL_nil ?_
 refine wpF_cond rfl (fun hg => ?t9) (fun hg => ?e9)
 case e9 =>
  refine wpF_skip ?_
  refine wpF_region ?_
  refine lq rfl (q_add rfl y8 rfl (by constructor <;> omega)) ?_
  refine lm (v := I ((k : Int) + 1)) rfl rfl rfl ?_
  refine wpL_nil ?_
  refine ⟨_, ?_, k + 1, rfl, (by omega), (all_succ hno (by simpa using hg)), y0, y1, y7, (Eq.trans rfl (congrArg I (by omega))), (hS6.drop (sn (sk (List.Sublist.slnil))))⟩
  omega
 refine wpF_seq ?_
 refine wpF_region ?_
 refine lm (v := I ((k : Int))) rfl rfl rfl ?_
 refine la (v := I ((k : Int))) rfl rfl rfl ?_
 refine wpL_nil ?_
 refine wpF_ret ?_
 refine ⟨_, resT rfl resN, hS6.frame, ?_⟩
 show (I ((k : Int))) = I (idxOf gp l)
 exact congrArg I (idxOf_at (by omega) hno (by simpa using hg)).symm
set_option maxRecDepth 100000 in
theorem ContainsFuncD {H0 : Heap} (vs vf : Value) (l : List Decl) (gp : Decl → Bool) (rs : Rd NoB H0 vs l) (hf : ∀ u x, x ∈ l → ∀ H, Ext NoB H0 H → Rd NoB H u x → FnH Tryz.prog vf #[u] H (fun rv H' => Ext NoB H H' ∧ rv = B (gp x))) : CallsH Tryz.prog 46 #[vs, vf] H0 (fun rv_ H' => Ext NoB H0 H' ∧ rv_ = B (l.any gp)) := by
 have hS0 : St H0 NoB NoB [rdE vs l] H0 := St.arg (St.start (fun _ h => h.elim)) (Bl0.nil) rs (fun _ h => h)
 refine callsH_of_wpF (args := [vs, vf]) (rs := [.tmp 4]) Tryz.func46 rfl Tryz.ntmps46 Tryz.results46 (by kernel_rfl) (Nat.le_of_ble_eq_true rfl) ?_
 have y0 : argF [vs, vf] 0 = vs := rfl
 have y1 : argF [vs, vf] 1 = vf := rfl
 generalize argF [vs, vf] = f0 at *
 refine wpF_seq ?_
 refine wpF_region ?_
 refine la (v := B (false)) rfl rfl rfl ?_
 refine wpL_nil ?_
 refine wpF_seq ?_
 refine wpF_region ?_
 refine lm (v := vs) rfl rfl y0 ?_
 refine lm (v := vf) rfl rfl y1 ?_
 refine lo rfl ?_
 refine e_call rfl Tryz.call80 (arr2 (v0 := vs) (v1 := vf) rfl rfl) (IndexFuncD vs vf l gp (hS0.rdN 0 rfl) (fun u x hx H hE hr => hf u x hx H (hS0.frame.trans hE) hr)) ?_
 rintro _ H1 ⟨hxx, rfl⟩
 have hS2 := hS0.ext hxx
 refine lq rfl (q_geq rfl rfl rfl) ?_
 refine la (v := B (decide (0 ≤ (idxOf gp l)))) rfl rfl rfl ?_
 refine wpL_nil ?_
 refine wpF_ret ?_
 refine ⟨_, resT rfl resN, hS2.frame, ?_⟩
 show (B (decide (0 ≤ (idxOf gp l)))) = B (l.any gp)
 exact congrArg B (bool_congr_of idxOf_any.symm).symm
set_option maxRecDepth 100000 in
theorem Find_1 {H0 : Heap} (vd : Value) (gx : Nat) (d : Decl) (nm : Str) (h6dName : d.Name.size ≤ maxLen) (rvd : Rd NoB H0 vd d.Args) (h6dSrt : In64 d.Srt) (hb : H0[gx]? = some (.cells #[SB nm] 9)) : CallsH Tryz.prog 81 #[Vg #[SB (d.Name), vd, I (d.Srt)], PT gx 0] H0 (fun rv_ H' => Ext NoB H0 H' ∧ rv_ = B (sameName nm d)) := by
 have hS0 : St H0 NoB NoB [fixE gx (.cells #[SB (nm)] 9), rdE vd d.Args] H0 := St.argFix (St.arg (St.start (fun _ h => h.elim)) (Bl0.nil) rvd (fun _ h => h)) (Bl0.cons (Bl0.nil)) hb (fun h => h)
 refine callsH_of_wpF (args := [Vg #[SB (d.Name), vd, I (d.Srt)], PT gx 0]) (rs := [.tmp 3]) Tryz.func81 rfl Tryz.ntmps81 Tryz.results81 (by kernel_rfl) (Nat.le_of_ble_eq_true rfl) ?_
 have y0 : argF [Vg #[SB (d.Name), vd, I (d.Srt)], PT gx 0] 0 = Vg #[SB (d.Name), vd, I (d.Srt)] := rfl
 have y1 : argF [Vg #[SB (d.Name), vd, I (d.Srt)], PT gx 0] 1 = PT gx 0 := rfl
 generalize argF [Vg #[SB (d.Name), vd, I (d.Srt)], PT gx 0] = f0 at *
 refine wpF_seq ?_
 refine wpF_region ?_
 refine lo rfl ?_
 refine e_box (v := Vg #[SB (d.Name), vd, I (d.Srt)]) rfl y0 hS0 (fun g1 H2 hS3 hxx => ?_)
 refine la (v := B (false)) rfl rfl rfl ?_
 refine wpL_nil ?_
 refine wpF_seq ?_
 refine wpF_region ?_
 refine lq rfl (q_fieldAddr rfl Tryz.underlying43 rfl Tryz.sizeOf9 rfl) ?_
 refine lq rfl (q_loadBlk rfl rfl Tryz.isAgg9 (hS3.blk 0 rfl) rfl (fun h => h)) ?_
 refine lq rfl (q_loadBlk rfl y1 Tryz.isAgg9 (hS3.fixd 1 rfl) rfl (fun h => h)) ?_
 refine lq rfl (q_eqlS rfl rfl rfl) ?_
 refine la (v := B (decide (sEq d.Name nm))) rfl rfl rfl ?_
 refine wpL_nil ?_
 refine wpF_ret ?_
 refine ⟨_, resT rfl resN, hS3.frame, ?_⟩
 show (B (decide (sEq d.Name nm))) = B (sameName nm d)
 rfl
set_option maxRecDepth 100000 in
theorem Find_L {H0 : Heap} (vD vN vH : Value) (a : Ask) (nm : Str) (rvD : Rd NoB H0 vD a.Decls) (rvN : Rd NoB H0 vN a.Nodes) (rvH : Rd NoB H0 vH a.Hold) : CallsH Tryz.prog 51 #[Vg #[vD, vN, vH], SB (nm)] H0 (fun rv_ H' => Ext NoB H0 H' ∧ rv_ = I (findD a.Decls nm)) := by
 have hS0 : St H0 NoB NoB [rdE vD a.Decls, rdE vN a.Nodes, rdE vH a.Hold] H0 := St.arg (St.arg (St.arg (St.start (fun _ h => h.elim)) (Bl0.nil) rvH (fun _ h => h)) (Bl0.cons (Bl0.nil)) rvN (fun _ h => h)) (Bl0.cons (Bl0.cons (Bl0.nil))) rvD (fun _ h => h)
 refine callsH_of_wpF (args := [Vg #[vD, vN, vH], SB (nm)]) (rs := [.tmp 4]) Tryz.func51 rfl Tryz.ntmps51 Tryz.results51 (by kernel_rfl) (Nat.le_of_ble_eq_true rfl) ?_
 have y0 : argF [Vg #[vD, vN, vH], SB (nm)] 0 = Vg #[vD, vN, vH] := rfl
 have y1 : argF [Vg #[vD, vN, vH], SB (nm)] 1 = SB (nm) := rfl
 generalize argF [Vg #[vD, vN, vH], SB (nm)] = f0 at *
 refine wpF_seq ?_
 refine wpF_region ?_
 refine lo rfl ?_
 refine e_box (v := Vg #[vD, vN, vH]) rfl y0 hS0 (fun g1 H2 hS3 hxx => ?_)
 refine lo rfl ?_
 refine e_box (v := SB (nm)) rfl y1 hS3 (fun g4 H5 hS6 hxx => ?_)
 refine la (v := I (0)) rfl rfl rfl ?_
 refine wpL_nil ?_
 refine wpF_seq ?_
 refine wpF_region ?_
 refine lq rfl (q_fieldAddr rfl Tryz.underlying26 rfl Tryz.sizeOf22 rfl) ?_
 refine lq rfl (q_loadBlk rfl rfl Tryz.isAgg22 (hS6.blk 1 rfl) rfl (fun h => h)) ?_
 refine lq rfl (q_makeFunc (fi' := #[]) rfl (by simp) (arr1 (v0 := PT g4 0) rfl)) ?_
 refine lo rfl ?_
 refine e_call rfl Tryz.call80 (arr2 (v0 := vD) (v1 := Value.func (.func 81) #[] #[PT g4 0]) rfl rfl) (IndexFuncD vD (Value.func (.func 81) #[] #[PT g4 0]) a.Decls (sameName nm) (hS6.rdN 2 rfl) (fun u x hx H hE hr => by obtain ⟨_, rfl, hd1, hd2, hd3⟩ := Rd.decl.1 hr; exact ⟨_, _, rfl, Tryz.call81, Find_1 _ g4 x nm hd1 hd2 hd3 (hE.blk (hS6.blk 0 rfl))⟩)) ?_
 rintro _ H7 ⟨hxx, rfl⟩
 have hS8 := hS6.ext hxx
 refine la (v := I (idxOf (sameName nm) a.Decls)) rfl rfl rfl ?_
 refine wpL_nil ?_
 refine wpF_ret ?_
 refine ⟨_, resT rfl resN, hS8.frame, ?_⟩
 show (I (idxOf (sameName nm) a.Decls)) = I (findD a.Decls nm)
 rfl
set_option maxRecDepth 100000 in
theorem checkDecls_1 {H0 : Heap} (vx : Value) (gx : Nat) (vd : Value) (x d : Decl) (h6xName : x.Name.size ≤ maxLen) (rvx : Rd NoB H0 vx x.Args) (h6xSrt : In64 x.Srt) (hb : H0[gx]? = some (.cells #[SB d.Name, vd, I d.Srt] 43)) (hsd : d.Name.size ≤ maxLen) : CallsH Tryz.prog 47 #[Vg #[SB (x.Name), vx, I (x.Srt)], PT gx 0] H0 (fun rv_ H' => Ext NoB H0 H' ∧ rv_ = B (sameName d.Name x)) := by
 have hS0 : St H0 NoB NoB [fixE gx (.cells #[SB (d.Name), vd, I (d.Srt)] 43), rdE vx x.Args] H0 := St.argFix (St.arg (St.start (fun _ h => h.elim)) (Bl0.nil) rvx (fun _ h => h)) (Bl0.cons (Bl0.nil)) hb (fun h => h)
 refine callsH_of_wpF (args := [Vg #[SB (x.Name), vx, I (x.Srt)], PT gx 0]) (rs := [.tmp 3]) Tryz.func47 rfl Tryz.ntmps47 Tryz.results47 (by kernel_rfl) (Nat.le_of_ble_eq_true rfl) ?_
 have y0 : argF [Vg #[SB (x.Name), vx, I (x.Srt)], PT gx 0] 0 = Vg #[SB (x.Name), vx, I (x.Srt)] := rfl
 have y1 : argF [Vg #[SB (x.Name), vx, I (x.Srt)], PT gx 0] 1 = PT gx 0 := rfl
 generalize argF [Vg #[SB (x.Name), vx, I (x.Srt)], PT gx 0] = f0 at *
 refine wpF_seq ?_
 refine wpF_region ?_
 refine lo rfl ?_
 refine e_box (v := Vg #[SB (x.Name), vx, I (x.Srt)]) rfl y0 hS0 (fun g1 H2 hS3 hxx => ?_)
 refine la (v := B (false)) rfl rfl rfl ?_
 refine wpL_nil ?_
 refine wpF_seq ?_
 refine wpF_region ?_
 refine lq rfl (q_fieldAddr rfl Tryz.underlying43 rfl Tryz.sizeOf9 rfl) ?_
 refine lq rfl (q_loadBlk rfl rfl Tryz.isAgg9 (hS3.blk 0 rfl) rfl (fun h => h)) ?_
 refine lq rfl (q_fieldAddr rfl Tryz.underlying43 rfl Tryz.sizeOf9 y1) ?_
 refine lq rfl (q_loadBlk rfl rfl Tryz.isAgg9 (hS3.fixd 1 rfl) rfl (fun h => h)) ?_
 refine lq rfl (q_eqlS rfl rfl rfl) ?_
 refine la (v := B (decide (sEq x.Name d.Name))) rfl rfl rfl ?_
 refine wpL_nil ?_
 refine wpF_ret ?_
 refine ⟨_, resT rfl resN, hS3.frame, ?_⟩
 show (B (decide (sEq x.Name d.Name))) = B (sameName d.Name x)
 rfl
set_option maxHeartbeats 1000000 in
set_option maxRecDepth 100000 in
theorem checkDecls_L {H0 : Heap} (vl : Value) (l : List Decl) (rl : Rd NoB H0 vl l) : CallsH Tryz.prog 26 #[vl] H0 (fun rv_ H' => Ext NoB H0 H' ∧ rv_ = Vg #[I (declsF l).1, I (declsF l).2]) := by
 have hsm : l.length * 48 ≤ 140737488355328 := (Rd.list.1 rl).bound
 have hS0 : St H0 NoB NoB [rdE vl l] H0 := St.arg (St.start (fun _ h => h.elim)) (Bl0.nil) rl (fun _ h => h)
 refine callsH_of_wpF (args := [vl]) (rs := [.cell 2 32]) Tryz.func26 rfl Tryz.ntmps26 Tryz.results26 (by kernel_rfl) (Nat.le_of_ble_eq_true rfl) ?_
 have y0 : argF [vl] 0 = vl := rfl
 generalize argF [vl] = f0 at *
 refine wpF_seq ?_
 refine wpF_region ?_
 refine lo rfl ?_
 refine e_alloc rfl Tryz.zeroValue32 hS0 (fun g1 H2 hS3 hxx => ?_)
 refine wpL_nil ?_
 refine wpF_seq ?_
 refine wpF_seq ?_
 refine wpF_region ?_
 refine lm (v := vl) rfl rfl y0 ?_
 refine lq rfl (q_lenRd rfl Tryz.underlying22 rfl (hS3.rdl 1 rfl)) ?_
 refine lq rfl (q_gtr rfl rfl rfl) ?_
 refine wpL_nil ?_
 refine wpF_condP rfl (fun hmany => ?t53) (fun hmany => ?e53)
 case t53 =>
  refine wpF_seq ?_
  refine wpF_region ?_
  refine lq rfl (q_build (v := Vg #[I (2), I (0)]) rfl (par1 (v0 := I (2)) rfl) (fun w__ => by kernel_rfl)) ?_
  refine lo rfl ?_
  refine e_storeBlkA (cs' := #[I (2), I (0)]) rfl rfl rfl Tryz.sizeOf32 rfl rfl (fa rfl (fa rfl fe)) hS3 (fun H5 hS6 hxx => ?_)
  refine wpL_nil ?_
  refine wpF_ret ?_
  refine ⟨_, resC rfl (loadV_blkA Tryz.isAgg32 Tryz.sizeOf32 rfl (hS6.blk 0 rfl)) (resN), hS6.frame, ?_⟩
  show (Vg #[I (2), I (0)]) = Vg #[I (declsF l).1, I (declsF l).2]
  have hq := declsF_many hmany
  rw [hq]
 refine wpF_skip ?_
 refine wpF_seq ?_
 refine wpF_seq ?_
 refine wpF_region ?_
 refine lm (v := vl) rfl rfl y0 ?_
 refine lq rfl (q_lenRd rfl Tryz.underlying22 rfl (hS3.rdl 1 rfl)) ?_
 refine lm (v := I (0)) rfl rfl rfl ?_
 refine wpL_nil ?_
 refine wpF_block ?_
 refine wpF_loop (fun mz f H => ∃ (k : Nat), mz = l.length - k ∧ (k ≤ l.length) ∧ (∀ j, j < k → codeD l j = 0) ∧ f 0 = vl ∧ f 2 = PT g1 0 ∧ f 10 = vl ∧ f 11 = I ((l.length : Int)) ∧ f 12 = I ((k : Int)) ∧ St H0 NoB NoB [bE g1 #[I (0), I (0)] 32, rdE vl l] H) (l.length - 0) ?_ ?_
 ·exact ⟨0, rfl, Nat.zero_le _, (fun j hj => absurd hj (Nat.not_lt_zero j)), y0, rfl, rfl, rfl, (Eq.trans rfl (congrArg I (by omega))), hS3⟩
 intro m7 f7 H7 hI7
 clear y0
 obtain ⟨k, hm7, hk, hp, y0, y2, y10, y11, y12, hS7⟩ := hI7
 refine wpF_seq ?_
 refine wpF_region ?_
 refine lq rfl (q_lss rfl y12 y11) ?_
 refine wpL_nil ?_
 refine wpF_seq ?_
 refine wpF_condP rfl (fun hlt => ?t52) (fun hlt => ?e52)
 case e52 =>
  refine wpF_exit ?_
  refine atX_here ?_
  refine wpF_seq ?_
  refine wpF_region ?_
  refine lq rfl (q_build (v := Vg #[I (0), I (0)]) rfl par0 (fun w__ => by kernel_rfl)) ?_
  refine lo rfl ?_
  refine e_storeBlkA (cs' := #[I (0), I (0)]) rfl y2 rfl Tryz.sizeOf32 rfl rfl (fa rfl (fa rfl fe)) hS7 (fun H50 hS51 hxx => ?_)
  refine wpL_nil ?_
  refine wpF_ret ?_
  refine ⟨_, resC y2 (loadV_blkA Tryz.isAgg32 Tryz.sizeOf32 rfl (hS51.blk 0 rfl)) (resN), hS51.frame, ?_⟩
  show (Vg #[I (0), I (0)]) = Vg #[I (declsF l).1, I (declsF l).2]
  have hq := declsF_no hmany fun j hj => hp j (by omega)
  rw [hq]
 refine wpF_skip ?_
 refine wpF_seq ?_
 refine wpF_block ?_
 refine wpF_seq ?_
 refine wpF_region ?_
 refine lm (v := I ((k : Int))) rfl rfl y12 ?_
 refine lq rfl (q_indexRd (k := k) rfl Tryz.underlying22 el_Decl_43_AskC1 y10 y12 (hS7.rdl 1 rfl) (by omega) (by omega)) ?_
 obtain ⟨u9, huu9, hlu9⟩ := (Rd.list.1 (hS7.rdS 1 rfl)).elem k (by omega)
 obtain ⟨u9n1, rfl, hu90, hu91, hu92⟩ := Rd.decl.1 huu9
 have hS10 := hS7.rd hu91
 refine lq rfl (q_loadE rfl rfl (hlu9 Tryz.prog 43 _ el_Decl_43_AskC1 (fun _ h => False.elim h))) ?_
 refine lo rfl ?_
 refine e_alloc rfl Tryz.zeroValue43 hS10 (fun g11 H12 hS13 hxx => ?_)
 refine la (v := I ((k : Int))) rfl rfl rfl ?_
 refine lo rfl ?_
 refine e_storeBlkA (cs' := #[SB ((nth l k).Name), u9n1, I ((nth l k).Srt)]) rfl rfl rfl Tryz.sizeOf43 rfl rfl (fa rfl (fa ((oneCell_rdL (hS13.rdl 1 rfl))) (fa rfl fe))) hS13 (fun H14 hS15 hxx => ?_)
 refine wpL_nil ?_
 refine wpF_seq ?_
 refine wpF_region ?_
 refine la (v := I (0)) rfl rfl rfl ?_
 refine wpL_nil ?_
 refine sc (fun f H => f 0 = vl ∧ f 2 = PT g1 0 ∧ f 3 = I ((k : Int)) ∧ f 5 = I (codeD l k) ∧ f 10 = vl ∧ f 11 = I ((l.length : Int)) ∧ f 12 = I ((k : Int)) ∧ St H0 NoB NoB [bE g11 #[SB ((nth l k).Name), u9n1, I ((nth l k).Srt)] 43, rdE u9n1 ((nth l k).Args), bE g1 #[I (0), I (0)] 32, rdE vl l] H) ?_ ?_
 ·refine wpF_block ?_
  refine wpF_seq ?_
  refine wpF_region ?_
  refine lq rfl (q_fieldAddr rfl Tryz.underlying43 rfl Tryz.sizeOf9 rfl) ?_
  refine lq rfl (q_loadBlk rfl rfl Tryz.isAgg9 (hS15.blk 0 rfl) rfl (fun h => h)) ?_
  refine lo rfl ?_
  refine e_call rfl Tryz.call45 (arr1 (v0 := SB ((nth l k).Name)) rfl) (IsName_L ((nth l k).Name) (by first | assumption | exact Nat.zero_le _)) ?_
  rintro _ H17 ⟨hxx, rfl⟩
  have hS18 := hS15.ext hxx
  refine lq rfl (q_notP rfl rfl) ?_
  refine la (v := B (decide (¬ (isName ((nth l k).Name))))) rfl rfl rfl ?_
  refine wpL_nil ?_
  refine wpF_condP rfl (fun h1 => ?t45) (fun h1 => ?e45)
  case t45 =>
   refine wpF_region ?_
   refine la (v := I (12)) rfl rfl rfl ?_
   refine wpL_nil ?_
   exact ⟨y0, y2, rfl, (Eq.trans rfl (congrArg I (by unfold codeD argsBad; first | exact (if_pos h1).symm | (rw [if_neg h1]; first | exact (if_pos h2).symm | (rw [if_neg (Bool.eq_false_iff.1 h2)]; first | exact (if_pos h3).symm | (rw [if_neg h3]; first | exact (if_pos h4).symm | (rw [if_neg h4]; first | exact (if_pos h5).symm | (rw [if_neg (Bool.eq_false_iff.1 h5)]; first | exact (if_pos h6).symm | exact (if_neg h6).symm)))))))), y10, y11, y12, hS18⟩
  refine wpF_seq ?_
  refine wpF_region ?_
  refine lm (v := vl) rfl rfl y0 ?_
  refine lm (v := I ((k : Int))) rfl rfl rfl ?_
  have hS21 : St H0 NoB NoB [rdE (sliceV 3 vl 0 k) (l.take k : List Decl), bE g11 #[SB ((nth l k).Name), u9n1, I ((nth l k).Srt)] 43, rdE u9n1 ((nth l k).Args), bE g1 #[I (0), I (0)] 32, rdE vl l] H17 := hS18.rd (Rd.list.2 (sliceV_hi (m := k) (Rd.list.1 (hS18.rdS 3 rfl)) (by omega)))
  refine lq rfl (q_sliceRd (k := 0) (m := k) rfl Tryz.underlying22 el_Decl_43_AskC1 rfl (hS18.rdl 3 rfl) lo0 (lo1 rfl (by omega)) (by omega) (by omega)) ?_
  refine lq rfl (q_makeFunc (fi' := #[]) rfl (by simp) (arr1 (v0 := PT g11 0) rfl)) ?_
  refine lo rfl ?_
  refine e_call rfl Tryz.call46 (arr2 (v0 := (sliceV 3 vl 0 k)) (v1 := Value.func (.func 47) #[] #[PT g11 0]) rfl rfl) (ContainsFuncD ((sliceV 3 vl 0 k)) (Value.func (.func 47) #[] #[PT g11 0]) (l.take k) (sameName (nth l k).Name) (hS21.rdN 0 rfl) (fun u x hx H hE hr => by obtain ⟨_, rfl, hd1, hd2, hd3⟩ := Rd.decl.1 hr; exact ⟨_, _, rfl, Tryz.call47, checkDecls_1 _ g11 _ x (nth l k) hd1 hd2 hd3 (hE.blk (hS21.blk 1 rfl)) (by assumption)⟩)) ?_
  rintro _ H22 ⟨hxx, rfl⟩
  have hS23 := hS21.ext hxx
  refine la (v := B ((l.take k).any (sameName (nth l k).Name))) rfl rfl rfl ?_
  refine wpL_nil ?_
  refine wpF_cond rfl (fun h2 => ?t44) (fun h2 => ?e44)
  case t44 =>
   refine wpF_region ?_
   refine la (v := I (7)) rfl rfl rfl ?_
   refine wpL_nil ?_
   exact ⟨y0, y2, rfl, (Eq.trans rfl (congrArg I (by unfold codeD argsBad; first | exact (if_pos h1).symm | (rw [if_neg h1]; first | exact (if_pos h2).symm | (rw [if_neg (Bool.eq_false_iff.1 h2)]; first | exact (if_pos h3).symm | (rw [if_neg h3]; first | exact (if_pos h4).symm | (rw [if_neg h4]; first | exact (if_pos h5).symm | (rw [if_neg (Bool.eq_false_iff.1 h5)]; first | exact (if_pos h6).symm | exact (if_neg h6).symm)))))))), y10, y11, y12, (hS23.drop (sn (sk (sk (sk (sk (List.Sublist.slnil)))))))⟩
  refine wpF_seq ?_
  refine wpF_region ?_
  refine lq rfl (q_fieldAddr rfl Tryz.underlying43 rfl Tryz.sizeOf24 rfl) ?_
  refine lq rfl (q_loadBlk rfl rfl Tryz.isAgg24 (hS23.blk 1 rfl) rfl (fun h => h)) ?_
  refine lq rfl (q_lenRd rfl Tryz.underlying24 rfl (hS23.rdl 2 rfl)) ?_
  refine lq rfl (q_gtr rfl rfl rfl) ?_
  refine la (v := B (decide (8 < (((nth l k).Args).length : Int)))) rfl rfl rfl ?_
  refine wpL_nil ?_
  refine wpF_condP rfl (fun h3 => ?t43) (fun h3 => ?e43)
  case t43 =>
   refine wpF_region ?_
   refine la (v := I (9)) rfl rfl rfl ?_
   refine wpL_nil ?_
   exact ⟨y0, y2, rfl, (Eq.trans rfl (congrArg I (by unfold codeD argsBad; first | exact (if_pos h1).symm | (rw [if_neg h1]; first | exact (if_pos h2).symm | (rw [if_neg (Bool.eq_false_iff.1 h2)]; first | exact (if_pos h3).symm | (rw [if_neg h3]; first | exact (if_pos h4).symm | (rw [if_neg h4]; first | exact (if_pos h5).symm | (rw [if_neg (Bool.eq_false_iff.1 h5)]; first | exact (if_pos h6).symm | exact (if_neg h6).symm)))))))), y10, y11, y12, (hS23.drop (sn (sk (sk (sk (sk (List.Sublist.slnil)))))))⟩
  refine wpF_seq ?_
  refine wpF_seq ?_
  refine wpF_region ?_
  refine lq rfl (q_fieldAddr rfl Tryz.underlying43 rfl Tryz.sizeOf3 rfl) ?_
  refine lq rfl (q_loadBlk rfl rfl Tryz.isAgg3 (hS23.blk 1 rfl) rfl (fun h => h)) ?_
  refine lo rfl ?_
  refine e_call rfl Tryz.call48 (arr1 (v0 := I ((nth l k).Srt)) rfl) (isSort_L ((nth l k).Srt)) ?_
  rintro _ H27 ⟨hxx, rfl⟩
  have hS28 := hS23.ext hxx
  refine lq rfl (q_notP rfl rfl) ?_
  refine la (v := B (decide (¬ (isSortS ((nth l k).Srt))))) rfl rfl rfl ?_
  refine wpL_nil ?_
  refine wpF_condP rfl (fun h4 => ?t42) (fun h4 => ?e42)
  case t42 =>
   refine wpF_skip ?_
   refine wpF_condT (Eq.trans rfl (congrArg B (decide_eq_true h4))) ?_
   refine wpF_region ?_
   refine la (v := I (4)) rfl rfl rfl ?_
   refine wpL_nil ?_
   exact ⟨y0, y2, rfl, (Eq.trans rfl (congrArg I (by unfold codeD argsBad; first | exact (if_pos h1).symm | (rw [if_neg h1]; first | exact (if_pos h2).symm | (rw [if_neg (Bool.eq_false_iff.1 h2)]; first | exact (if_pos h3).symm | (rw [if_neg h3]; first | exact (if_pos h4).symm | (rw [if_neg h4]; first | exact (if_pos h5).symm | (rw [if_neg (Bool.eq_false_iff.1 h5)]; first | exact (if_pos h6).symm | exact (if_neg h6).symm)))))))), y10, y11, y12, (hS28.drop (sn (sk (sk (sk (sk (List.Sublist.slnil)))))))⟩
  refine wpF_seq ?_
  refine wpF_region ?_
  refine lq rfl (q_fieldAddr rfl Tryz.underlying43 rfl Tryz.sizeOf24 rfl) ?_
  refine lq rfl (q_loadBlk rfl rfl Tryz.isAgg24 (hS28.blk 1 rfl) rfl (fun h => h)) ?_
  refine lo rfl ?_
  refine e_call rfl Tryz.call23 (arr2 (v0 := u9n1) (v1 := Value.func (.func 49) #[] #[]) rfl rfl) (ContainsFunc u9n1 (Value.func (.func 49) #[] #[]) ((nth l k).Args) (fun s => decide (s ≠ 4)) (hS28.rdN 2 rfl) (fun x hx H hE => ⟨_, _, rfl, Tryz.call49, checkDecls_2 x⟩)) ?_
  rintro _ H31 ⟨hxx, rfl⟩
  have hS32 := hS28.ext hxx
  refine la (v := B (((nth l k).Args).any (fun s => decide (s ≠ 4)))) rfl rfl rfl ?_
  refine wpL_nil ?_
  refine wpF_cond rfl (fun h5 => ?t41) (fun h5 => ?e41)
  case t41 =>
   refine wpF_skip ?_
   refine wpF_condT (Eq.trans rfl (congrArg B h5)) ?_
   refine wpF_region ?_
   refine la (v := I (4)) rfl rfl rfl ?_
   refine wpL_nil ?_
   exact ⟨y0, y2, rfl, (Eq.trans rfl (congrArg I (by unfold codeD argsBad; first | exact (if_pos h1).symm | (rw [if_neg h1]; first | exact (if_pos h2).symm | (rw [if_neg (Bool.eq_false_iff.1 h2)]; first | exact (if_pos h3).symm | (rw [if_neg h3]; first | exact (if_pos h4).symm | (rw [if_neg h4]; first | exact (if_pos h5).symm | (rw [if_neg (Bool.eq_false_iff.1 h5)]; first | exact (if_pos h6).symm | exact (if_neg h6).symm)))))))), y10, y11, y12, (hS32.drop (sn (sk (sk (sk (sk (List.Sublist.slnil)))))))⟩
  refine wpF_cut (fun f H => f 0 = vl ∧ f 2 = PT g1 0 ∧ f 3 = I ((k : Int)) ∧ f 5 = I (0) ∧ f 10 = vl ∧ f 11 = I ((l.length : Int)) ∧ f 12 = I ((k : Int)) ∧ f 33 = B (decide ((((nth l k).Srt) = 5) ∧ (0 < (((nth l k).Args).length : Int)))) ∧ H31 = H) ?_ ?_
  ·refine wpF_region ?_
   refine lq rfl (q_fieldAddr rfl Tryz.underlying43 rfl Tryz.sizeOf3 rfl) ?_
   refine lq rfl (q_loadBlk rfl rfl Tryz.isAgg3 (hS32.blk 1 rfl) rfl (fun h => h)) ?_
   refine lq rfl (q_eql rfl rfl rfl) ?_
   refine lm (v := B (decide (((nth l k).Srt) = 5))) rfl rfl rfl ?_
   by_cases hg35 : ((nth l k).Srt) = 5
   ·have hb36 := Eq.trans rfl (congrArg B (decide_eq_true hg35))
    refine gq rfl rfl rfl hb36 (q_fieldAddr rfl Tryz.underlying43 rfl Tryz.sizeOf24 rfl) ?_
    refine gq rfl rfl rfl hb36 (q_loadBlk rfl rfl Tryz.isAgg24 (hS32.blk 1 rfl) rfl (fun h => h)) ?_
    refine gq rfl rfl rfl hb36 (q_lenRd rfl Tryz.underlying24 rfl (hS32.rdl 2 rfl)) ?_
    refine gq rfl rfl rfl hb36 (q_gtr rfl rfl rfl) ?_
    refine lq rfl (q_pickT (v := B (decide (0 < (((nth l k).Args).length : Int)))) rfl hb36 rfl) ?_
    refine la (v := B (decide (0 < (((nth l k).Args).length : Int)))) rfl rfl rfl ?_
    exact ⟨y0, y2, rfl, rfl, y10, y11, y12, (Eq.trans rfl (congrArg B (decide_congr_of ((Iff.rfl).trans (((and_iff_right hg35).trans Iff.rfl)).symm)))), rfl⟩
   ·have hb37 := Eq.trans rfl (congrArg B (decide_eq_false hg35))
    refine wpL_gs rfl rfl rfl hb37 rfl ?_
    refine wpL_gs rfl rfl rfl hb37 rfl ?_
    refine wpL_gs rfl rfl rfl hb37 rfl ?_
    refine wpL_gs rfl rfl rfl hb37 rfl ?_
    refine lq rfl (q_pickF (v := B (false)) rfl hb37 rfl) ?_
    refine la (v := B (false)) rfl rfl rfl ?_
    exact ⟨y0, y2, rfl, rfl, y10, y11, y12, (Eq.trans rfl (congrArg B ((decide_eq_false (fun h => hg35 h.1)).symm))), rfl⟩
  clear y0 y10 y11 y12 y2
  rintro f38 _ ⟨y0, y2, y3, y5, y10, y11, y12, y33, rfl⟩
  refine wpF_condP y33 (fun h6 => ?t40) (fun h6 => ?e40)
  case e40 =>
   refine wpF_skip ?_
   exact ⟨y0, y2, y3, (Eq.trans y5 (congrArg I (by unfold codeD argsBad; first | exact (if_pos h1).symm | (rw [if_neg h1]; first | exact (if_pos h2).symm | (rw [if_neg (Bool.eq_false_iff.1 h2)]; first | exact (if_pos h3).symm | (rw [if_neg h3]; first | exact (if_pos h4).symm | (rw [if_neg h4]; first | exact (if_pos h5).symm | (rw [if_neg (Bool.eq_false_iff.1 h5)]; first | exact (if_pos h6).symm | exact (if_neg h6).symm)))))))), y10, y11, y12, (hS32.drop (sn (sk (sk (sk (sk (List.Sublist.slnil)))))))⟩
  refine wpF_region ?_
  refine la (v := I (4)) rfl rfl rfl ?_
  refine wpL_nil ?_
  exact ⟨y0, y2, y3, (Eq.trans rfl (congrArg I (by unfold codeD argsBad; first | exact (if_pos h1).symm | (rw [if_neg h1]; first | exact (if_pos h2).symm | (rw [if_neg (Bool.eq_false_iff.1 h2)]; first | exact (if_pos h3).symm | (rw [if_neg h3]; first | exact (if_pos h4).symm | (rw [if_neg h4]; first | exact (if_pos h5).symm | (rw [if_neg (Bool.eq_false_iff.1 h5)]; first | exact (if_pos h6).symm | exact (if_neg h6).symm)))))))), y10, y11, y12, (hS32.drop (sn (sk (sk (sk (sk (List.Sublist.slnil)))))))⟩
 clear y0 y10 y11 y12 y2
 rintro f16 H16 ⟨y0, y2, y3, y5, y10, y11, y12, hS16⟩
 refine wpF_seq ?_
 refine wpF_region ?_
 refine lm (v := I (codeD l k)) rfl rfl y5 ?_
 refine lq rfl (q_neq rfl rfl rfl) ?_
 refine wpL_nil ?_
 refine wpF_condP rfl (fun hne => ?t49) (fun hne => ?e49)
 case e49 =>
  refine wpF_skip ?_
  refine wpF_region ?_
  refine lq rfl (q_add rfl y12 rfl (by constructor <;> omega)) ?_
  refine lm (v := I ((k : Int) + 1)) rfl rfl rfl ?_
  refine wpL_nil ?_
  refine ⟨_, ?_, k + 1, rfl, (by omega), (all_succ hp (Decidable.of_not_not hne)), y0, y2, y10, y11, (Eq.trans rfl (congrArg I (by omega))), (hS16.drop (sn (sn (sk (sk (List.Sublist.slnil))))))⟩
  omega
 refine wpF_seq ?_
 refine wpF_region ?_
 refine lm (v := I (codeD l k)) rfl rfl y5 ?_
 refine lm (v := I ((k : Int))) rfl rfl y3 ?_
 refine lq rfl (q_build (v := Vg #[I (codeD l k), I ((k : Int))]) rfl (par2 (v0 := I (codeD l k)) (v1 := I ((k : Int))) rfl rfl) (fun w__ => by kernel_rfl)) ?_
 refine lo rfl ?_
 refine e_storeBlkA (cs' := #[I (codeD l k), I ((k : Int))]) rfl y2 rfl Tryz.sizeOf32 rfl rfl (fa rfl (fa rfl fe)) (hS16.front 2 rfl) (fun H47 hS48 hxx => ?_)
 refine wpL_nil ?_
 refine wpF_ret ?_
 refine ⟨_, resC y2 (loadV_blkA Tryz.isAgg32 Tryz.sizeOf32 rfl (hS48.blk 0 rfl)) (resN), hS48.frame, ?_⟩
 show (Vg #[I (codeD l k), I ((k : Int))]) = Vg #[I (declsF l).1, I (declsF l).2]
 have hq := declsF_at hmany (by omega) hp rfl hne
 rw [hq]
set_option maxRecDepth 100000 in
theorem Kids_L {H0 : Heap} (op : Int)  : CallsH Tryz.prog 50 #[I (op)] H0 (fun rv_ H' => Ext NoB H0 H' ∧ rv_ = I (kidsN op)) := by
 have hS0 : St H0 NoB NoB [] H0 := St.start (fun _ h => h.elim)
 refine callsH_of_wpF (args := [I (op)]) (rs := [.tmp 2]) Tryz.func50 rfl Tryz.ntmps50 Tryz.results50 (by kernel_rfl) (Nat.le_of_ble_eq_true rfl) ?_
 have y0 : argF [I (op)] 0 = I (op) := rfl
 generalize argF [I (op)] = f0 at *
 refine wpF_seq ?_
 refine wpF_region ?_
 refine la (v := I (0)) rfl rfl rfl ?_
 refine wpL_nil ?_
 refine wpF_seq ?_
 refine wpF_seq ?_
 refine wpF_region ?_
 refine lm (v := I (op)) rfl rfl y0 ?_
 refine wpL_nil ?_
 refine wpF_block ?_
 refine wpF_seq ?_
 refine wpF_seq ?_
 refine wpF_region ?_
 refine lq rfl (q_eql rfl rfl rfl) ?_
 refine la (v := B (decide (op = 1))) rfl rfl rfl ?_
 refine wpL_nil ?_
 refine wpF_condP rfl (fun hp1 => ?t26) (fun hp1 => ?e26)
 case t26 =>
  refine wpF_skip ?_
  refine wpF_condT (Eq.trans rfl (congrArg B (decide_eq_true hp1))) ?_
  refine wpF_seq ?_
  refine wpF_region ?_
  refine la (v := I (0)) rfl rfl rfl ?_
  refine wpL_nil ?_
  refine wpF_ret ?_
  refine ⟨_, resT rfl resN, hS0.frame, ?_⟩
  show (I (0)) = I (kidsN op)
  exact congrArg I (by rw [kidsN, hp1]; rfl)
 refine wpF_seq ?_
 refine wpF_region ?_
 refine lq rfl (q_eql rfl rfl rfl) ?_
 refine la (v := B (decide (op = 2))) rfl rfl rfl ?_
 refine wpL_nil ?_
 refine wpF_condP rfl (fun hp2 => ?t25) (fun hp2 => ?e25)
 case t25 =>
  refine wpF_skip ?_
  refine wpF_condT (Eq.trans rfl (congrArg B (decide_eq_true hp2))) ?_
  refine wpF_seq ?_
  refine wpF_region ?_
  refine la (v := I (0)) rfl rfl rfl ?_
  refine wpL_nil ?_
  refine wpF_ret ?_
  refine ⟨_, resT rfl resN, hS0.frame, ?_⟩
  show (I (0)) = I (kidsN op)
  exact congrArg I (by rw [kidsN, hp2]; rfl)
 refine wpF_seq ?_
 refine wpF_region ?_
 refine lq rfl (q_eql rfl rfl rfl) ?_
 refine la (v := B (decide (op = 10))) rfl rfl rfl ?_
 refine wpL_nil ?_
 refine wpF_condP rfl (fun hp3 => ?t24) (fun hp3 => ?e24)
 case t24 =>
  refine wpF_skip ?_
  refine wpF_condT (Eq.trans rfl (congrArg B (decide_eq_true hp3))) ?_
  refine wpF_seq ?_
  refine wpF_region ?_
  refine la (v := I (0)) rfl rfl rfl ?_
  refine wpL_nil ?_
  refine wpF_ret ?_
  refine ⟨_, resT rfl resN, hS0.frame, ?_⟩
  show (I (0)) = I (kidsN op)
  exact congrArg I (by rw [kidsN, hp3]; rfl)
 refine wpF_region ?_
 refine lq rfl (q_eql rfl rfl rfl) ?_
 refine la (v := B (decide (op = 15))) rfl rfl rfl ?_
 refine wpL_nil ?_
 refine wpF_condP rfl (fun hp4 => ?t23) (fun hp4 => ?e23)
 case t23 =>
  refine wpF_seq ?_
  refine wpF_region ?_
  refine la (v := I (0)) rfl rfl rfl ?_
  refine wpL_nil ?_
  refine wpF_ret ?_
  refine ⟨_, resT rfl resN, hS0.frame, ?_⟩
  show (I (0)) = I (kidsN op)
  exact congrArg I (by rw [kidsN, hp4]; rfl)
 refine wpF_seq ?_
 refine wpF_seq ?_
 refine wpF_region ?_
 refine lq rfl (q_eql rfl rfl rfl) ?_
 refine la (v := B (decide (op = 3))) rfl rfl rfl ?_
 refine wpL_nil ?_
 refine wpF_condP rfl (fun hp5 => ?t22) (fun hp5 => ?e22)
 case t22 =>
  refine wpF_skip ?_
  refine wpF_condT (Eq.trans rfl (congrArg B (decide_eq_true hp5))) ?_
  refine wpF_seq ?_
  refine wpF_region ?_
  refine la (v := I (1)) rfl rfl rfl ?_
  refine wpL_nil ?_
  refine wpF_ret ?_
  refine ⟨_, resT rfl resN, hS0.frame, ?_⟩
  show (I (1)) = I (kidsN op)
  exact congrArg I (by rw [kidsN, hp5]; rfl)
 refine wpF_seq ?_
 refine wpF_region ?_
 refine lq rfl (q_eql rfl rfl rfl) ?_
 refine la (v := B (decide (op = 12))) rfl rfl rfl ?_
 refine wpL_nil ?_
 refine wpF_condP rfl (fun hp6 => ?t21) (fun hp6 => ?e21)
 case t21 =>
  refine wpF_skip ?_
  refine wpF_condT (Eq.trans rfl (congrArg B (decide_eq_true hp6))) ?_
  refine wpF_seq ?_
  refine wpF_region ?_
  refine la (v := I (1)) rfl rfl rfl ?_
  refine wpL_nil ?_
  refine wpF_ret ?_
  refine ⟨_, resT rfl resN, hS0.frame, ?_⟩
  show (I (1)) = I (kidsN op)
  exact congrArg I (by rw [kidsN, hp6]; rfl)
 refine wpF_seq ?_
 refine wpF_region ?_
 refine lq rfl (q_eql rfl rfl rfl) ?_
 refine la (v := B (decide (op = 16))) rfl rfl rfl ?_
 refine wpL_nil ?_
 refine wpF_condP rfl (fun hp7 => ?t20) (fun hp7 => ?e20)
 case t20 =>
  refine wpF_skip ?_
  refine wpF_condT (Eq.trans rfl (congrArg B (decide_eq_true hp7))) ?_
  refine wpF_seq ?_
  refine wpF_region ?_
  refine la (v := I (1)) rfl rfl rfl ?_
  refine wpL_nil ?_
  refine wpF_ret ?_
  refine ⟨_, resT rfl resN, hS0.frame, ?_⟩
  show (I (1)) = I (kidsN op)
  exact congrArg I (by rw [kidsN, hp7]; rfl)
 refine wpF_region ?_
 refine lq rfl (q_eql rfl rfl rfl) ?_
 refine la (v := B (decide (op = 23))) rfl rfl rfl ?_
 refine wpL_nil ?_
 refine wpF_condP rfl (fun hp8 => ?t19) (fun hp8 => ?e19)
 case t19 =>
  refine wpF_seq ?_
  refine wpF_region ?_
  refine la (v := I (1)) rfl rfl rfl ?_
  refine wpL_nil ?_
  refine wpF_ret ?_
  refine ⟨_, resT rfl resN, hS0.frame, ?_⟩
  show (I (1)) = I (kidsN op)
  exact congrArg I (by rw [kidsN, hp8]; rfl)
 refine wpF_seq ?_
 refine wpF_seq ?_
 refine wpF_region ?_
 refine lq rfl (q_eql rfl rfl rfl) ?_
 refine la (v := B (decide (op = 7))) rfl rfl rfl ?_
 refine wpL_nil ?_
 refine wpF_condP rfl (fun hp9 => ?t18) (fun hp9 => ?e18)
 case t18 =>
  refine wpF_skip ?_
  refine wpF_condT (Eq.trans rfl (congrArg B (decide_eq_true hp9))) ?_
  refine wpF_seq ?_
  refine wpF_region ?_
  refine la (v := I (3)) rfl rfl rfl ?_
  refine wpL_nil ?_
  refine wpF_ret ?_
  refine ⟨_, resT rfl resN, hS0.frame, ?_⟩
  show (I (3)) = I (kidsN op)
  exact congrArg I (by rw [kidsN, hp9]; rfl)
 refine wpF_region ?_
 refine lq rfl (q_eql rfl rfl rfl) ?_
 refine la (v := B (decide (op = 25))) rfl rfl rfl ?_
 refine wpL_nil ?_
 refine wpF_condP rfl (fun hp10 => ?t17) (fun hp10 => ?e17)
 case t17 =>
  refine wpF_seq ?_
  refine wpF_region ?_
  refine la (v := I (3)) rfl rfl rfl ?_
  refine wpL_nil ?_
  refine wpF_ret ?_
  refine ⟨_, resT rfl resN, hS0.frame, ?_⟩
  show (I (3)) = I (kidsN op)
  exact congrArg I (by rw [kidsN, hp10]; rfl)
 refine wpF_seq ?_
 refine wpF_seq ?_
 refine wpF_region ?_
 refine lq rfl (q_eql rfl rfl rfl) ?_
 refine la (v := B (decide (op = 4))) rfl rfl rfl ?_
 refine wpL_nil ?_
 refine wpF_condP rfl (fun hp11 => ?t16) (fun hp11 => ?e16)
 case t16 =>
  refine wpF_skip ?_
  refine wpF_condT (Eq.trans rfl (congrArg B (decide_eq_true hp11))) ?_
  refine wpF_seq ?_
  refine wpF_region ?_
  refine la (v := I (-1)) rfl rfl rfl ?_
  refine wpL_nil ?_
  refine wpF_ret ?_
  refine ⟨_, resT rfl resN, hS0.frame, ?_⟩
  show (I (-1)) = I (kidsN op)
  exact congrArg I (by rw [kidsN, hp11]; rfl)
 refine wpF_seq ?_
 refine wpF_region ?_
 refine lq rfl (q_eql rfl rfl rfl) ?_
 refine la (v := B (decide (op = 5))) rfl rfl rfl ?_
 refine wpL_nil ?_
 refine wpF_condP rfl (fun hp12 => ?t15) (fun hp12 => ?e15)
 case t15 =>
  refine wpF_skip ?_
  refine wpF_condT (Eq.trans rfl (congrArg B (decide_eq_true hp12))) ?_
  refine wpF_seq ?_
  refine wpF_region ?_
  refine la (v := I (-1)) rfl rfl rfl ?_
  refine wpL_nil ?_
  refine wpF_ret ?_
  refine ⟨_, resT rfl resN, hS0.frame, ?_⟩
  show (I (-1)) = I (kidsN op)
  exact congrArg I (by rw [kidsN, hp12]; rfl)
 refine wpF_region ?_
 refine lq rfl (q_eql rfl rfl rfl) ?_
 refine la (v := B (decide (op = 11))) rfl rfl rfl ?_
 refine wpL_nil ?_
 refine wpF_condP rfl (fun hp13 => ?t14) (fun hp13 => ?e14)
 case t14 =>
  refine wpF_seq ?_
  refine wpF_region ?_
  refine la (v := I (-1)) rfl rfl rfl ?_
  refine wpL_nil ?_
  refine wpF_ret ?_
  refine ⟨_, resT rfl resN, hS0.frame, ?_⟩
  show (I (-1)) = I (kidsN op)
  exact congrArg I (by rw [kidsN, hp13]; rfl)
 refine wpF_skip ?_
 refine wpF_seq ?_
 refine wpF_region ?_
 refine la (v := I (2)) rfl rfl rfl ?_
 refine wpL_nil ?_
 refine wpF_ret ?_
 refine ⟨_, resT rfl resN, hS0.frame, ?_⟩
 show (I (2)) = I (kidsN op)
 exact congrArg I (by rw [kidsN, if_neg hp1, if_neg hp2, if_neg hp3, if_neg hp4, if_neg hp5, if_neg hp6, if_neg hp7, if_neg hp8, if_neg hp9, if_neg hp10, if_neg hp11, if_neg hp12, if_neg hp13])
set_option maxRecDepth 100000 in
theorem gcd_L {H0 : Heap} (a b : Int) (ha : -1000000 ≤ a ∧ a ≤ 1000000) (hb : -1000000 ≤ b ∧ b ≤ 1000000) : CallsH Tryz.prog 82 #[I (a), I (b)] H0 (fun rv_ H' => Ext NoB H0 H' ∧ rv_ = I (gcdT a b)) := by
 have hS0 : St H0 NoB NoB [] H0 := St.start (fun _ h => h.elim)
 refine callsH_of_wpF (args := [I (a), I (b)]) (rs := [.tmp 4]) Tryz.func82 rfl Tryz.ntmps82 Tryz.results82 (by kernel_rfl) (Nat.le_of_ble_eq_true rfl) ?_
 have y0 : argF [I (a), I (b)] 0 = I (a) := rfl
 have y1 : argF [I (a), I (b)] 1 = I (b) := rfl
 generalize argF [I (a), I (b)] = f0 at *
 refine wpF_seq ?_
 refine wpF_region ?_
 refine la (v := I (0)) rfl rfl rfl ?_
 refine wpL_nil ?_
 refine wpF_seq ?_
 refine wpF_block ?_
 refine wpF_loop (fun mz f H => ∃ (x : Int), ∃ (y : Int), mz = y.natAbs ∧ (-1000000 ≤ x ∧ x ≤ 1000000) ∧ (-1000000 ≤ y ∧ y ≤ 1000000) ∧ (gcdT a b = gcdT x y) ∧ f 0 = I (x) ∧ f 1 = I (y) ∧ H0 = H) (b.natAbs) ?_ ?_
 ·exact ⟨a, b, rfl, ha, hb, rfl, y0, y1, rfl⟩
 intro m1 f1 H1 hI1
 clear y0 y1
 obtain ⟨x, y, hm1, hx, hy, hg, y0, y1, rfl⟩ := hI1
 refine wpF_seq ?_
 refine wpF_seq ?_
 refine wpF_region ?_
 refine lm (v := I (y)) rfl rfl y1 ?_
 refine lq rfl (q_neq rfl rfl rfl) ?_
 refine wpL_nil ?_
 refine wpF_condP rfl (fun hz => ?t4) (fun hz => ?e4)
 case t4 =>
  refine wpF_skip ?_
  refine wpF_block ?_
  refine wpF_drawn [] [] (fun _ _ => False) (by kernel_rfl) (by kernel_rfl) ?_
  refine rq 0 (by kernel_rfl) rfl rfl (q_move (v := I (y)) rfl y1) ?_
  refine rq 1 (by kernel_rfl) rfl rfl (q_move (v := I (x)) rfl y0) ?_
  refine rq 2 (by kernel_rfl) rfl rfl (q_move (v := I (y)) rfl y1) ?_
  refine rq 3 (by kernel_rfl) rfl rfl (q_remZ rfl rfl rfl hz hx) ?_
  refine rq 4 (by kernel_rfl) rfl rfl (q_assign (v := I (y)) rfl rfl) ?_
  refine rq 5 (by kernel_rfl) rfl rfl (q_assign (v := I (x.tmod y)) rfl rfl) ?_
  refine wpR_end (by kernel_rfl) ?_
  skip
  refine ⟨_, ?_, y, x.tmod y, rfl, hy, (tmodR hx), (hg.trans (gcdT_step hz)), rfl, (Eq.trans rfl (congrArg I (by omega))), rfl⟩
  have h__ := tmodL (a := x) hz; omega
 refine wpF_exit ?_
 refine atX_here ?_
 refine wpF_seq ?_
 refine wpF_region ?_
 refine lm (v := I (x)) rfl rfl y0 ?_
 refine lm (v := I (x)) rfl rfl y0 ?_
 refine lq rfl (q_neg rfl rfl (by constructor <;> omega)) ?_
 refine lq rfl (q_max rfl rfl rfl) ?_
 refine la (v := I (max x (-x))) rfl rfl rfl ?_
 refine wpL_nil ?_
 refine wpF_ret ?_
 refine ⟨_, resT rfl resN, hS0.frame, ?_⟩
 show (I (max x (-x))) = I (gcdT a b)
 exact congrArg I (hg.trans (gcdT_zero (Decidable.of_not_not hz))).symm
set_option maxRecDepth 100000 in
theorem formed_L {H0 : Heap} (vk : Value) (n : Node) (h6nOp : In64 n.Op) (rvk : Rd NoB H0 vk n.Kids) (h6nN : In64 n.N) (h6nD : In64 n.D) (h6nName : n.Name.size ≤ maxLen) : CallsH Tryz.prog 52 #[Vg #[I (n.Op), vk, I (n.N), I (n.D), SB (n.Name)]] H0 (fun rv_ H' => Ext NoB H0 H' ∧ rv_ = B (decide (formedN n))) := by
 have hS0 : St H0 NoB NoB [rdE vk n.Kids] H0 := St.arg (St.start (fun _ h => h.elim)) (Bl0.nil) rvk (fun _ h => h)
 refine callsH_of_wpF (args := [Vg #[I (n.Op), vk, I (n.N), I (n.D), SB (n.Name)]]) (rs := [.tmp 2]) Tryz.func52 rfl Tryz.ntmps52 Tryz.results52 (by kernel_rfl) (Nat.le_of_ble_eq_true rfl) ?_
 have y0 : argF [Vg #[I (n.Op), vk, I (n.N), I (n.D), SB (n.Name)]] 0 = Vg #[I (n.Op), vk, I (n.N), I (n.D), SB (n.Name)] := rfl
 generalize argF [Vg #[I (n.Op), vk, I (n.N), I (n.D), SB (n.Name)]] = f0 at *
 refine wpF_seq ?_
 refine wpF_region ?_
 refine lo rfl ?_
 refine e_box (v := Vg #[I (n.Op), vk, I (n.N), I (n.D), SB (n.Name)]) rfl y0 hS0 (fun g1 H2 hS3 hxx => ?_)
 refine la (v := B (false)) rfl rfl rfl ?_
 refine wpL_nil ?_
 refine fcr (fun f H => f 1 = PT g1 0 ∧ f 3 = B (decide (((n.Op = 10) ∨ (n.Op = 12)) ∨ (n.Op = 15))) ∧ H2 = H) ?_ ?_
 ·refine lq rfl (q_fieldAddr rfl Tryz.underlying52 rfl Tryz.sizeOf3 rfl) ?_
  refine lq rfl (q_loadBlk rfl rfl Tryz.isAgg3 (hS3.blk 0 rfl) rfl (fun h => h)) ?_
  refine lq rfl (q_eql rfl rfl rfl) ?_
  refine lm (v := B (decide (n.Op = 10))) rfl rfl rfl ?_
  by_cases hg4 : n.Op = 10
  ·have hb5 := Eq.trans rfl (congrArg B (decide_eq_true hg4))
   refine wpL_gs rfl rfl rfl hb5 rfl ?_
   refine wpL_gs rfl rfl rfl hb5 rfl ?_
   refine wpL_gs rfl rfl rfl hb5 rfl ?_
   refine lq rfl (q_pickT (v := B (true)) rfl hb5 rfl) ?_
   refine lm (v := B (true)) rfl rfl rfl ?_
   refine wpL_gs rfl rfl rfl rfl rfl ?_
   refine wpL_gs rfl rfl rfl rfl rfl ?_
   refine wpL_gs rfl rfl rfl rfl rfl ?_
   refine lq rfl (q_pickT (v := B (true)) rfl rfl rfl) ?_
   refine la (v := B (true)) rfl rfl rfl ?_
   exact ⟨rfl, (Eq.trans rfl (congrArg B ((decide_eq_true (Or.inl (Or.inl hg4))).symm))), rfl⟩
  ·have hb6 := Eq.trans rfl (congrArg B (decide_eq_false hg4))
   refine gq rfl rfl rfl hb6 (q_fieldAddr rfl Tryz.underlying52 rfl Tryz.sizeOf3 rfl) ?_
   refine gq rfl rfl rfl hb6 (q_loadBlk rfl rfl Tryz.isAgg3 (hS3.blk 0 rfl) rfl (fun h => h)) ?_
   refine gq rfl rfl rfl hb6 (q_eql rfl rfl rfl) ?_
   refine lq rfl (q_pickF (v := B (decide (n.Op = 12))) rfl hb6 rfl) ?_
   refine lm (v := B (decide (n.Op = 12))) rfl rfl rfl ?_
   by_cases hg7 : n.Op = 12
   ·have hb8 := Eq.trans rfl (congrArg B (decide_eq_true hg7))
    refine wpL_gs rfl rfl rfl hb8 rfl ?_
    refine wpL_gs rfl rfl rfl hb8 rfl ?_
    refine wpL_gs rfl rfl rfl hb8 rfl ?_
    refine lq rfl (q_pickT (v := B (true)) rfl hb8 rfl) ?_
    refine la (v := B (true)) rfl rfl rfl ?_
    exact ⟨rfl, (Eq.trans rfl (congrArg B ((decide_eq_true (Or.inl (Or.inr hg7))).symm))), rfl⟩
   ·have hb9 := Eq.trans rfl (congrArg B (decide_eq_false hg7))
    refine gq rfl rfl rfl hb9 (q_fieldAddr rfl Tryz.underlying52 rfl Tryz.sizeOf3 rfl) ?_
    refine gq rfl rfl rfl hb9 (q_loadBlk rfl rfl Tryz.isAgg3 (hS3.blk 0 rfl) rfl (fun h => h)) ?_
    refine gq rfl rfl rfl hb9 (q_eql rfl rfl rfl) ?_
    refine lq rfl (q_pickF (v := B (decide (n.Op = 15))) rfl hb9 rfl) ?_
    refine la (v := B (decide (n.Op = 15))) rfl rfl rfl ?_
    exact ⟨rfl, (Eq.trans rfl (congrArg B (decide_congr_of ((Iff.rfl).trans (((or_iff_right (not_or.2 ⟨hg4, hg7⟩)).trans Iff.rfl)).symm)))), rfl⟩
 rintro f10 _ ⟨y1, y3, rfl⟩
 refine fcr (fun f H => f 2 = B (decide ((((sEq n.Name (ByteArray.mk #[])) ∨ (n.Op = 9)) ∧ (((n.N = 0) ∨ (((n.Op = 10) ∨ (n.Op = 12)) ∨ (n.Op = 15))) ∨ (n.Op = 23))) ∧ ((n.D = 0) ∨ (((n.Op = 10) ∨ (n.Op = 12)) ∨ (n.Op = 15))))) ∧ H2 = H) ?_ ?_
 ·refine lq rfl (q_fieldAddr rfl Tryz.underlying52 rfl Tryz.sizeOf9 y1) ?_
  refine lq rfl (q_loadBlk rfl rfl Tryz.isAgg9 (hS3.blk 0 rfl) rfl (fun h => h)) ?_
  refine lq rfl (q_eqlS rfl rfl rfl) ?_
  refine lm (v := B (decide (sEq n.Name (ByteArray.mk #[])))) rfl rfl rfl ?_
  by_cases hg11 : sEq n.Name (ByteArray.mk #[])
  ·have hb12 := Eq.trans rfl (congrArg B (decide_eq_true hg11))
   refine wpL_gs rfl rfl rfl hb12 rfl ?_
   refine wpL_gs rfl rfl rfl hb12 rfl ?_
   refine wpL_gs rfl rfl rfl hb12 rfl ?_
   refine lq rfl (q_pickT (v := B (true)) rfl hb12 rfl) ?_
   refine lm (v := B (true)) rfl rfl rfl ?_
   refine gq rfl rfl rfl rfl (q_fieldAddr rfl Tryz.underlying52 rfl Tryz.sizeOf3 y1) ?_
   refine gq rfl rfl rfl rfl (q_loadBlk rfl rfl Tryz.isAgg3 (hS3.blk 0 rfl) rfl (fun h => h)) ?_
   refine gq rfl rfl rfl rfl (q_eql rfl rfl rfl) ?_
   refine gq rfl rfl rfl rfl (q_move (v := B (decide (n.N = 0))) rfl rfl) ?_
   by_cases hg14 : n.N = 0
   ·have hb15 := Eq.trans rfl (congrArg B (decide_eq_true hg14))
    refine wpL_gs rfl rfl rfl hb15 rfl ?_
    refine gq rfl rfl rfl rfl (q_pickT (v := B (true)) rfl hb15 rfl) ?_
    refine gq rfl rfl rfl rfl (q_move (v := B (true)) rfl rfl) ?_
    refine wpL_gs rfl rfl rfl rfl rfl ?_
    refine wpL_gs rfl rfl rfl rfl rfl ?_
    refine wpL_gs rfl rfl rfl rfl rfl ?_
    refine gq rfl rfl rfl rfl (q_pickT (v := B (true)) rfl rfl rfl) ?_
    refine lq rfl (q_pickT (v := B (true)) rfl rfl rfl) ?_
    refine lm (v := B (true)) rfl rfl rfl ?_
    refine gq rfl rfl rfl rfl (q_fieldAddr rfl Tryz.underlying52 rfl Tryz.sizeOf3 y1) ?_
    refine gq rfl rfl rfl rfl (q_loadBlk rfl rfl Tryz.isAgg3 (hS3.blk 0 rfl) rfl (fun h => h)) ?_
    refine gq rfl rfl rfl rfl (q_eql rfl rfl rfl) ?_
    refine gq rfl rfl rfl rfl (q_move (v := B (decide (n.D = 0))) rfl rfl) ?_
    by_cases hg17 : n.D = 0
    ·have hb18 := Eq.trans rfl (congrArg B (decide_eq_true hg17))
     refine wpL_gs rfl rfl rfl hb18 rfl ?_
     refine gq rfl rfl rfl rfl (q_pickT (v := B (true)) rfl hb18 rfl) ?_
     refine lq rfl (q_pickT (v := B (true)) rfl rfl rfl) ?_
     refine la (v := B (true)) rfl rfl rfl ?_
     exact ⟨(Eq.trans rfl (congrArg B ((decide_eq_true ⟨⟨(Or.inl hg11), (Or.inl (Or.inl hg14))⟩, (Or.inl hg17)⟩).symm))), rfl⟩
    ·have hb19 := Eq.trans rfl (congrArg B (decide_eq_false hg17))
     refine gq rfl rfl rfl hb19 (q_move (v := B (decide (((n.Op = 10) ∨ (n.Op = 12)) ∨ (n.Op = 15)))) rfl y3) ?_
     refine gq rfl rfl rfl rfl (q_pickF (v := B (decide (((n.Op = 10) ∨ (n.Op = 12)) ∨ (n.Op = 15)))) rfl hb19 rfl) ?_
     refine lq rfl (q_pickT (v := B (decide (((n.Op = 10) ∨ (n.Op = 12)) ∨ (n.Op = 15)))) rfl rfl rfl) ?_
     refine la (v := B (decide (((n.Op = 10) ∨ (n.Op = 12)) ∨ (n.Op = 15)))) rfl rfl rfl ?_
     exact ⟨(Eq.trans rfl (congrArg B (decide_congr_of ((Iff.rfl).trans (((and_iff_right ⟨(Or.inl hg11), (Or.inl (Or.inl hg14))⟩).trans ((or_iff_right hg17).trans Iff.rfl))).symm)))), rfl⟩
   ·have hb16 := Eq.trans rfl (congrArg B (decide_eq_false hg14))
    refine gq rfl rfl rfl hb16 (q_move (v := B (decide (((n.Op = 10) ∨ (n.Op = 12)) ∨ (n.Op = 15)))) rfl y3) ?_
    refine gq rfl rfl rfl rfl (q_pickF (v := B (decide (((n.Op = 10) ∨ (n.Op = 12)) ∨ (n.Op = 15)))) rfl hb16 rfl) ?_
    refine gq rfl rfl rfl rfl (q_move (v := B (decide (((n.Op = 10) ∨ (n.Op = 12)) ∨ (n.Op = 15)))) rfl rfl) ?_
    by_cases hg20 : ((n.Op = 10) ∨ (n.Op = 12)) ∨ (n.Op = 15)
    ·have hb21 := Eq.trans rfl (congrArg B (decide_eq_true hg20))
     refine wpL_gs rfl rfl rfl hb21 rfl ?_
     refine wpL_gs rfl rfl rfl hb21 rfl ?_
     refine wpL_gs rfl rfl rfl hb21 rfl ?_
     refine gq rfl rfl rfl rfl (q_pickT (v := B (true)) rfl hb21 rfl) ?_
     refine lq rfl (q_pickT (v := B (true)) rfl rfl rfl) ?_
     refine lm (v := B (true)) rfl rfl rfl ?_
     refine gq rfl rfl rfl rfl (q_fieldAddr rfl Tryz.underlying52 rfl Tryz.sizeOf3 y1) ?_
     refine gq rfl rfl rfl rfl (q_loadBlk rfl rfl Tryz.isAgg3 (hS3.blk 0 rfl) rfl (fun h => h)) ?_
     refine gq rfl rfl rfl rfl (q_eql rfl rfl rfl) ?_
     refine gq rfl rfl rfl rfl (q_move (v := B (decide (n.D = 0))) rfl rfl) ?_
     by_cases hg23 : n.D = 0
     ·have hb24 := Eq.trans rfl (congrArg B (decide_eq_true hg23))
      refine wpL_gs rfl rfl rfl hb24 rfl ?_
      refine gq rfl rfl rfl rfl (q_pickT (v := B (true)) rfl hb24 rfl) ?_
      refine lq rfl (q_pickT (v := B (true)) rfl rfl rfl) ?_
      refine la (v := B (true)) rfl rfl rfl ?_
      exact ⟨(Eq.trans rfl (congrArg B ((decide_eq_true ⟨⟨(Or.inl hg11), (Or.inl (Or.inr hg20))⟩, (Or.inl hg23)⟩).symm))), rfl⟩
     ·have hb25 := Eq.trans rfl (congrArg B (decide_eq_false hg23))
      refine gq rfl rfl rfl hb25 (q_move (v := B (decide (((n.Op = 10) ∨ (n.Op = 12)) ∨ (n.Op = 15)))) rfl y3) ?_
      refine gq rfl rfl rfl rfl (q_pickF (v := B (decide (((n.Op = 10) ∨ (n.Op = 12)) ∨ (n.Op = 15)))) rfl hb25 rfl) ?_
      refine lq rfl (q_pickT (v := B (decide (((n.Op = 10) ∨ (n.Op = 12)) ∨ (n.Op = 15)))) rfl rfl rfl) ?_
      refine la (v := B (decide (((n.Op = 10) ∨ (n.Op = 12)) ∨ (n.Op = 15)))) rfl rfl rfl ?_
      exact ⟨(Eq.trans rfl (congrArg B ((decide_eq_true hg20).trans (decide_eq_true ⟨⟨(Or.inl hg11), (Or.inl (Or.inr hg20))⟩, (Or.inr hg20)⟩).symm))), rfl⟩
    ·have hb22 := Eq.trans rfl (congrArg B (decide_eq_false hg20))
     refine gq rfl rfl rfl hb22 (q_fieldAddr rfl Tryz.underlying52 rfl Tryz.sizeOf3 y1) ?_
     refine gq rfl rfl rfl hb22 (q_loadBlk rfl rfl Tryz.isAgg3 (hS3.blk 0 rfl) rfl (fun h => h)) ?_
     refine gq rfl rfl rfl hb22 (q_eql rfl rfl rfl) ?_
     refine gq rfl rfl rfl rfl (q_pickF (v := B (decide (n.Op = 23))) rfl hb22 rfl) ?_
     refine lq rfl (q_pickT (v := B (decide (n.Op = 23))) rfl rfl rfl) ?_
     refine lm (v := B (decide (n.Op = 23))) rfl rfl rfl ?_
     by_cases hg26 : n.Op = 23
     ·have hb27 := Eq.trans rfl (congrArg B (decide_eq_true hg26))
      refine gq rfl rfl rfl hb27 (q_fieldAddr rfl Tryz.underlying52 rfl Tryz.sizeOf3 y1) ?_
      refine gq rfl rfl rfl hb27 (q_loadBlk rfl rfl Tryz.isAgg3 (hS3.blk 0 rfl) rfl (fun h => h)) ?_
      refine gq rfl rfl rfl hb27 (q_eql rfl rfl rfl) ?_
      refine gq rfl rfl rfl hb27 (q_move (v := B (decide (n.D = 0))) rfl rfl) ?_
      by_cases hg29 : n.D = 0
      ·have hb30 := Eq.trans rfl (congrArg B (decide_eq_true hg29))
       refine wpL_gs rfl rfl rfl hb30 rfl ?_
       refine gq rfl rfl rfl hb27 (q_pickT (v := B (true)) rfl hb30 rfl) ?_
       refine lq rfl (q_pickT (v := B (true)) rfl hb27 rfl) ?_
       refine la (v := B (true)) rfl rfl rfl ?_
       exact ⟨(Eq.trans rfl (congrArg B ((decide_eq_true ⟨⟨(Or.inl hg11), (Or.inr hg26)⟩, (Or.inl hg29)⟩).symm))), rfl⟩
      ·have hb31 := Eq.trans rfl (congrArg B (decide_eq_false hg29))
       refine gq rfl rfl rfl hb31 (q_move (v := B (decide (((n.Op = 10) ∨ (n.Op = 12)) ∨ (n.Op = 15)))) rfl y3) ?_
       refine gq rfl rfl rfl hb27 (q_pickF (v := B (decide (((n.Op = 10) ∨ (n.Op = 12)) ∨ (n.Op = 15)))) rfl hb31 rfl) ?_
       refine lq rfl (q_pickT (v := B (decide (((n.Op = 10) ∨ (n.Op = 12)) ∨ (n.Op = 15)))) rfl hb27 rfl) ?_
       refine la (v := B (decide (((n.Op = 10) ∨ (n.Op = 12)) ∨ (n.Op = 15)))) rfl rfl rfl ?_
       exact ⟨(Eq.trans rfl (congrArg B ((decide_eq_false hg20).trans (decide_eq_false (fun h => (not_or.2 ⟨hg29, hg20⟩) h.2)).symm))), rfl⟩
     ·have hb28 := Eq.trans rfl (congrArg B (decide_eq_false hg26))
      refine wpL_gs rfl rfl rfl hb28 rfl ?_
      refine wpL_gs rfl rfl rfl hb28 rfl ?_
      refine wpL_gs rfl rfl rfl hb28 rfl ?_
      refine wpL_gs rfl rfl rfl hb28 rfl ?_
      refine wpL_gs' rfl rfl rfl rfl ?_
      refine wpL_gs rfl rfl rfl hb28 rfl ?_
      refine lq rfl (q_pickF (v := B (false)) rfl hb28 rfl) ?_
      refine la (v := B (false)) rfl rfl rfl ?_
      exact ⟨(Eq.trans rfl (congrArg B ((decide_eq_false (fun h => (fun h => (not_or.2 ⟨(not_or.2 ⟨hg14, hg20⟩), hg26⟩) h.2) h.1)).symm))), rfl⟩
  ·have hb13 := Eq.trans rfl (congrArg B (decide_eq_false hg11))
   refine gq rfl rfl rfl hb13 (q_fieldAddr rfl Tryz.underlying52 rfl Tryz.sizeOf3 y1) ?_
   refine gq rfl rfl rfl hb13 (q_loadBlk rfl rfl Tryz.isAgg3 (hS3.blk 0 rfl) rfl (fun h => h)) ?_
   refine gq rfl rfl rfl hb13 (q_eql rfl rfl rfl) ?_
   refine lq rfl (q_pickF (v := B (decide (n.Op = 9))) rfl hb13 rfl) ?_
   refine lm (v := B (decide (n.Op = 9))) rfl rfl rfl ?_
   by_cases hg32 : n.Op = 9
   ·have hb33 := Eq.trans rfl (congrArg B (decide_eq_true hg32))
    refine gq rfl rfl rfl hb33 (q_fieldAddr rfl Tryz.underlying52 rfl Tryz.sizeOf3 y1) ?_
    refine gq rfl rfl rfl hb33 (q_loadBlk rfl rfl Tryz.isAgg3 (hS3.blk 0 rfl) rfl (fun h => h)) ?_
    refine gq rfl rfl rfl hb33 (q_eql rfl rfl rfl) ?_
    refine gq rfl rfl rfl hb33 (q_move (v := B (decide (n.N = 0))) rfl rfl) ?_
    by_cases hg35 : n.N = 0
    ·have hb36 := Eq.trans rfl (congrArg B (decide_eq_true hg35))
     refine wpL_gs rfl rfl rfl hb36 rfl ?_
     refine gq rfl rfl rfl hb33 (q_pickT (v := B (true)) rfl hb36 rfl) ?_
     refine gq rfl rfl rfl hb33 (q_move (v := B (true)) rfl rfl) ?_
     refine wpL_gs rfl rfl rfl rfl rfl ?_
     refine wpL_gs rfl rfl rfl rfl rfl ?_
     refine wpL_gs rfl rfl rfl rfl rfl ?_
     refine gq rfl rfl rfl hb33 (q_pickT (v := B (true)) rfl rfl rfl) ?_
     refine lq rfl (q_pickT (v := B (true)) rfl hb33 rfl) ?_
     refine lm (v := B (true)) rfl rfl rfl ?_
     refine gq rfl rfl rfl rfl (q_fieldAddr rfl Tryz.underlying52 rfl Tryz.sizeOf3 y1) ?_
     refine gq rfl rfl rfl rfl (q_loadBlk rfl rfl Tryz.isAgg3 (hS3.blk 0 rfl) rfl (fun h => h)) ?_
     refine gq rfl rfl rfl rfl (q_eql rfl rfl rfl) ?_
     refine gq rfl rfl rfl rfl (q_move (v := B (decide (n.D = 0))) rfl rfl) ?_
     by_cases hg38 : n.D = 0
     ·have hb39 := Eq.trans rfl (congrArg B (decide_eq_true hg38))
      refine wpL_gs rfl rfl rfl hb39 rfl ?_
      refine gq rfl rfl rfl rfl (q_pickT (v := B (true)) rfl hb39 rfl) ?_
      refine lq rfl (q_pickT (v := B (true)) rfl rfl rfl) ?_
      refine la (v := B (true)) rfl rfl rfl ?_
      exact ⟨(Eq.trans rfl (congrArg B ((decide_eq_true ⟨⟨(Or.inr hg32), (Or.inl (Or.inl hg35))⟩, (Or.inl hg38)⟩).symm))), rfl⟩
     ·have hb40 := Eq.trans rfl (congrArg B (decide_eq_false hg38))
      refine gq rfl rfl rfl hb40 (q_move (v := B (decide (((n.Op = 10) ∨ (n.Op = 12)) ∨ (n.Op = 15)))) rfl y3) ?_
      refine gq rfl rfl rfl rfl (q_pickF (v := B (decide (((n.Op = 10) ∨ (n.Op = 12)) ∨ (n.Op = 15)))) rfl hb40 rfl) ?_
      refine lq rfl (q_pickT (v := B (decide (((n.Op = 10) ∨ (n.Op = 12)) ∨ (n.Op = 15)))) rfl rfl rfl) ?_
      refine la (v := B (decide (((n.Op = 10) ∨ (n.Op = 12)) ∨ (n.Op = 15)))) rfl rfl rfl ?_
      exact ⟨(Eq.trans rfl (congrArg B (decide_congr_of ((Iff.rfl).trans (((and_iff_right ⟨(Or.inr hg32), (Or.inl (Or.inl hg35))⟩).trans ((or_iff_right hg38).trans Iff.rfl))).symm)))), rfl⟩
    ·have hb37 := Eq.trans rfl (congrArg B (decide_eq_false hg35))
     refine gq rfl rfl rfl hb37 (q_move (v := B (decide (((n.Op = 10) ∨ (n.Op = 12)) ∨ (n.Op = 15)))) rfl y3) ?_
     refine gq rfl rfl rfl hb33 (q_pickF (v := B (decide (((n.Op = 10) ∨ (n.Op = 12)) ∨ (n.Op = 15)))) rfl hb37 rfl) ?_
     refine gq rfl rfl rfl hb33 (q_move (v := B (decide (((n.Op = 10) ∨ (n.Op = 12)) ∨ (n.Op = 15)))) rfl rfl) ?_
     by_cases hg41 : ((n.Op = 10) ∨ (n.Op = 12)) ∨ (n.Op = 15)
     ·have hb42 := Eq.trans rfl (congrArg B (decide_eq_true hg41))
      refine wpL_gs rfl rfl rfl hb42 rfl ?_
      refine wpL_gs rfl rfl rfl hb42 rfl ?_
      refine wpL_gs rfl rfl rfl hb42 rfl ?_
      refine gq rfl rfl rfl hb33 (q_pickT (v := B (true)) rfl hb42 rfl) ?_
      refine lq rfl (q_pickT (v := B (true)) rfl hb33 rfl) ?_
      refine lm (v := B (true)) rfl rfl rfl ?_
      refine gq rfl rfl rfl rfl (q_fieldAddr rfl Tryz.underlying52 rfl Tryz.sizeOf3 y1) ?_
      refine gq rfl rfl rfl rfl (q_loadBlk rfl rfl Tryz.isAgg3 (hS3.blk 0 rfl) rfl (fun h => h)) ?_
      refine gq rfl rfl rfl rfl (q_eql rfl rfl rfl) ?_
      refine gq rfl rfl rfl rfl (q_move (v := B (decide (n.D = 0))) rfl rfl) ?_
      by_cases hg44 : n.D = 0
      ·have hb45 := Eq.trans rfl (congrArg B (decide_eq_true hg44))
       refine wpL_gs rfl rfl rfl hb45 rfl ?_
       refine gq rfl rfl rfl rfl (q_pickT (v := B (true)) rfl hb45 rfl) ?_
       refine lq rfl (q_pickT (v := B (true)) rfl rfl rfl) ?_
       refine la (v := B (true)) rfl rfl rfl ?_
       exact ⟨(Eq.trans rfl (congrArg B ((decide_eq_true ⟨⟨(Or.inr hg32), (Or.inl (Or.inr hg41))⟩, (Or.inl hg44)⟩).symm))), rfl⟩
      ·have hb46 := Eq.trans rfl (congrArg B (decide_eq_false hg44))
       refine gq rfl rfl rfl hb46 (q_move (v := B (decide (((n.Op = 10) ∨ (n.Op = 12)) ∨ (n.Op = 15)))) rfl y3) ?_
       refine gq rfl rfl rfl rfl (q_pickF (v := B (decide (((n.Op = 10) ∨ (n.Op = 12)) ∨ (n.Op = 15)))) rfl hb46 rfl) ?_
       refine lq rfl (q_pickT (v := B (decide (((n.Op = 10) ∨ (n.Op = 12)) ∨ (n.Op = 15)))) rfl rfl rfl) ?_
       refine la (v := B (decide (((n.Op = 10) ∨ (n.Op = 12)) ∨ (n.Op = 15)))) rfl rfl rfl ?_
       exact ⟨(Eq.trans rfl (congrArg B ((decide_eq_true hg41).trans (decide_eq_true ⟨⟨(Or.inr hg32), (Or.inl (Or.inr hg41))⟩, (Or.inr hg41)⟩).symm))), rfl⟩
     ·have hb43 := Eq.trans rfl (congrArg B (decide_eq_false hg41))
      refine gq rfl rfl rfl hb43 (q_fieldAddr rfl Tryz.underlying52 rfl Tryz.sizeOf3 y1) ?_
      refine gq rfl rfl rfl hb43 (q_loadBlk rfl rfl Tryz.isAgg3 (hS3.blk 0 rfl) rfl (fun h => h)) ?_
      refine gq rfl rfl rfl hb43 (q_eql rfl rfl rfl) ?_
      refine gq rfl rfl rfl hb33 (q_pickF (v := B (decide (n.Op = 23))) rfl hb43 rfl) ?_
      refine lq rfl (q_pickT (v := B (decide (n.Op = 23))) rfl hb33 rfl) ?_
      refine lm (v := B (decide (n.Op = 23))) rfl rfl rfl ?_
      by_cases hg47 : n.Op = 23
      ·have hb48 := Eq.trans rfl (congrArg B (decide_eq_true hg47))
       refine gq rfl rfl rfl hb48 (q_fieldAddr rfl Tryz.underlying52 rfl Tryz.sizeOf3 y1) ?_
       refine gq rfl rfl rfl hb48 (q_loadBlk rfl rfl Tryz.isAgg3 (hS3.blk 0 rfl) rfl (fun h => h)) ?_
       refine gq rfl rfl rfl hb48 (q_eql rfl rfl rfl) ?_
       refine gq rfl rfl rfl hb48 (q_move (v := B (decide (n.D = 0))) rfl rfl) ?_
       by_cases hg50 : n.D = 0
       ·have hb51 := Eq.trans rfl (congrArg B (decide_eq_true hg50))
        refine wpL_gs rfl rfl rfl hb51 rfl ?_
        refine gq rfl rfl rfl hb48 (q_pickT (v := B (true)) rfl hb51 rfl) ?_
        refine lq rfl (q_pickT (v := B (true)) rfl hb48 rfl) ?_
        refine la (v := B (true)) rfl rfl rfl ?_
        exact ⟨(Eq.trans rfl (congrArg B ((decide_eq_true ⟨⟨(Or.inr hg32), (Or.inr hg47)⟩, (Or.inl hg50)⟩).symm))), rfl⟩
       ·have hb52 := Eq.trans rfl (congrArg B (decide_eq_false hg50))
        refine gq rfl rfl rfl hb52 (q_move (v := B (decide (((n.Op = 10) ∨ (n.Op = 12)) ∨ (n.Op = 15)))) rfl y3) ?_
        refine gq rfl rfl rfl hb48 (q_pickF (v := B (decide (((n.Op = 10) ∨ (n.Op = 12)) ∨ (n.Op = 15)))) rfl hb52 rfl) ?_
        refine lq rfl (q_pickT (v := B (decide (((n.Op = 10) ∨ (n.Op = 12)) ∨ (n.Op = 15)))) rfl hb48 rfl) ?_
        refine la (v := B (decide (((n.Op = 10) ∨ (n.Op = 12)) ∨ (n.Op = 15)))) rfl rfl rfl ?_
        exact ⟨(Eq.trans rfl (congrArg B ((decide_eq_false hg41).trans (decide_eq_false (fun h => (not_or.2 ⟨hg50, hg41⟩) h.2)).symm))), rfl⟩
      ·have hb49 := Eq.trans rfl (congrArg B (decide_eq_false hg47))
       refine wpL_gs rfl rfl rfl hb49 rfl ?_
       refine wpL_gs rfl rfl rfl hb49 rfl ?_
       refine wpL_gs rfl rfl rfl hb49 rfl ?_
       refine wpL_gs rfl rfl rfl hb49 rfl ?_
       refine wpL_gs' rfl rfl rfl rfl ?_
       refine wpL_gs rfl rfl rfl hb49 rfl ?_
       refine lq rfl (q_pickF (v := B (false)) rfl hb49 rfl) ?_
       refine la (v := B (false)) rfl rfl rfl ?_
       exact ⟨(Eq.trans rfl (congrArg B ((decide_eq_false (fun h => (fun h => (not_or.2 ⟨(not_or.2 ⟨hg35, hg41⟩), hg47⟩) h.2) h.1)).symm))), rfl⟩
   ·have hb34 := Eq.trans rfl (congrArg B (decide_eq_false hg32))
    refine wpL_gs rfl rfl rfl hb34 rfl ?_
    refine wpL_gs rfl rfl rfl hb34 rfl ?_
    refine wpL_gs rfl rfl rfl hb34 rfl ?_
    refine wpL_gs rfl rfl rfl hb34 rfl ?_
    refine wpL_gs' rfl rfl rfl rfl ?_
    refine wpL_gs rfl rfl rfl hb34 rfl ?_
    refine wpL_gs rfl rfl rfl hb34 rfl ?_
    refine wpL_gs' rfl rfl rfl rfl ?_
    refine wpL_gs' rfl rfl rfl rfl ?_
    refine wpL_gs' rfl rfl rfl rfl ?_
    refine wpL_gs rfl rfl rfl hb34 rfl ?_
    refine lq rfl (q_pickF (v := B (false)) rfl hb34 rfl) ?_
    refine lm (v := B (false)) rfl rfl rfl ?_
    refine wpL_gs rfl rfl rfl rfl rfl ?_
    refine wpL_gs rfl rfl rfl rfl rfl ?_
    refine wpL_gs rfl rfl rfl rfl rfl ?_
    refine wpL_gs rfl rfl rfl rfl rfl ?_
    refine wpL_gs' rfl rfl rfl rfl ?_
    refine wpL_gs rfl rfl rfl rfl rfl ?_
    refine lq rfl (q_pickF (v := B (false)) rfl rfl rfl) ?_
    refine la (v := B (false)) rfl rfl rfl ?_
    exact ⟨(Eq.trans rfl (congrArg B ((decide_eq_false (fun h => (fun h => (not_or.2 ⟨hg11, hg32⟩) h.1) h.1)).symm))), rfl⟩
 clear y1 y3
 rintro f53 _ ⟨y2, rfl⟩
 refine wpF_ret ?_
 refine ⟨_, resT y2 resN, hS3.frame, ?_⟩
 show (B (decide ((((sEq n.Name (ByteArray.mk #[])) ∨ (n.Op = 9)) ∧ (((n.N = 0) ∨ (((n.Op = 10) ∨ (n.Op = 12)) ∨ (n.Op = 15))) ∨ (n.Op = 23))) ∧ ((n.D = 0) ∨ (((n.Op = 10) ∨ (n.Op = 12)) ∨ (n.Op = 15)))))) = B (decide (formedN n))
 rfl
set_option maxHeartbeats 1000000 in
set_option maxRecDepth 100000 in
theorem numbers_L {H0 : Heap} (vk : Value) (n : Node) (h6nOp : In64 n.Op) (rvk : Rd NoB H0 vk n.Kids) (h6nN : In64 n.N) (h6nD : In64 n.D) (h6nName : n.Name.size ≤ maxLen) : CallsH Tryz.prog 53 #[Vg #[I (n.Op), vk, I (n.N), I (n.D), SB (n.Name)]] H0 (fun rv_ H' => Ext NoB H0 H' ∧ rv_ = B (numsB n)) := by
 have hS0 : St H0 NoB NoB [rdE vk n.Kids] H0 := St.arg (St.start (fun _ h => h.elim)) (Bl0.nil) rvk (fun _ h => h)
 refine callsH_of_wpF (args := [Vg #[I (n.Op), vk, I (n.N), I (n.D), SB (n.Name)]]) (rs := [.tmp 2]) Tryz.func53 rfl Tryz.ntmps53 Tryz.results53 (by kernel_rfl) (Nat.le_of_ble_eq_true rfl) ?_
 have y0 : argF [Vg #[I (n.Op), vk, I (n.N), I (n.D), SB (n.Name)]] 0 = Vg #[I (n.Op), vk, I (n.N), I (n.D), SB (n.Name)] := rfl
 generalize argF [Vg #[I (n.Op), vk, I (n.N), I (n.D), SB (n.Name)]] = f0 at *
 refine wpF_seq ?_
 refine wpF_region ?_
 refine lo rfl ?_
 refine e_box (v := Vg #[I (n.Op), vk, I (n.N), I (n.D), SB (n.Name)]) rfl y0 hS0 (fun g1 H2 hS3 hxx => ?_)
 refine la (v := B (false)) rfl rfl rfl ?_
 refine wpL_nil ?_
 refine wpF_seq ?_
 refine wpF_seq ?_
 refine wpF_region ?_
 refine lq rfl (q_fieldAddr rfl Tryz.underlying52 rfl Tryz.sizeOf3 rfl) ?_
 refine lq rfl (q_loadBlk rfl rfl Tryz.isAgg3 (hS3.blk 0 rfl) rfl (fun h => h)) ?_
 refine wpL_nil ?_
 refine wpF_block ?_
 refine wpF_seq ?_
 refine wpF_seq ?_
 refine wpF_region ?_
 refine lq rfl (q_eql rfl rfl rfl) ?_
 refine la (v := B (decide (n.Op = 10))) rfl rfl rfl ?_
 refine wpL_nil ?_
 refine wpF_condP rfl (fun hp4 => ?t58) (fun hp4 => ?e58)
 case t58 =>
  refine wpF_skip ?_
  refine wpF_condT (Eq.trans rfl (congrArg B (decide_eq_true hp4))) ?_
  refine fcr (fun f H => f 2 = B (decide ((((((-1000000) ≤ n.N) ∧ (n.N ≤ 1000000)) ∧ (1 ≤ n.D)) ∧ (n.D ≤ 1000000)) ∧ (((gcdT n.N n.D)) = 1))) ∧ St H0 NoB NoB [bE g1 #[I (n.Op), vk, I (n.N), I (n.D), SB (n.Name)] 52, rdE vk n.Kids] H) ?_ ?_
  ·refine lq rfl (q_fieldAddr rfl Tryz.underlying52 rfl Tryz.sizeOf3 rfl) ?_
   refine lq rfl (q_loadBlk rfl rfl Tryz.isAgg3 (hS3.blk 0 rfl) rfl (fun h => h)) ?_
   refine lq rfl (q_geq rfl rfl rfl) ?_
   refine lm (v := B (decide ((-1000000) ≤ n.N))) rfl rfl rfl ?_
   by_cases hg5 : (-1000000) ≤ n.N
   ·have hb6 := Eq.trans rfl (congrArg B (decide_eq_true hg5))
    refine gq rfl rfl rfl hb6 (q_fieldAddr rfl Tryz.underlying52 rfl Tryz.sizeOf3 rfl) ?_
    refine gq rfl rfl rfl hb6 (q_loadBlk rfl rfl Tryz.isAgg3 (hS3.blk 0 rfl) rfl (fun h => h)) ?_
    refine gq rfl rfl rfl hb6 (q_leq rfl rfl rfl) ?_
    refine lq rfl (q_pickT (v := B (decide (n.N ≤ 1000000))) rfl hb6 rfl) ?_
    refine lm (v := B (decide (n.N ≤ 1000000))) rfl rfl rfl ?_
    by_cases hg8 : n.N ≤ 1000000
    ·have hb9 := Eq.trans rfl (congrArg B (decide_eq_true hg8))
     refine gq rfl rfl rfl hb9 (q_fieldAddr rfl Tryz.underlying52 rfl Tryz.sizeOf3 rfl) ?_
     refine gq rfl rfl rfl hb9 (q_loadBlk rfl rfl Tryz.isAgg3 (hS3.blk 0 rfl) rfl (fun h => h)) ?_
     refine gq rfl rfl rfl hb9 (q_geq rfl rfl rfl) ?_
     refine lq rfl (q_pickT (v := B (decide (1 ≤ n.D))) rfl hb9 rfl) ?_
     refine lm (v := B (decide (1 ≤ n.D))) rfl rfl rfl ?_
     by_cases hg11 : 1 ≤ n.D
     ·have hb12 := Eq.trans rfl (congrArg B (decide_eq_true hg11))
      refine gq rfl rfl rfl hb12 (q_fieldAddr rfl Tryz.underlying52 rfl Tryz.sizeOf3 rfl) ?_
      refine gq rfl rfl rfl hb12 (q_loadBlk rfl rfl Tryz.isAgg3 (hS3.blk 0 rfl) rfl (fun h => h)) ?_
      refine gq rfl rfl rfl hb12 (q_leq rfl rfl rfl) ?_
      refine lq rfl (q_pickT (v := B (decide (n.D ≤ 1000000))) rfl hb12 rfl) ?_
      refine lm (v := B (decide (n.D ≤ 1000000))) rfl rfl rfl ?_
      by_cases hg14 : n.D ≤ 1000000
      ·have hb15 := Eq.trans rfl (congrArg B (decide_eq_true hg14))
       refine gq rfl rfl rfl hb15 (q_fieldAddr rfl Tryz.underlying52 rfl Tryz.sizeOf3 rfl) ?_
       refine gq rfl rfl rfl hb15 (q_loadBlk rfl rfl Tryz.isAgg3 (hS3.blk 0 rfl) rfl (fun h => h)) ?_
       refine gq rfl rfl rfl hb15 (q_fieldAddr rfl Tryz.underlying52 rfl Tryz.sizeOf3 rfl) ?_
       refine gq rfl rfl rfl hb15 (q_loadBlk rfl rfl Tryz.isAgg3 (hS3.blk 0 rfl) rfl (fun h => h)) ?_
       refine wpL_go rfl rfl rfl hb15 ?_
       refine e_call rfl Tryz.call82 (arr2 (v0 := I (n.N)) (v1 := I (n.D)) rfl rfl) (gcd_L  n.N n.D  (by omega) (by omega)) ?_
       rintro _ H17 ⟨hxx, rfl⟩
       have hS18 := hS3.ext hxx
       refine gq rfl rfl rfl hb15 (q_eql rfl rfl rfl) ?_
       refine lq rfl (q_pickT (v := B (decide (((gcdT n.N n.D)) = 1))) rfl hb15 rfl) ?_
       refine la (v := B (decide (((gcdT n.N n.D)) = 1))) rfl rfl rfl ?_
       exact ⟨(Eq.trans rfl (congrArg B (decide_congr_of ((Iff.rfl).trans (((and_iff_right ⟨⟨⟨hg5, hg8⟩, hg11⟩, hg14⟩).trans Iff.rfl)).symm)))), hS18⟩
      ·have hb16 := Eq.trans rfl (congrArg B (decide_eq_false hg14))
       refine wpL_gs rfl rfl rfl hb16 rfl ?_
       refine wpL_gs rfl rfl rfl hb16 rfl ?_
       refine wpL_gs rfl rfl rfl hb16 rfl ?_
       refine wpL_gs rfl rfl rfl hb16 rfl ?_
       refine wpL_gs rfl rfl rfl hb16 rfl ?_
       refine wpL_gs rfl rfl rfl hb16 rfl ?_
       refine lq rfl (q_pickF (v := B (false)) rfl hb16 rfl) ?_
       refine la (v := B (false)) rfl rfl rfl ?_
       exact ⟨(Eq.trans rfl (congrArg B ((decide_eq_false (fun h => (fun h => hg14 h.2) h.1)).symm))), hS3⟩
     ·have hb13 := Eq.trans rfl (congrArg B (decide_eq_false hg11))
      refine wpL_gs rfl rfl rfl hb13 rfl ?_
      refine wpL_gs rfl rfl rfl hb13 rfl ?_
      refine wpL_gs rfl rfl rfl hb13 rfl ?_
      refine lq rfl (q_pickF (v := B (false)) rfl hb13 rfl) ?_
      refine lm (v := B (false)) rfl rfl rfl ?_
      refine wpL_gs rfl rfl rfl rfl rfl ?_
      refine wpL_gs rfl rfl rfl rfl rfl ?_
      refine wpL_gs rfl rfl rfl rfl rfl ?_
      refine wpL_gs rfl rfl rfl rfl rfl ?_
      refine wpL_gs rfl rfl rfl rfl rfl ?_
      refine wpL_gs rfl rfl rfl rfl rfl ?_
      refine lq rfl (q_pickF (v := B (false)) rfl rfl rfl) ?_
      refine la (v := B (false)) rfl rfl rfl ?_
      exact ⟨(Eq.trans rfl (congrArg B ((decide_eq_false (fun h => (fun h => (fun h => hg11 h.2) h.1) h.1)).symm))), hS3⟩
    ·have hb10 := Eq.trans rfl (congrArg B (decide_eq_false hg8))
     refine wpL_gs rfl rfl rfl hb10 rfl ?_
     refine wpL_gs rfl rfl rfl hb10 rfl ?_
     refine wpL_gs rfl rfl rfl hb10 rfl ?_
     refine lq rfl (q_pickF (v := B (false)) rfl hb10 rfl) ?_
     refine lm (v := B (false)) rfl rfl rfl ?_
     refine wpL_gs rfl rfl rfl rfl rfl ?_
     refine wpL_gs rfl rfl rfl rfl rfl ?_
     refine wpL_gs rfl rfl rfl rfl rfl ?_
     refine lq rfl (q_pickF (v := B (false)) rfl rfl rfl) ?_
     refine lm (v := B (false)) rfl rfl rfl ?_
     refine wpL_gs rfl rfl rfl rfl rfl ?_
     refine wpL_gs rfl rfl rfl rfl rfl ?_
     refine wpL_gs rfl rfl rfl rfl rfl ?_
     refine wpL_gs rfl rfl rfl rfl rfl ?_
     refine wpL_gs rfl rfl rfl rfl rfl ?_
     refine wpL_gs rfl rfl rfl rfl rfl ?_
     refine lq rfl (q_pickF (v := B (false)) rfl rfl rfl) ?_
     refine la (v := B (false)) rfl rfl rfl ?_
     exact ⟨(Eq.trans rfl (congrArg B ((decide_eq_false (fun h => (fun h => (fun h => (fun h => hg8 h.2) h.1) h.1) h.1)).symm))), hS3⟩
   ·have hb7 := Eq.trans rfl (congrArg B (decide_eq_false hg5))
    refine wpL_gs rfl rfl rfl hb7 rfl ?_
    refine wpL_gs rfl rfl rfl hb7 rfl ?_
    refine wpL_gs rfl rfl rfl hb7 rfl ?_
    refine lq rfl (q_pickF (v := B (false)) rfl hb7 rfl) ?_
    refine lm (v := B (false)) rfl rfl rfl ?_
    refine wpL_gs rfl rfl rfl rfl rfl ?_
    refine wpL_gs rfl rfl rfl rfl rfl ?_
    refine wpL_gs rfl rfl rfl rfl rfl ?_
    refine lq rfl (q_pickF (v := B (false)) rfl rfl rfl) ?_
    refine lm (v := B (false)) rfl rfl rfl ?_
    refine wpL_gs rfl rfl rfl rfl rfl ?_
    refine wpL_gs rfl rfl rfl rfl rfl ?_
    refine wpL_gs rfl rfl rfl rfl rfl ?_
    refine lq rfl (q_pickF (v := B (false)) rfl rfl rfl) ?_
    refine lm (v := B (false)) rfl rfl rfl ?_
    refine wpL_gs rfl rfl rfl rfl rfl ?_
    refine wpL_gs rfl rfl rfl rfl rfl ?_
    refine wpL_gs rfl rfl rfl rfl rfl ?_
    refine wpL_gs rfl rfl rfl rfl rfl ?_
    refine wpL_gs rfl rfl rfl rfl rfl ?_
    refine wpL_gs rfl rfl rfl rfl rfl ?_
    refine lq rfl (q_pickF (v := B (false)) rfl rfl rfl) ?_
    refine la (v := B (false)) rfl rfl rfl ?_
    exact ⟨(Eq.trans rfl (congrArg B ((decide_eq_false (fun h => (fun h => (fun h => (fun h => hg5 h.1) h.1) h.1) h.1)).symm))), hS3⟩
  rintro f20 H20 ⟨y2, hS20⟩
  refine wpF_ret ?_
  refine ⟨_, resT y2 resN, hS20.frame, ?_⟩
  show (B (decide ((((((-1000000) ≤ n.N) ∧ (n.N ≤ 1000000)) ∧ (1 ≤ n.D)) ∧ (n.D ≤ 1000000)) ∧ (((gcdT n.N n.D)) = 1)))) = B (numsB n)
  exact congrArg B (by rw [numsB, hp4]; rfl)
 refine wpF_region ?_
 refine lq rfl (q_eql rfl rfl rfl) ?_
 refine la (v := B (decide (n.Op = 12))) rfl rfl rfl ?_
 refine wpL_nil ?_
 refine wpF_condP rfl (fun hp21 => ?t57) (fun hp21 => ?e57)
 case t57 =>
  refine fcr (fun f H => f 2 = B (decide ((((((-1000000) ≤ n.N) ∧ (n.N ≤ 1000000)) ∧ (1 ≤ n.D)) ∧ (n.D ≤ 1000000)) ∧ (((gcdT n.N n.D)) = 1))) ∧ St H0 NoB NoB [bE g1 #[I (n.Op), vk, I (n.N), I (n.D), SB (n.Name)] 52, rdE vk n.Kids] H) ?_ ?_
  ·refine lq rfl (q_fieldAddr rfl Tryz.underlying52 rfl Tryz.sizeOf3 rfl) ?_
   refine lq rfl (q_loadBlk rfl rfl Tryz.isAgg3 (hS3.blk 0 rfl) rfl (fun h => h)) ?_
   refine lq rfl (q_geq rfl rfl rfl) ?_
   refine lm (v := B (decide ((-1000000) ≤ n.N))) rfl rfl rfl ?_
   by_cases hg22 : (-1000000) ≤ n.N
   ·have hb23 := Eq.trans rfl (congrArg B (decide_eq_true hg22))
    refine gq rfl rfl rfl hb23 (q_fieldAddr rfl Tryz.underlying52 rfl Tryz.sizeOf3 rfl) ?_
    refine gq rfl rfl rfl hb23 (q_loadBlk rfl rfl Tryz.isAgg3 (hS3.blk 0 rfl) rfl (fun h => h)) ?_
    refine gq rfl rfl rfl hb23 (q_leq rfl rfl rfl) ?_
    refine lq rfl (q_pickT (v := B (decide (n.N ≤ 1000000))) rfl hb23 rfl) ?_
    refine lm (v := B (decide (n.N ≤ 1000000))) rfl rfl rfl ?_
    by_cases hg25 : n.N ≤ 1000000
    ·have hb26 := Eq.trans rfl (congrArg B (decide_eq_true hg25))
     refine gq rfl rfl rfl hb26 (q_fieldAddr rfl Tryz.underlying52 rfl Tryz.sizeOf3 rfl) ?_
     refine gq rfl rfl rfl hb26 (q_loadBlk rfl rfl Tryz.isAgg3 (hS3.blk 0 rfl) rfl (fun h => h)) ?_
     refine gq rfl rfl rfl hb26 (q_geq rfl rfl rfl) ?_
     refine lq rfl (q_pickT (v := B (decide (1 ≤ n.D))) rfl hb26 rfl) ?_
     refine lm (v := B (decide (1 ≤ n.D))) rfl rfl rfl ?_
     by_cases hg28 : 1 ≤ n.D
     ·have hb29 := Eq.trans rfl (congrArg B (decide_eq_true hg28))
      refine gq rfl rfl rfl hb29 (q_fieldAddr rfl Tryz.underlying52 rfl Tryz.sizeOf3 rfl) ?_
      refine gq rfl rfl rfl hb29 (q_loadBlk rfl rfl Tryz.isAgg3 (hS3.blk 0 rfl) rfl (fun h => h)) ?_
      refine gq rfl rfl rfl hb29 (q_leq rfl rfl rfl) ?_
      refine lq rfl (q_pickT (v := B (decide (n.D ≤ 1000000))) rfl hb29 rfl) ?_
      refine lm (v := B (decide (n.D ≤ 1000000))) rfl rfl rfl ?_
      by_cases hg31 : n.D ≤ 1000000
      ·have hb32 := Eq.trans rfl (congrArg B (decide_eq_true hg31))
       refine gq rfl rfl rfl hb32 (q_fieldAddr rfl Tryz.underlying52 rfl Tryz.sizeOf3 rfl) ?_
       refine gq rfl rfl rfl hb32 (q_loadBlk rfl rfl Tryz.isAgg3 (hS3.blk 0 rfl) rfl (fun h => h)) ?_
       refine gq rfl rfl rfl hb32 (q_fieldAddr rfl Tryz.underlying52 rfl Tryz.sizeOf3 rfl) ?_
       refine gq rfl rfl rfl hb32 (q_loadBlk rfl rfl Tryz.isAgg3 (hS3.blk 0 rfl) rfl (fun h => h)) ?_
       refine wpL_go rfl rfl rfl hb32 ?_
       refine e_call rfl Tryz.call82 (arr2 (v0 := I (n.N)) (v1 := I (n.D)) rfl rfl) (gcd_L  n.N n.D  (by omega) (by omega)) ?_
       rintro _ H34 ⟨hxx, rfl⟩
       have hS35 := hS3.ext hxx
       refine gq rfl rfl rfl hb32 (q_eql rfl rfl rfl) ?_
       refine lq rfl (q_pickT (v := B (decide (((gcdT n.N n.D)) = 1))) rfl hb32 rfl) ?_
       refine la (v := B (decide (((gcdT n.N n.D)) = 1))) rfl rfl rfl ?_
       exact ⟨(Eq.trans rfl (congrArg B (decide_congr_of ((Iff.rfl).trans (((and_iff_right ⟨⟨⟨hg22, hg25⟩, hg28⟩, hg31⟩).trans Iff.rfl)).symm)))), hS35⟩
      ·have hb33 := Eq.trans rfl (congrArg B (decide_eq_false hg31))
       refine wpL_gs rfl rfl rfl hb33 rfl ?_
       refine wpL_gs rfl rfl rfl hb33 rfl ?_
       refine wpL_gs rfl rfl rfl hb33 rfl ?_
       refine wpL_gs rfl rfl rfl hb33 rfl ?_
       refine wpL_gs rfl rfl rfl hb33 rfl ?_
       refine wpL_gs rfl rfl rfl hb33 rfl ?_
       refine lq rfl (q_pickF (v := B (false)) rfl hb33 rfl) ?_
       refine la (v := B (false)) rfl rfl rfl ?_
       exact ⟨(Eq.trans rfl (congrArg B ((decide_eq_false (fun h => (fun h => hg31 h.2) h.1)).symm))), hS3⟩
     ·have hb30 := Eq.trans rfl (congrArg B (decide_eq_false hg28))
      refine wpL_gs rfl rfl rfl hb30 rfl ?_
      refine wpL_gs rfl rfl rfl hb30 rfl ?_
      refine wpL_gs rfl rfl rfl hb30 rfl ?_
      refine lq rfl (q_pickF (v := B (false)) rfl hb30 rfl) ?_
      refine lm (v := B (false)) rfl rfl rfl ?_
      refine wpL_gs rfl rfl rfl rfl rfl ?_
      refine wpL_gs rfl rfl rfl rfl rfl ?_
      refine wpL_gs rfl rfl rfl rfl rfl ?_
      refine wpL_gs rfl rfl rfl rfl rfl ?_
      refine wpL_gs rfl rfl rfl rfl rfl ?_
      refine wpL_gs rfl rfl rfl rfl rfl ?_
      refine lq rfl (q_pickF (v := B (false)) rfl rfl rfl) ?_
      refine la (v := B (false)) rfl rfl rfl ?_
      exact ⟨(Eq.trans rfl (congrArg B ((decide_eq_false (fun h => (fun h => (fun h => hg28 h.2) h.1) h.1)).symm))), hS3⟩
    ·have hb27 := Eq.trans rfl (congrArg B (decide_eq_false hg25))
     refine wpL_gs rfl rfl rfl hb27 rfl ?_
     refine wpL_gs rfl rfl rfl hb27 rfl ?_
     refine wpL_gs rfl rfl rfl hb27 rfl ?_
     refine lq rfl (q_pickF (v := B (false)) rfl hb27 rfl) ?_
     refine lm (v := B (false)) rfl rfl rfl ?_
     refine wpL_gs rfl rfl rfl rfl rfl ?_
     refine wpL_gs rfl rfl rfl rfl rfl ?_
     refine wpL_gs rfl rfl rfl rfl rfl ?_
     refine lq rfl (q_pickF (v := B (false)) rfl rfl rfl) ?_
     refine lm (v := B (false)) rfl rfl rfl ?_
     refine wpL_gs rfl rfl rfl rfl rfl ?_
     refine wpL_gs rfl rfl rfl rfl rfl ?_
     refine wpL_gs rfl rfl rfl rfl rfl ?_
     refine wpL_gs rfl rfl rfl rfl rfl ?_
     refine wpL_gs rfl rfl rfl rfl rfl ?_
     refine wpL_gs rfl rfl rfl rfl rfl ?_
     refine lq rfl (q_pickF (v := B (false)) rfl rfl rfl) ?_
     refine la (v := B (false)) rfl rfl rfl ?_
     exact ⟨(Eq.trans rfl (congrArg B ((decide_eq_false (fun h => (fun h => (fun h => (fun h => hg25 h.2) h.1) h.1) h.1)).symm))), hS3⟩
   ·have hb24 := Eq.trans rfl (congrArg B (decide_eq_false hg22))
    refine wpL_gs rfl rfl rfl hb24 rfl ?_
    refine wpL_gs rfl rfl rfl hb24 rfl ?_
    refine wpL_gs rfl rfl rfl hb24 rfl ?_
    refine lq rfl (q_pickF (v := B (false)) rfl hb24 rfl) ?_
    refine lm (v := B (false)) rfl rfl rfl ?_
    refine wpL_gs rfl rfl rfl rfl rfl ?_
    refine wpL_gs rfl rfl rfl rfl rfl ?_
    refine wpL_gs rfl rfl rfl rfl rfl ?_
    refine lq rfl (q_pickF (v := B (false)) rfl rfl rfl) ?_
    refine lm (v := B (false)) rfl rfl rfl ?_
    refine wpL_gs rfl rfl rfl rfl rfl ?_
    refine wpL_gs rfl rfl rfl rfl rfl ?_
    refine wpL_gs rfl rfl rfl rfl rfl ?_
    refine lq rfl (q_pickF (v := B (false)) rfl rfl rfl) ?_
    refine lm (v := B (false)) rfl rfl rfl ?_
    refine wpL_gs rfl rfl rfl rfl rfl ?_
    refine wpL_gs rfl rfl rfl rfl rfl ?_
    refine wpL_gs rfl rfl rfl rfl rfl ?_
    refine wpL_gs rfl rfl rfl rfl rfl ?_
    refine wpL_gs rfl rfl rfl rfl rfl ?_
    refine wpL_gs rfl rfl rfl rfl rfl ?_
    refine lq rfl (q_pickF (v := B (false)) rfl rfl rfl) ?_
    refine la (v := B (false)) rfl rfl rfl ?_
    exact ⟨(Eq.trans rfl (congrArg B ((decide_eq_false (fun h => (fun h => (fun h => (fun h => hg22 h.1) h.1) h.1) h.1)).symm))), hS3⟩
  rintro f37 H37 ⟨y2, hS37⟩
  refine wpF_ret ?_
  refine ⟨_, resT y2 resN, hS37.frame, ?_⟩
  show (B (decide ((((((-1000000) ≤ n.N) ∧ (n.N ≤ 1000000)) ∧ (1 ≤ n.D)) ∧ (n.D ≤ 1000000)) ∧ (((gcdT n.N n.D)) = 1)))) = B (numsB n)
  exact congrArg B (by rw [numsB, hp21]; rfl)
 refine wpF_seq ?_
 refine wpF_region ?_
 refine lq rfl (q_eql rfl rfl rfl) ?_
 refine la (v := B (decide (n.Op = 15))) rfl rfl rfl ?_
 refine wpL_nil ?_
 refine wpF_condP rfl (fun hp38 => ?t56) (fun hp38 => ?e56)
 case e56 =>
  refine wpF_seq ?_
  refine wpF_region ?_
  refine lq rfl (q_eql rfl rfl rfl) ?_
  refine la (v := B (decide (n.Op = 23))) rfl rfl rfl ?_
  refine wpL_nil ?_
  refine wpF_condP rfl (fun hp50 => ?t55) (fun hp50 => ?e55)
  case e55 =>
   refine wpF_skip ?_
   refine wpF_seq ?_
   refine wpF_region ?_
   refine la (v := B (true)) rfl rfl rfl ?_
   refine wpL_nil ?_
   refine wpF_ret ?_
   refine ⟨_, resT rfl resN, hS3.frame, ?_⟩
   show (B (true)) = B (numsB n)
   exact congrArg B (by rw [numsB, if_neg hp4, if_neg hp21, if_neg hp38, if_neg hp50])
  refine fcr (fun f H => f 2 = B (decide ((0 ≤ n.N) ∧ (n.N ≤ 8))) ∧ H2 = H) ?_ ?_
  ·refine lq rfl (q_fieldAddr rfl Tryz.underlying52 rfl Tryz.sizeOf3 rfl) ?_
   refine lq rfl (q_loadBlk rfl rfl Tryz.isAgg3 (hS3.blk 0 rfl) rfl (fun h => h)) ?_
   refine lq rfl (q_geq rfl rfl rfl) ?_
   refine lm (v := B (decide (0 ≤ n.N))) rfl rfl rfl ?_
   by_cases hg51 : 0 ≤ n.N
   ·have hb52 := Eq.trans rfl (congrArg B (decide_eq_true hg51))
    refine gq rfl rfl rfl hb52 (q_fieldAddr rfl Tryz.underlying52 rfl Tryz.sizeOf3 rfl) ?_
    refine gq rfl rfl rfl hb52 (q_loadBlk rfl rfl Tryz.isAgg3 (hS3.blk 0 rfl) rfl (fun h => h)) ?_
    refine gq rfl rfl rfl hb52 (q_leq rfl rfl rfl) ?_
    refine lq rfl (q_pickT (v := B (decide (n.N ≤ 8))) rfl hb52 rfl) ?_
    refine la (v := B (decide (n.N ≤ 8))) rfl rfl rfl ?_
    exact ⟨(Eq.trans rfl (congrArg B (decide_congr_of ((Iff.rfl).trans (((and_iff_right hg51).trans Iff.rfl)).symm)))), rfl⟩
   ·have hb53 := Eq.trans rfl (congrArg B (decide_eq_false hg51))
    refine wpL_gs rfl rfl rfl hb53 rfl ?_
    refine wpL_gs rfl rfl rfl hb53 rfl ?_
    refine wpL_gs rfl rfl rfl hb53 rfl ?_
    refine lq rfl (q_pickF (v := B (false)) rfl hb53 rfl) ?_
    refine la (v := B (false)) rfl rfl rfl ?_
    exact ⟨(Eq.trans rfl (congrArg B ((decide_eq_false (fun h => hg51 h.1)).symm))), rfl⟩
  rintro f54 _ ⟨y2, rfl⟩
  refine wpF_ret ?_
  refine ⟨_, resT y2 resN, hS3.frame, ?_⟩
  show (B (decide ((0 ≤ n.N) ∧ (n.N ≤ 8)))) = B (numsB n)
  exact congrArg B (by rw [numsB, hp50]; rfl)
 refine sc (fun f H => f 2 = B (decide ((((1 ≤ n.D) ∧ (n.D ≤ 8)) ∧ (0 ≤ n.N)) ∧ (n.N < ((2 ^ ((n.D).toNat) : Nat) : Int)))) ∧ H2 = H) ?_ ?_
 ·refine wpF_drawn [] [] (fun _ _ => False) (by kernel_rfl) (by kernel_rfl) ?_
  refine rq 0 (by kernel_rfl) rfl rfl (q_fieldAddr rfl Tryz.underlying52 rfl Tryz.sizeOf3 rfl) ?_
  refine rq 1 (by kernel_rfl) rfl rfl (q_loadBlk rfl rfl Tryz.isAgg3 (hS3.blk 0 rfl) rfl (labU_not [] rfl (fe))) ?_
  refine rq 2 (by kernel_rfl) rfl rfl (q_geq rfl rfl rfl) ?_
  refine rq 3 (by kernel_rfl) rfl rfl (q_move (v := B (decide (1 ≤ n.D))) rfl rfl) ?_
  by_cases hg40 : 1 ≤ n.D
  ·have hb41 := Eq.trans rfl (congrArg B (decide_eq_true hg40))
   refine wpR_q 4 (by kernel_rfl) rfl (quietAt_g rfl rfl rfl rfl hb41 (q_fieldAddr rfl Tryz.underlying52 rfl Tryz.sizeOf3 rfl)) ?_
   refine wpR_q 5 (by kernel_rfl) rfl (quietAt_g rfl rfl rfl rfl hb41 (q_loadBlk rfl rfl Tryz.isAgg3 (hS3.blk 0 rfl) rfl (labU_not [] rfl (fe)))) ?_
   refine wpR_q 6 (by kernel_rfl) rfl (quietAt_g rfl rfl rfl rfl hb41 (q_leq rfl rfl rfl)) ?_
   refine rq 7 (by kernel_rfl) rfl rfl (q_pickT (v := B (decide (n.D ≤ 8))) rfl hb41 rfl) ?_
   refine rq 8 (by kernel_rfl) rfl rfl (q_move (v := B (decide (n.D ≤ 8))) rfl rfl) ?_
   by_cases hg43 : n.D ≤ 8
   ·have hb44 := Eq.trans rfl (congrArg B (decide_eq_true hg43))
    refine wpR_q 9 (by kernel_rfl) rfl (quietAt_g rfl rfl rfl rfl hb44 (q_fieldAddr rfl Tryz.underlying52 rfl Tryz.sizeOf3 rfl)) ?_
    refine wpR_q 10 (by kernel_rfl) rfl (quietAt_g rfl rfl rfl rfl hb44 (q_loadBlk rfl rfl Tryz.isAgg3 (hS3.blk 0 rfl) rfl (labU_not [] rfl (fe)))) ?_
    refine wpR_q 11 (by kernel_rfl) rfl (quietAt_g rfl rfl rfl rfl hb44 (q_geq rfl rfl rfl)) ?_
    refine rq 12 (by kernel_rfl) rfl rfl (q_pickT (v := B (decide (0 ≤ n.N))) rfl hb44 rfl) ?_
    refine rq 13 (by kernel_rfl) rfl rfl (q_move (v := B (decide (0 ≤ n.N))) rfl rfl) ?_
    by_cases hg46 : 0 ≤ n.N
    ·have hb47 := Eq.trans rfl (congrArg B (decide_eq_true hg46))
     refine wpR_q 14 (by kernel_rfl) rfl (quietAt_g rfl rfl rfl rfl hb47 (q_fieldAddr rfl Tryz.underlying52 rfl Tryz.sizeOf3 rfl)) ?_
     refine wpR_q 15 (by kernel_rfl) rfl (quietAt_g rfl rfl rfl rfl hb47 (q_loadBlk rfl rfl Tryz.isAgg3 (hS3.blk 0 rfl) rfl (labU_not [] rfl (fe)))) ?_
     refine wpR_q 16 (by kernel_rfl) rfl (quietAt_g rfl rfl rfl rfl hb47 (q_fieldAddr rfl Tryz.underlying52 rfl Tryz.sizeOf3 rfl)) ?_
     refine wpR_q 17 (by kernel_rfl) rfl (quietAt_g rfl rfl rfl rfl hb47 (q_loadBlk rfl rfl Tryz.isAgg3 (hS3.blk 0 rfl) rfl (labU_not [] rfl (fe)))) ?_
     refine wpR_q 18 (by kernel_rfl) rfl (quietAt_g rfl rfl rfl rfl hb47 (q_shl1 rfl rfl rfl (by omega) (by omega))) ?_
     refine wpR_q 19 (by kernel_rfl) rfl (quietAt_g rfl rfl rfl rfl hb47 (q_lss rfl rfl rfl)) ?_
     refine rq 20 (by kernel_rfl) rfl rfl (q_pickT (v := B (decide (n.N < ((2 ^ ((n.D).toNat) : Nat) : Int)))) rfl hb47 rfl) ?_
     refine rq 21 (by kernel_rfl) rfl rfl (q_assign (v := B (decide (n.N < ((2 ^ ((n.D).toNat) : Nat) : Int)))) rfl rfl) ?_
     refine wpR_end (by kernel_rfl) ?_
     exact ⟨(Eq.trans rfl (congrArg B (decide_congr_of ((Iff.rfl).trans (((and_iff_right ⟨⟨hg40, hg43⟩, hg46⟩).trans Iff.rfl)).symm)))), rfl⟩
    ·have hb48 := Eq.trans rfl (congrArg B (decide_eq_false hg46))
     refine wpR_q 14 (by kernel_rfl) rfl (quietAt_s rfl rfl rfl rfl hb48 rfl) ?_
     refine wpR_q 15 (by kernel_rfl) rfl (quietAt_s rfl rfl rfl rfl hb48 rfl) ?_
     refine wpR_q 16 (by kernel_rfl) rfl (quietAt_s rfl rfl rfl rfl hb48 rfl) ?_
     refine wpR_q 17 (by kernel_rfl) rfl (quietAt_s rfl rfl rfl rfl hb48 rfl) ?_
     refine wpR_q 18 (by kernel_rfl) rfl (quietAt_s rfl rfl rfl rfl hb48 rfl) ?_
     refine wpR_q 19 (by kernel_rfl) rfl (quietAt_s rfl rfl rfl rfl hb48 rfl) ?_
     refine rq 20 (by kernel_rfl) rfl rfl (q_pickF (v := B (false)) rfl hb48 rfl) ?_
     refine rq 21 (by kernel_rfl) rfl rfl (q_assign (v := B (false)) rfl rfl) ?_
     refine wpR_end (by kernel_rfl) ?_
     exact ⟨(Eq.trans rfl (congrArg B ((decide_eq_false (fun h => (fun h => hg46 h.2) h.1)).symm))), rfl⟩
   ·have hb45 := Eq.trans rfl (congrArg B (decide_eq_false hg43))
    refine wpR_q 9 (by kernel_rfl) rfl (quietAt_s rfl rfl rfl rfl hb45 rfl) ?_
    refine wpR_q 10 (by kernel_rfl) rfl (quietAt_s rfl rfl rfl rfl hb45 rfl) ?_
    refine wpR_q 11 (by kernel_rfl) rfl (quietAt_s rfl rfl rfl rfl hb45 rfl) ?_
    refine rq 12 (by kernel_rfl) rfl rfl (q_pickF (v := B (false)) rfl hb45 rfl) ?_
    refine rq 13 (by kernel_rfl) rfl rfl (q_move (v := B (false)) rfl rfl) ?_
    refine wpR_q 14 (by kernel_rfl) rfl (quietAt_s rfl rfl rfl rfl rfl rfl) ?_
    refine wpR_q 15 (by kernel_rfl) rfl (quietAt_s rfl rfl rfl rfl rfl rfl) ?_
    refine wpR_q 16 (by kernel_rfl) rfl (quietAt_s rfl rfl rfl rfl rfl rfl) ?_
    refine wpR_q 17 (by kernel_rfl) rfl (quietAt_s rfl rfl rfl rfl rfl rfl) ?_
    refine wpR_q 18 (by kernel_rfl) rfl (quietAt_s rfl rfl rfl rfl rfl rfl) ?_
    refine wpR_q 19 (by kernel_rfl) rfl (quietAt_s rfl rfl rfl rfl rfl rfl) ?_
    refine rq 20 (by kernel_rfl) rfl rfl (q_pickF (v := B (false)) rfl rfl rfl) ?_
    refine rq 21 (by kernel_rfl) rfl rfl (q_assign (v := B (false)) rfl rfl) ?_
    refine wpR_end (by kernel_rfl) ?_
    exact ⟨(Eq.trans rfl (congrArg B ((decide_eq_false (fun h => (fun h => (fun h => hg43 h.2) h.1) h.1)).symm))), rfl⟩
  ·have hb42 := Eq.trans rfl (congrArg B (decide_eq_false hg40))
   refine wpR_q 4 (by kernel_rfl) rfl (quietAt_s rfl rfl rfl rfl hb42 rfl) ?_
   refine wpR_q 5 (by kernel_rfl) rfl (quietAt_s rfl rfl rfl rfl hb42 rfl) ?_
   refine wpR_q 6 (by kernel_rfl) rfl (quietAt_s rfl rfl rfl rfl hb42 rfl) ?_
   refine rq 7 (by kernel_rfl) rfl rfl (q_pickF (v := B (false)) rfl hb42 rfl) ?_
   refine rq 8 (by kernel_rfl) rfl rfl (q_move (v := B (false)) rfl rfl) ?_
   refine wpR_q 9 (by kernel_rfl) rfl (quietAt_s rfl rfl rfl rfl rfl rfl) ?_
   refine wpR_q 10 (by kernel_rfl) rfl (quietAt_s rfl rfl rfl rfl rfl rfl) ?_
   refine wpR_q 11 (by kernel_rfl) rfl (quietAt_s rfl rfl rfl rfl rfl rfl) ?_
   refine rq 12 (by kernel_rfl) rfl rfl (q_pickF (v := B (false)) rfl rfl rfl) ?_
   refine rq 13 (by kernel_rfl) rfl rfl (q_move (v := B (false)) rfl rfl) ?_
   refine wpR_q 14 (by kernel_rfl) rfl (quietAt_s rfl rfl rfl rfl rfl rfl) ?_
   refine wpR_q 15 (by kernel_rfl) rfl (quietAt_s rfl rfl rfl rfl rfl rfl) ?_
   refine wpR_q 16 (by kernel_rfl) rfl (quietAt_s rfl rfl rfl rfl rfl rfl) ?_
   refine wpR_q 17 (by kernel_rfl) rfl (quietAt_s rfl rfl rfl rfl rfl rfl) ?_
   refine wpR_q 18 (by kernel_rfl) rfl (quietAt_s rfl rfl rfl rfl rfl rfl) ?_
   refine wpR_q 19 (by kernel_rfl) rfl (quietAt_s rfl rfl rfl rfl rfl rfl) ?_
   refine rq 20 (by kernel_rfl) rfl rfl (q_pickF (v := B (false)) rfl rfl rfl) ?_
   refine rq 21 (by kernel_rfl) rfl rfl (q_assign (v := B (false)) rfl rfl) ?_
   refine wpR_end (by kernel_rfl) ?_
   exact ⟨(Eq.trans rfl (congrArg B ((decide_eq_false (fun h => (fun h => (fun h => hg40 h.1) h.1) h.1)).symm))), rfl⟩
 rintro f49 _ ⟨y2, rfl⟩
 refine wpF_ret ?_
 refine ⟨_, resT y2 resN, hS3.frame, ?_⟩
 show (B (decide ((((1 ≤ n.D) ∧ (n.D ≤ 8)) ∧ (0 ≤ n.N)) ∧ (n.N < ((2 ^ ((n.D).toNat) : Nat) : Int))))) = B (numsB n)
 exact congrArg B (by rw [numsB, hp38]; rfl)
set_option maxRecDepth 100000 in
theorem all_1 {H0 : Heap} (x : Int) (gx : Nat) (vk : Value) (gp : Int → Bool) (hb : H0[gx]? = some (.cells #[vk] 76)) (hf : ∀ H, Ext NoB H0 H → FnH Tryz.prog vk #[I x] H (fun rv H' => Ext NoB H H' ∧ rv = B (gp x))) : CallsH Tryz.prog 104 #[I (x), PT gx 0] H0 (fun rv_ H' => Ext NoB H0 H' ∧ rv_ = B (!gp x)) := by
 have hS0 : St H0 NoB NoB [fixE gx (.cells #[vk] 76)] H0 := St.argFix (St.start (fun _ h => h.elim)) (Bl0.nil) hb (fun h => h)
 refine callsH_of_wpF (args := [I (x), PT gx 0]) (rs := [.tmp 3]) Tryz.func104 rfl Tryz.ntmps104 Tryz.results104 (by kernel_rfl) (Nat.le_of_ble_eq_true rfl) ?_
 have y0 : argF [I (x), PT gx 0] 0 = I (x) := rfl
 have y1 : argF [I (x), PT gx 0] 1 = PT gx 0 := rfl
 generalize argF [I (x), PT gx 0] = f0 at *
 refine wpF_seq ?_
 refine wpF_region ?_
 refine la (v := B (false)) rfl rfl rfl ?_
 refine wpL_nil ?_
 refine wpF_seq ?_
 refine wpF_region ?_
 refine lq rfl (q_loadBlk rfl y1 Tryz.isAgg76 (hS0.fixd 0 rfl) rfl (fun h => h)) ?_
 refine lm (v := I (x)) rfl rfl y0 ?_
 refine lo rfl ?_
 refine e_callF rfl rfl (arr1 (v0 := I (x)) rfl) (hf _ hS0.frame) ?_
 rintro _ H1 ⟨hxx, rfl⟩
 have hS2 := hS0.ext hxx
 refine lq rfl (q_not rfl rfl) ?_
 refine la (v := B (!(gp x))) rfl rfl rfl ?_
 refine wpL_nil ?_
 refine wpF_ret ?_
 refine ⟨_, resT rfl resN, hS2.frame, ?_⟩
 show (B (!(gp x))) = B (!gp x)
 rfl
set_option maxRecDepth 100000 in
theorem all_L {H0 : Heap} (vl vk : Value) (l : List Int) (gp : Int → Bool) (rl : Rd NoB H0 vl l) (hkc : vk.cells = #[vk]) (hf : ∀ x, x ∈ l → ∀ H, Ext NoB H0 H → FnH Tryz.prog vk #[I x] H (fun rv H' => Ext NoB H H' ∧ rv = B (gp x))) : CallsH Tryz.prog 84 #[vl, vk] H0 (fun rv_ H' => Ext NoB H0 H' ∧ rv_ = B (l.all gp)) := by
 have hS0 : St H0 NoB NoB [rdE vl l] H0 := St.arg (St.start (fun _ h => h.elim)) (Bl0.nil) rl (fun _ h => h)
 refine callsH_of_wpF (args := [vl, vk]) (rs := [.tmp 4]) Tryz.func84 rfl Tryz.ntmps84 Tryz.results84 (by kernel_rfl) (Nat.le_of_ble_eq_true rfl) ?_
 have y0 : argF [vl, vk] 0 = vl := rfl
 have y1 : argF [vl, vk] 1 = vk := rfl
 generalize argF [vl, vk] = f0 at *
 refine wpF_seq ?_
 refine wpF_region ?_
 refine lo rfl ?_
 refine e_box (v := vk) rfl y1 hS0 (fun g1 H2 hS3 hxx => ?_)
 rw [hkc] at hS3
 refine la (v := B (false)) rfl rfl rfl ?_
 refine wpL_nil ?_
 refine wpF_seq ?_
 refine wpF_region ?_
 refine lm (v := vl) rfl rfl y0 ?_
 refine lq rfl (q_makeFunc (fi' := #[]) rfl (by simp) (arr1 (v0 := PT g1 0) rfl)) ?_
 refine lo rfl ?_
 refine e_call rfl Tryz.call23 (arr2 (v0 := vl) (v1 := Value.func (.func 104) #[] #[PT g1 0]) rfl rfl) (ContainsFunc vl (Value.func (.func 104) #[] #[PT g1 0]) l (fun x => !gp x) (hS3.rdN 1 rfl) (fun x hx H hE => ⟨_, _, rfl, Tryz.call104, all_1 x g1 vk gp (hE.blk (hS3.blk 0 rfl)) (fun H2 hE2 => hf x hx H2 ((hS3.frame.trans hE).trans hE2))⟩)) ?_
 rintro _ H4 ⟨hxx, rfl⟩
 have hS5 := hS3.ext hxx
 refine lq rfl (q_not rfl rfl) ?_
 refine la (v := B (!(l.any (fun x => !gp x)))) rfl rfl rfl ?_
 refine wpL_nil ?_
 refine wpF_ret ?_
 refine ⟨_, resT rfl resN, hS5.frame, ?_⟩
 show (B (!(l.any (fun x => !gp x)))) = B (l.all gp)
 exact congrArg B all_not_any
end Go.Um
