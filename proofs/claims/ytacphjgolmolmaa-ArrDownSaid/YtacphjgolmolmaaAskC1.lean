import Derived.Test.YtacphjgolmolmaaProg
import Derived.Test.YtacphjgolmolmaaUmArrDownB
namespace Go.Um
open Go.Proofs
open GoT (sz ag rdc)
open KeyT (kv)
theorem el_Decl_43_AskC1 : ElT Try.prog Decl 43 := ⟨Try.isAgg43, Try.sizeOf43⟩
theorem el_Int_3_AskC1 : ElT Try.prog Int 3 := ⟨Try.isAgg3, Try.sizeOf3⟩
theorem em_Int_3_AskC1 : ElemOk Try.prog Int 3 := ⟨Try.t3, (.int .i64 0), by kernel_rfl, by kernel_rfl, by kernel_rfl, by kernel_rfl, by kernel_rfl⟩
set_option maxRecDepth 100000 in
theorem Ints_R {H0 : Heap} (va vb : Value) (a b : List Int) (ra : Rd NoB H0 va a) (rb : Rd NoB H0 vb b) : CallsH Try.prog 12 #[va, vb] H0 (fun rv_ H' => Ext NoB H0 H' ∧ rv_ = B (decide (a = b))) := by
 have hsm := (Rd.list.1 ra).small
 have hS0 : St H0 NoB NoB [rdE va a, rdE vb b] H0 := St.arg (St.arg (St.start (fun _ h => h.elim)) (Bl0.nil) rb (fun _ h => h)) (Bl0.cons (Bl0.nil)) ra (fun _ h => h)
 refine callsH_of_wpF (args := [va, vb]) (rs := [.tmp 4]) Try.func12 rfl Try.ntmps12 Try.results12 (by kernel_rfl) (Nat.le_of_ble_eq_true rfl) ?_
 have y0 : argF [va, vb] 0 = va := rfl
 have y1 : argF [va, vb] 1 = vb := rfl
 generalize argF [va, vb] = f0 at *
 refine fcr (fun f H => f 0 = va ∧ f 1 = vb ∧ H0 = H) ?_ ?_
 ·refine la (v := B (false)) rfl rfl rfl ?_
  exact ⟨y0, y1, rfl⟩
 clear y0 y1
 rintro f1 _ ⟨y0, y1, rfl⟩
 refine wpF_seq ?_
 refine fcr (fun f H => f 0 = va ∧ f 1 = vb ∧ f 10 = B (decide ((a.length : Int) ≠ (b.length : Int))) ∧ H0 = H) ?_ ?_
 ·refine lm (v := va) rfl rfl y0 ?_
  refine lq rfl (q_lenRd rfl Try.underlying24 rfl (hS0.rdl 0 rfl)) ?_
  refine lm (v := vb) rfl rfl y1 ?_
  refine lq rfl (q_lenRd rfl Try.underlying24 rfl (hS0.rdl 1 rfl)) ?_
  refine lq rfl (q_neq rfl rfl rfl) ?_
  exact ⟨y0, y1, rfl, rfl⟩
 clear y0 y1
 rintro f2 _ ⟨y0, y1, y10, rfl⟩
 refine wpF_condP y10 (fun hlen => ?t17) (fun hlen => ?e17)
 case t17 =>
  refine fcr (fun f H => f 4 = B (false) ∧ H0 = H) ?_ ?_
  ·refine la (v := B (false)) rfl rfl rfl ?_
   exact ⟨rfl, rfl⟩
  clear y0 y1 y10
  rintro f4 _ ⟨y4, rfl⟩
  refine wpF_ret ?_
  refine ⟨_, resT y4 resN, hS0.frame, ?_⟩
  show (B (false)) = B (decide (a = b))
  exact congrArg B (by simp; intro h; subst h; simp at hlen)
 refine wpF_skip ?_
 refine wpF_seq ?_
 refine fcr (fun f H => f 0 = va ∧ f 1 = vb ∧ f 5 = I (0) ∧ H0 = H) ?_ ?_
 ·refine la (v := I (0)) rfl rfl rfl ?_
  exact ⟨y0, y1, rfl, rfl⟩
 clear y0 y1 y10
 rintro f5 _ ⟨y0, y1, y5, rfl⟩
 refine wpF_block ?_
 refine wpF_loop (fun mz f H => ∃ (k : Nat), mz = a.length - k ∧ (k ≤ a.length) ∧ (a.take k = b.take k) ∧ f 0 = va ∧ f 1 = vb ∧ f 5 = I ((k : Int)) ∧ H0 = H) (a.length - 0) ?_ ?_
 ·exact ⟨0, rfl, Nat.zero_le _, rfl, y0, y1, (Eq.trans y5 (congrArg I (by omega))), rfl⟩
 intro m6 f6 H6 hI6
 clear y0 y1 y5
 obtain ⟨k, hm6, hk, hpre, y0, y1, y5, rfl⟩ := hI6
 refine wpF_seq ?_
 refine fcr (fun f H => f 0 = va ∧ f 1 = vb ∧ f 5 = I ((k : Int)) ∧ f 14 = B (decide ((k : Int) < (a.length : Int))) ∧ H0 = H) ?_ ?_
 ·refine lm (v := I ((k : Int))) rfl rfl y5 ?_
  refine lm (v := va) rfl rfl y0 ?_
  refine lq rfl (q_lenRd rfl Try.underlying24 rfl (hS0.rdl 0 rfl)) ?_
  refine lq rfl (q_lss rfl rfl rfl) ?_
  exact ⟨y0, y1, y5, rfl, rfl⟩
 clear y0 y1 y5
 rintro f7 _ ⟨y0, y1, y5, y14, rfl⟩
 refine wpF_condP y14 (fun hlt => ?t16) (fun hlt => ?e16)
 case e16 =>
  refine wpF_exit ?_
  refine atX_here ?_
  refine fcr (fun f H => f 4 = B (true) ∧ H0 = H) ?_ ?_
  ·refine la (v := B (true)) rfl rfl rfl ?_
   exact ⟨rfl, rfl⟩
  clear y0 y1 y14 y5
  rintro f15 _ ⟨y4, rfl⟩
  refine wpF_ret ?_
  refine ⟨_, resT y4 resN, hS0.frame, ?_⟩
  show (B (true)) = B (decide (a = b))
  exact congrArg B (by simp; exact take_all hpre (by omega) (by omega))
 refine wpF_skip ?_
 refine wpF_seq ?_
 refine wpF_block ?_
 refine sc (fun f H => f 0 = va ∧ f 1 = vb ∧ f 5 = I ((k : Int)) ∧ f 25 = B (decide ((nth a k) ≠ (nth b k))) ∧ H0 = H) ?_ ?_
 ·refine wpF_drawn [] [] (fun _ _ => False) (by kernel_rfl) (by kernel_rfl) ?_
  refine rq 0 (by kernel_rfl) rfl rfl (q_move (v := va) rfl y0) ?_
  refine rq 1 (by kernel_rfl) rfl rfl (q_move (v := I ((k : Int))) rfl y5) ?_
  refine rq 2 (by kernel_rfl) rfl rfl (q_indexRd (k := k) rfl Try.underlying24 el_Int_3_AskC1 rfl rfl (hS0.rdl 0 rfl) (by omega) (by omega)) ?_
  refine rq 3 (by kernel_rfl) rfl rfl (q_loadInt (k := k) rfl rfl el_Int_3_AskC1 (hS0.rdl 0 rfl) (by omega) (labU_sub [] rfl (fe))) ?_
  refine rq 4 (by kernel_rfl) rfl rfl (q_move (v := vb) rfl y1) ?_
  refine rq 5 (by kernel_rfl) rfl rfl (q_move (v := I ((k : Int))) rfl y5) ?_
  refine rq 6 (by kernel_rfl) rfl rfl (q_indexRd (k := k) rfl Try.underlying24 el_Int_3_AskC1 rfl rfl (hS0.rdl 1 rfl) (by omega) (by omega)) ?_
  refine rq 7 (by kernel_rfl) rfl rfl (q_loadInt (k := k) rfl rfl el_Int_3_AskC1 (hS0.rdl 1 rfl) (by omega) (labU_sub [] rfl (fe))) ?_
  refine rq 8 (by kernel_rfl) rfl rfl (q_neq rfl rfl rfl) ?_
  refine wpR_end (by kernel_rfl) ?_
  exact ⟨y0, y1, y5, rfl, rfl⟩
 clear y0 y1 y14 y5
 rintro f10 _ ⟨y0, y1, y5, y25, rfl⟩
 refine wpF_condP y25 (fun hne => ?t14) (fun hne => ?e14)
 case t14 =>
  refine fcr (fun f H => f 4 = B (false) ∧ H0 = H) ?_ ?_
  ·refine la (v := B (false)) rfl rfl rfl ?_
   exact ⟨rfl, rfl⟩
  clear y0 y1 y25 y5
  rintro f12 _ ⟨y4, rfl⟩
  refine wpF_ret ?_
  refine ⟨_, resT y4 resN, hS0.frame, ?_⟩
  show (B (false)) = B (decide (a = b))
  exact congrArg B (by simp; intro h; subst h; simp at hne)
 refine wpF_skip ?_
 refine wpF_cut (fun f H => f 0 = va ∧ f 1 = vb ∧ f 5 = I ((k : Int) + 1) ∧ H0 = H) ?_ ?_
 ·refine wpF_region ?_
  refine lm (v := I ((k : Int))) rfl rfl y5 ?_
  refine lq rfl (q_add rfl rfl rfl (by constructor <;> omega)) ?_
  refine la (v := I ((k : Int) + 1)) rfl rfl rfl ?_
  exact ⟨y0, y1, rfl, rfl⟩
 clear y0 y1 y25 y5
 rintro f13 _ ⟨y0, y1, y5, rfl⟩
 refine ⟨_, ?_, k + 1, rfl, (by omega), (take_same hpre (by omega) (by omega) (by simpa using hne)), y0, y1, (Eq.trans y5 (congrArg I (by omega))), rfl⟩
 omega
set_option maxRecDepth 100000 in
theorem Equal {H0 : Heap} (va vb : Value) (a b : List Int) (ra : Rd NoB H0 va a) (rb : Rd NoB H0 vb b) : CallsH Try.prog 47 #[va, vb] H0 (fun rv_ H' => Ext NoB H0 H' ∧ rv_ = B (decide (a = b))) := by
 have hsm := (Rd.list.1 ra).small
 have hS0 : St H0 NoB NoB [rdE va a, rdE vb b] H0 := St.arg (St.arg (St.start (fun _ h => h.elim)) (Bl0.nil) rb (fun _ h => h)) (Bl0.cons (Bl0.nil)) ra (fun _ h => h)
 refine callsH_of_wpF (args := [va, vb]) (rs := [.tmp 4]) Try.func47 rfl Try.ntmps47 Try.results47 (by kernel_rfl) (Nat.le_of_ble_eq_true rfl) ?_
 have y0 : argF [va, vb] 0 = va := rfl
 have y1 : argF [va, vb] 1 = vb := rfl
 generalize argF [va, vb] = f0 at *
 refine fcr (fun f H => f 0 = va ∧ f 1 = vb ∧ H0 = H) ?_ ?_
 ·refine la (v := B (false)) rfl rfl rfl ?_
  exact ⟨y0, y1, rfl⟩
 clear y0 y1
 rintro f1 _ ⟨y0, y1, rfl⟩
 refine wpF_seq ?_
 refine fcr (fun f H => f 0 = va ∧ f 1 = vb ∧ f 10 = B (decide ((a.length : Int) ≠ (b.length : Int))) ∧ H0 = H) ?_ ?_
 ·refine lm (v := va) rfl rfl y0 ?_
  refine lq rfl (q_lenRd rfl Try.underlying24 rfl (hS0.rdl 0 rfl)) ?_
  refine lm (v := vb) rfl rfl y1 ?_
  refine lq rfl (q_lenRd rfl Try.underlying24 rfl (hS0.rdl 1 rfl)) ?_
  refine lq rfl (q_neq rfl rfl rfl) ?_
  exact ⟨y0, y1, rfl, rfl⟩
 clear y0 y1
 rintro f2 _ ⟨y0, y1, y10, rfl⟩
 refine wpF_condP y10 (fun hlen => ?t18) (fun hlen => ?e18)
 case t18 =>
  refine fcr (fun f H => f 4 = B (false) ∧ H0 = H) ?_ ?_
  ·refine la (v := B (false)) rfl rfl rfl ?_
   exact ⟨rfl, rfl⟩
  clear y0 y1 y10
  rintro f4 _ ⟨y4, rfl⟩
  refine wpF_ret ?_
  refine ⟨_, resT y4 resN, hS0.frame, ?_⟩
  show (B (false)) = B (decide (a = b))
  exact congrArg B (by simp; intro h; subst h; simp at hlen)
 refine wpF_skip ?_
 refine wpF_seq ?_
 refine fcr (fun f H => f 0 = va ∧ f 1 = vb ∧ f 12 = I ((a.length : Int)) ∧ f 13 = I (0) ∧ H0 = H) ?_ ?_
 ·refine lm (v := va) rfl rfl y0 ?_
  refine lq rfl (q_lenRd rfl Try.underlying24 rfl (hS0.rdl 0 rfl)) ?_
  refine lm (v := I (0)) rfl rfl rfl ?_
  exact ⟨y0, y1, rfl, rfl, rfl⟩
 clear y0 y1 y10
 rintro f5 _ ⟨y0, y1, y12, y13, rfl⟩
 refine wpF_block ?_
 refine wpF_loop (fun mz f H => ∃ (k : Nat), mz = a.length - k ∧ (k ≤ a.length) ∧ (a.take k = b.take k) ∧ f 0 = va ∧ f 1 = vb ∧ f 12 = I ((a.length : Int)) ∧ f 13 = I ((k : Int)) ∧ H0 = H) (a.length - 0) ?_ ?_
 ·exact ⟨0, rfl, Nat.zero_le _, rfl, y0, y1, y12, (Eq.trans y13 (congrArg I (by omega))), rfl⟩
 intro m6 f6 H6 hI6
 clear y0 y1 y12 y13
 obtain ⟨k, hm6, hk, hpre, y0, y1, y12, y13, rfl⟩ := hI6
 refine fcr (fun f H => f 0 = va ∧ f 1 = vb ∧ f 12 = I ((a.length : Int)) ∧ f 13 = I ((k : Int)) ∧ f 14 = B (decide ((k : Int) < (a.length : Int))) ∧ H0 = H) ?_ ?_
 ·refine lq rfl (q_lss rfl y13 y12) ?_
  exact ⟨y0, y1, y12, y13, rfl, rfl⟩
 clear y0 y1 y12 y13
 rintro f7 _ ⟨y0, y1, y12, y13, y14, rfl⟩
 refine wpF_seq ?_
 refine wpF_condP y14 (fun hlt => ?t17) (fun hlt => ?e17)
 case e17 =>
  refine wpF_exit ?_
  refine atX_here ?_
  refine fcr (fun f H => f 4 = B (true) ∧ H0 = H) ?_ ?_
  ·refine la (v := B (true)) rfl rfl rfl ?_
   exact ⟨rfl, rfl⟩
  clear y0 y1 y12 y13 y14
  rintro f16 _ ⟨y4, rfl⟩
  refine wpF_ret ?_
  refine ⟨_, resT y4 resN, hS0.frame, ?_⟩
  show (B (true)) = B (decide (a = b))
  exact congrArg B (by simp; exact take_all hpre (by omega) (by omega))
 refine wpF_skip ?_
 refine wpF_seq ?_
 refine wpF_block ?_
 refine fcr (fun f H => f 0 = va ∧ f 1 = vb ∧ f 5 = I ((k : Int)) ∧ f 12 = I ((a.length : Int)) ∧ f 13 = I ((k : Int)) ∧ H0 = H) ?_ ?_
 ·refine lm (v := I ((k : Int))) rfl rfl y13 ?_
  refine la (v := I ((k : Int))) rfl rfl rfl ?_
  exact ⟨y0, y1, rfl, y12, y13, rfl⟩
 clear y0 y1 y12 y13 y14
 rintro f9 _ ⟨y0, y1, y5, y12, y13, rfl⟩
 refine sc (fun f H => f 0 = va ∧ f 1 = vb ∧ f 12 = I ((a.length : Int)) ∧ f 13 = I ((k : Int)) ∧ f 24 = B (decide ((nth a k) ≠ (nth b k))) ∧ H0 = H) ?_ ?_
 ·refine wpF_drawn [] [] (fun _ _ => False) (by kernel_rfl) (by kernel_rfl) ?_
  refine rq 0 (by kernel_rfl) rfl rfl (q_move (v := va) rfl y0) ?_
  refine rq 1 (by kernel_rfl) rfl rfl (q_move (v := I ((k : Int))) rfl y5) ?_
  refine rq 2 (by kernel_rfl) rfl rfl (q_indexRd (k := k) rfl Try.underlying24 el_Int_3_AskC1 rfl rfl (hS0.rdl 0 rfl) (by omega) (by omega)) ?_
  refine rq 3 (by kernel_rfl) rfl rfl (q_loadInt (k := k) rfl rfl el_Int_3_AskC1 (hS0.rdl 0 rfl) (by omega) (labU_sub [] rfl (fe))) ?_
  refine rq 4 (by kernel_rfl) rfl rfl (q_move (v := vb) rfl y1) ?_
  refine rq 5 (by kernel_rfl) rfl rfl (q_move (v := I ((k : Int))) rfl y5) ?_
  refine rq 6 (by kernel_rfl) rfl rfl (q_indexRd (k := k) rfl Try.underlying24 el_Int_3_AskC1 rfl rfl (hS0.rdl 1 rfl) (by omega) (by omega)) ?_
  refine rq 7 (by kernel_rfl) rfl rfl (q_loadInt (k := k) rfl rfl el_Int_3_AskC1 (hS0.rdl 1 rfl) (by omega) (labU_sub [] rfl (fe))) ?_
  refine rq 8 (by kernel_rfl) rfl rfl (q_neq rfl rfl rfl) ?_
  refine wpR_end (by kernel_rfl) ?_
  exact ⟨y0, y1, y12, y13, rfl, rfl⟩
 clear y0 y1 y12 y13 y5
 rintro f11 _ ⟨y0, y1, y12, y13, y24, rfl⟩
 refine wpF_condP y24 (fun hne => ?t15) (fun hne => ?e15)
 case e15 =>
  refine wpF_skip ?_
  refine wpF_cut (fun f H => f 0 = va ∧ f 1 = vb ∧ f 12 = I ((a.length : Int)) ∧ f 13 = I ((k : Int) + 1) ∧ H0 = H) ?_ ?_
  ·refine wpF_region ?_
   refine lq rfl (q_add rfl y13 rfl (by constructor <;> omega)) ?_
   refine lm (v := I ((k : Int) + 1)) rfl rfl rfl ?_
   exact ⟨y0, y1, y12, rfl, rfl⟩
  clear y0 y1 y12 y13 y24
  rintro f14 _ ⟨y0, y1, y12, y13, rfl⟩
  refine ⟨_, ?_, k + 1, rfl, (by omega), (take_same hpre (by omega) (by omega) (by simpa using hne)), y0, y1, y12, (Eq.trans y13 (congrArg I (by omega))), rfl⟩
  omega
 refine fcr (fun f H => f 4 = B (false) ∧ H0 = H) ?_ ?_
 ·refine la (v := B (false)) rfl rfl rfl ?_
  exact ⟨rfl, rfl⟩
 clear y0 y1 y12 y13 y24
 rintro f13 _ ⟨y4, rfl⟩
 refine wpF_ret ?_
 refine ⟨_, resT y4 resN, hS0.frame, ?_⟩
 show (B (false)) = B (decide (a = b))
 exact congrArg B (by simp; intro h; subst h; simp at hne)
set_option maxRecDepth 100000 in
theorem Clone {H0 : Heap} {S : Nat → Prop} (va : Value) (a : List Int) (ra : Rd S H0 va a) : CallsH Try.prog 17 #[va] H0 (fun rv_ H' => Ext NoB H0 H' ∧ Rd (SZ S H0) H' rv_ a) := by
 have hby := (Rd.list.1 ra).bound
 have hS0 : St H0 NoB (SZ S H0) [rdE va a] H0 := St.arg (St.start (fun _ h => h.2)) (Bl0.nil) ra (fun _ h => h.1)
 refine callsH_of_wpF (args := [va]) (rs := [.tmp 2]) Try.func17 rfl Try.ntmps17 Try.results17 (by kernel_rfl) (Nat.le_of_ble_eq_true rfl) ?_
 have y0 : argF [va] 0 = va := rfl
 generalize argF [va] = f0 at *
 refine fcr (fun f H => f 0 = va ∧ H0 = H) ?_ ?_
 ·refine la (v := nS) rfl rfl rfl ?_
  exact ⟨y0, rfl⟩
 clear y0
 rintro f1 _ ⟨y0, rfl⟩
 refine wpF_seq ?_
 refine fcr (fun f H => f 0 = va ∧ f 4 = B (isNil va) ∧ H0 = H) ?_ ?_
 ·refine lm (v := va) rfl rfl y0 ?_
  refine lq rfl (q_nilS rfl Try.underlying24 rfl ((hS0.rdl 0 rfl))) ?_
  exact ⟨y0, rfl, rfl⟩
 clear y0
 rintro f2 _ ⟨y0, y4, rfl⟩
 refine wpF_cond y4 (fun hnil => ?t14) (fun hnil => ?e14)
 case t14 =>
  refine fcr (fun f H => f 2 = nS ∧ H0 = H) ?_ ?_
  ·refine la (v := nS) rfl rfl rfl ?_
   exact ⟨rfl, rfl⟩
  clear y0 y4
  rintro f4 _ ⟨y2, rfl⟩
  refine wpF_ret ?_
  refine ⟨_, resT y2 resN, hS0.frame, ?_⟩
  show Rd (SZ S H0) H0 nS a
  rw [isNil_len (Rd.list.1 ra) hnil]
  exact rdNil
 refine wpF_skip ?_
 refine fcr (fun f H => ∃ (v9 : Value), f 2 = v9 ∧ St H0 NoB (SZ S H0) [rowE 3 v9 (a : List Int)] H) ?_ ?_
 ·refine lo rfl ?_
  refine e_buildSlice (vs := []) (xs := ([] : List Int)) rfl Try.underlying24 Try.zeroValue3 rfl Try.sizeOf3 par0 rfl hS0 (RdVs.nil) (by decide) (by decide) (fun v5 H6 hS7 hxx hvv5 => ?_)
  refine lm (v := va) rfl rfl y0 ?_
  have hS8 := hS7
  refine lo rfl ?_
  refine e_append rfl Try.underlying24 em_Int_3_AskC1 rfl rfl hS8 (hS8.rdS 1 rfl) (fun _ h => h) (by have : GoT.bytes Int = 8 := rfl; simp; omega) (by decide) (fun v9 H10 hS11 hxx => ?_)
  replace hS11 : St H0 NoB (SZ S H0) [rowE 3 v9 (a : List Int), rdE va a] H10 := by simpa using hS11
  refine la (v := v9) rfl rfl rfl ?_
  exact ⟨v9, rfl, (hS11.drop (sk (sn (List.Sublist.slnil))))⟩
 clear y0 y4
 rintro f12 H12 ⟨v9, y2, hS12⟩
 refine wpF_ret ?_
 refine ⟨_, resT y2 resN, hS12.frame, ?_⟩
 show Rd (SZ S H0) H12 v9 a
 have hS13 : St H0 NoB (SZ S H0) [rdE v9 a] H12 := St.fin hS12
 exact (hS13.result (hS13.rdS 0 rfl))
set_option maxRecDepth 100000 in
theorem IndexFunc {H0 : Heap} (vs vf : Value) (l : List Int) (gp : Int → Bool) (rs : Rd NoB H0 vs l) (hf : ∀ x, x ∈ l → ∀ H, Ext NoB H0 H → FnH Try.prog vf #[I x] H (fun rv H' => Ext NoB H H' ∧ rv = B (gp x))) : CallsH Try.prog 53 #[vs, vf] H0 (fun rv_ H' => Ext NoB H0 H' ∧ rv_ = I (idxOf gp l)) := by
 have hsm := (Rd.list.1 rs).small
 have hS0 : St H0 NoB NoB [rdE vs l] H0 := St.arg (St.start (fun _ h => h.elim)) (Bl0.nil) rs (fun _ h => h)
 refine callsH_of_wpF (args := [vs, vf]) (rs := [.tmp 4]) Try.func53 rfl Try.ntmps53 Try.results53 (by kernel_rfl) (Nat.le_of_ble_eq_true rfl) ?_
 have y0 : argF [vs, vf] 0 = vs := rfl
 have y1 : argF [vs, vf] 1 = vf := rfl
 generalize argF [vs, vf] = f0 at *
 refine fcr (fun f H => f 0 = vs ∧ f 1 = vf ∧ H0 = H) ?_ ?_
 ·refine la (v := I (0)) rfl rfl rfl ?_
  exact ⟨y0, y1, rfl⟩
 clear y0 y1
 rintro f1 _ ⟨y0, y1, rfl⟩
 refine wpF_seq ?_
 refine fcr (fun f H => f 0 = vs ∧ f 1 = vf ∧ f 7 = I ((l.length : Int)) ∧ f 8 = I (0) ∧ H0 = H) ?_ ?_
 ·refine lm (v := vs) rfl rfl y0 ?_
  refine lq rfl (q_lenRd rfl Try.underlying24 rfl (hS0.rdl 0 rfl)) ?_
  refine lm (v := I (0)) rfl rfl rfl ?_
  exact ⟨y0, y1, rfl, rfl, rfl⟩
 clear y0 y1
 rintro f2 _ ⟨y0, y1, y7, y8, rfl⟩
 refine wpF_block ?_
 refine wpF_loop (fun mz f H => ∃ (k : Nat), mz = l.length - k ∧ (k ≤ l.length) ∧ (∀ j, j < k → gp (nth l j) = false) ∧ f 0 = vs ∧ f 1 = vf ∧ f 7 = I ((l.length : Int)) ∧ f 8 = I ((k : Int)) ∧ St H0 NoB NoB [rdE vs l] H) (l.length - 0) ?_ ?_
 ·exact ⟨0, rfl, Nat.zero_le _, (fun j hj => absurd hj (Nat.not_lt_zero j)), y0, y1, y7, (Eq.trans y8 (congrArg I (by omega))), hS0⟩
 intro m3 f3 H3 hI3
 clear y0 y1 y7 y8
 obtain ⟨k, hm3, hk, hno, y0, y1, y7, y8, hS3⟩ := hI3
 refine fcr (fun f H => f 0 = vs ∧ f 1 = vf ∧ f 7 = I ((l.length : Int)) ∧ f 8 = I ((k : Int)) ∧ f 9 = B (decide ((k : Int) < (l.length : Int))) ∧ H3 = H) ?_ ?_
 ·refine lq rfl (q_lss rfl y8 y7) ?_
  exact ⟨y0, y1, y7, y8, rfl, rfl⟩
 clear y0 y1 y7 y8
 rintro f4 _ ⟨y0, y1, y7, y8, y9, rfl⟩
 refine wpF_seq ?_
 refine wpF_condP y9 (fun hlt => ?t16) (fun hlt => ?e16)
 case e16 =>
  refine wpF_exit ?_
  refine atX_here ?_
  refine fcr (fun f H => f 4 = I (-1) ∧ H3 = H) ?_ ?_
  ·refine la (v := I (-1)) rfl rfl rfl ?_
   exact ⟨rfl, rfl⟩
  clear y0 y1 y7 y8 y9
  rintro f15 _ ⟨y4, rfl⟩
  refine wpF_ret ?_
  refine ⟨_, resT y4 resN, hS3.frame, ?_⟩
  show (I (-1)) = I (idxOf gp l)
  exact congrArg I (idxOf_no fun j hj => hno j (by omega)).symm
 refine wpF_skip ?_
 refine wpF_seq ?_
 refine wpF_block ?_
 refine fcr (fun f H => f 0 = vs ∧ f 1 = vf ∧ f 5 = I ((k : Int)) ∧ f 7 = I ((l.length : Int)) ∧ f 8 = I ((k : Int)) ∧ H3 = H) ?_ ?_
 ·refine lm (v := I ((k : Int))) rfl rfl y8 ?_
  refine la (v := I ((k : Int))) rfl rfl rfl ?_
  exact ⟨y0, y1, rfl, y7, y8, rfl⟩
 clear y0 y1 y7 y8 y9
 rintro f6 _ ⟨y0, y1, y5, y7, y8, rfl⟩
 refine fcr (fun f H => f 0 = vs ∧ f 1 = vf ∧ f 5 = I ((k : Int)) ∧ f 7 = I ((l.length : Int)) ∧ f 8 = I ((k : Int)) ∧ f 16 = B (gp (nth l k)) ∧ St H0 NoB NoB [rdE vs l] H) ?_ ?_
 ·refine lm (v := vf) rfl rfl y1 ?_
  refine lm (v := vs) rfl rfl y0 ?_
  refine lm (v := I ((k : Int))) rfl rfl y5 ?_
  refine lq rfl (q_indexRd (k := k) rfl Try.underlying24 el_Int_3_AskC1 rfl rfl (hS3.rdl 0 rfl) (by omega) (by omega)) ?_
  refine lq rfl (q_loadInt (k := k) rfl rfl el_Int_3_AskC1 (hS3.rdl 0 rfl) (by omega) (fun _ h => h)) ?_
  refine lo rfl ?_
  refine e_callF rfl rfl (arr1 (v0 := I (nth l k)) rfl) (hf _ (nth_mem (by omega)) _ hS3.frame) ?_
  rintro _ H7 ⟨hxx, rfl⟩
  have hS8 := hS3.ext hxx
  exact ⟨y0, y1, y5, y7, y8, rfl, hS8⟩
 clear y0 y1 y5 y7 y8
 rintro f10 H10 ⟨y0, y1, y5, y7, y8, y16, hS10⟩
 refine wpF_cond y16 (fun hg => ?t14) (fun hg => ?e14)
 case e14 =>
  refine wpF_skip ?_
  refine wpF_cut (fun f H => f 0 = vs ∧ f 1 = vf ∧ f 7 = I ((l.length : Int)) ∧ f 8 = I ((k : Int) + 1) ∧ H10 = H) ?_ ?_
  ·refine wpF_region ?_
   refine lq rfl (q_add rfl y8 rfl (by constructor <;> omega)) ?_
   refine lm (v := I ((k : Int) + 1)) rfl rfl rfl ?_
   exact ⟨y0, y1, y7, rfl, rfl⟩
  clear y0 y1 y16 y5 y7 y8
  rintro f13 _ ⟨y0, y1, y7, y8, rfl⟩
  refine ⟨_, ?_, k + 1, rfl, (by omega), (all_succ hno (by simpa using hg)), y0, y1, y7, (Eq.trans y8 (congrArg I (by omega))), hS10⟩
  omega
 refine fcr (fun f H => f 4 = I ((k : Int)) ∧ H10 = H) ?_ ?_
 ·refine lm (v := I ((k : Int))) rfl rfl y5 ?_
  refine la (v := I ((k : Int))) rfl rfl rfl ?_
  exact ⟨rfl, rfl⟩
 clear y0 y1 y16 y5 y7 y8
 rintro f12 _ ⟨y4, rfl⟩
 refine wpF_ret ?_
 refine ⟨_, resT y4 resN, hS10.frame, ?_⟩
 show (I ((k : Int))) = I (idxOf gp l)
 exact congrArg I (idxOf_at (by omega) hno (by simpa using hg)).symm
set_option maxRecDepth 100000 in
theorem ContainsFunc {H0 : Heap} (vs vf : Value) (l : List Int) (gp : Int → Bool) (rs : Rd NoB H0 vs l) (hf : ∀ x, x ∈ l → ∀ H, Ext NoB H0 H → FnH Try.prog vf #[I x] H (fun rv H' => Ext NoB H H' ∧ rv = B (gp x))) : CallsH Try.prog 28 #[vs, vf] H0 (fun rv_ H' => Ext NoB H0 H' ∧ rv_ = B (l.any gp)) := by
 have hS0 : St H0 NoB NoB [rdE vs l] H0 := St.arg (St.start (fun _ h => h.elim)) (Bl0.nil) rs (fun _ h => h)
 refine callsH_of_wpF (args := [vs, vf]) (rs := [.tmp 4]) Try.func28 rfl Try.ntmps28 Try.results28 (by kernel_rfl) (Nat.le_of_ble_eq_true rfl) ?_
 have y0 : argF [vs, vf] 0 = vs := rfl
 have y1 : argF [vs, vf] 1 = vf := rfl
 generalize argF [vs, vf] = f0 at *
 refine fcr (fun f H => f 0 = vs ∧ f 1 = vf ∧ H0 = H) ?_ ?_
 ·refine la (v := B (false)) rfl rfl rfl ?_
  exact ⟨y0, y1, rfl⟩
 clear y0 y1
 rintro f1 _ ⟨y0, y1, rfl⟩
 refine fcr (fun f H => f 4 = B (decide (0 ≤ (idxOf gp l))) ∧ St H0 NoB NoB [] H) ?_ ?_
 ·refine lm (v := vs) rfl rfl y0 ?_
  refine lm (v := vf) rfl rfl y1 ?_
  refine lo rfl ?_
  refine e_call rfl Try.call53 (arr2 (v0 := vs) (v1 := vf) rfl rfl) (IndexFunc vs vf l gp (hS0.rdN 0 rfl) (fun x hx H hE => hf x hx H (hS0.frame.trans hE))) ?_
  rintro _ H2 ⟨hxx, rfl⟩
  have hS3 := hS0.ext hxx
  refine lq rfl (q_geq rfl rfl rfl) ?_
  refine la (v := B (decide (0 ≤ (idxOf gp l)))) rfl rfl rfl ?_
  exact ⟨rfl, (hS3.drop (sn (List.Sublist.slnil)))⟩
 clear y0 y1
 rintro f5 H5 ⟨y4, hS5⟩
 refine wpF_ret ?_
 refine ⟨_, resT y4 resN, hS5.frame, ?_⟩
 show (B (decide (0 ≤ (idxOf gp l)))) = B (l.any gp)
 exact congrArg B (bool_congr_of idxOf_any.symm).symm
set_option maxRecDepth 100000 in
theorem IsName_L {H0 : Heap} (s : Str) (hs : s.size ≤ maxLen) : CallsH Try.prog 30 #[SB (s)] H0 (fun rv_ H' => Ext NoB H0 H' ∧ rv_ = B (decide (isName s))) := by
 have hsm := Str.small hs
 have hS0 : St H0 NoB NoB [] H0 := St.start (fun _ h => h.elim)
 refine callsH_of_wpF (args := [SB (s)]) (rs := [.tmp 2]) Try.func30 rfl Try.ntmps30 Try.results30 (by kernel_rfl) (Nat.le_of_ble_eq_true rfl) ?_
 have y0 : argF [SB (s)] 0 = SB (s) := rfl
 generalize argF [SB (s)] = f0 at *
 refine fcr (fun f H => f 0 = SB (s) ∧ H0 = H) ?_ ?_
 ·refine la (v := B (false)) rfl rfl rfl ?_
  exact ⟨y0, rfl⟩
 clear y0
 rintro f1 _ ⟨y0, rfl⟩
 refine wpF_seq ?_
 refine fcr (fun f H => f 0 = SB (s) ∧ f 7 = I ((s.size : Int)) ∧ f 8 = I (0) ∧ H0 = H) ?_ ?_
 ·refine lm (v := SB (s)) rfl rfl y0 ?_
  refine lq rfl (q_lenStr rfl Try.underlying9 rfl) ?_
  refine lm (v := I (0)) rfl rfl rfl ?_
  exact ⟨y0, rfl, rfl, rfl⟩
 clear y0
 rintro f2 _ ⟨y0, y7, y8, rfl⟩
 refine wpF_block ?_
 refine wpF_loop (fun mz f H => ∃ (k : Nat), mz = s.size - k ∧ (k ≤ s.size) ∧ (∀ j, j < k → ¬ nameBad s j) ∧ f 0 = SB (s) ∧ f 7 = I ((s.size : Int)) ∧ f 8 = I ((k : Int)) ∧ H0 = H) (s.size - 0) ?_ ?_
 ·exact ⟨0, rfl, Nat.zero_le _, (fun j hj => absurd hj (Nat.not_lt_zero j)), y0, y7, (Eq.trans y8 (congrArg I (by omega))), rfl⟩
 intro m3 f3 H3 hI3
 clear y0 y7 y8
 obtain ⟨k, hm3, hk, hp, y0, y7, y8, rfl⟩ := hI3
 refine fcr (fun f H => f 0 = SB (s) ∧ f 7 = I ((s.size : Int)) ∧ f 8 = I ((k : Int)) ∧ f 9 = B (decide ((k : Int) < (s.size : Int))) ∧ H0 = H) ?_ ?_
 ·refine lq rfl (q_lss rfl y8 y7) ?_
  exact ⟨y0, y7, y8, rfl, rfl⟩
 clear y0 y7 y8
 rintro f4 _ ⟨y0, y7, y8, y9, rfl⟩
 refine wpF_seq ?_
 refine wpF_condP y9 (fun hlt => ?t42) (fun hlt => ?e42)
 case e42 =>
  refine wpF_exit ?_
  refine atX_here ?_
  refine fcr (fun f H => f 2 = B (decide ((1 ≤ (s.size : Int)) ∧ ((s.size : Int) ≤ 12))) ∧ H0 = H) ?_ ?_
  ·refine lm (v := SB (s)) rfl rfl y0 ?_
   refine lq rfl (q_lenStr rfl Try.underlying9 rfl) ?_
   refine lq rfl (q_geq rfl rfl rfl) ?_
   refine lm (v := B (decide (1 ≤ (s.size : Int)))) rfl rfl rfl ?_
   by_cases hg38 : 1 ≤ (s.size : Int)
   ·have hb39 := Eq.trans rfl (congrArg B (decide_eq_true hg38))
    refine gq rfl rfl rfl hb39 (q_move (v := SB (s)) rfl y0) ?_
    refine gq rfl rfl rfl hb39 (q_lenStr rfl Try.underlying9 rfl) ?_
    refine gq rfl rfl rfl hb39 (q_leq rfl rfl rfl) ?_
    refine lq rfl (q_pickT (v := B (decide ((s.size : Int) ≤ 12))) rfl hb39 rfl) ?_
    refine la (v := B (decide ((s.size : Int) ≤ 12))) rfl rfl rfl ?_
    exact ⟨(Eq.trans rfl (congrArg B (decide_congr_of ((Iff.rfl).trans (((and_iff_right hg38).trans Iff.rfl)).symm)))), rfl⟩
   ·have hb40 := Eq.trans rfl (congrArg B (decide_eq_false hg38))
    refine wpL_gs rfl rfl rfl hb40 rfl ?_
    refine wpL_gs rfl rfl rfl hb40 rfl ?_
    refine wpL_gs rfl rfl rfl hb40 rfl ?_
    refine lq rfl (q_pickF (v := B (false)) rfl hb40 rfl) ?_
    refine la (v := B (false)) rfl rfl rfl ?_
    exact ⟨(Eq.trans rfl (congrArg B ((decide_eq_false (fun h => hg38 h.1)).symm))), rfl⟩
  clear y0 y7 y8 y9
  rintro f41 _ ⟨y2, rfl⟩
  refine wpF_ret ?_
  refine ⟨_, resT y2 resN, hS0.frame, ?_⟩
  show (B (decide ((1 ≤ (s.size : Int)) ∧ ((s.size : Int) ≤ 12)))) = B (decide (isName s))
  exact congrArg B (decide_congr_of ⟨fun h => ⟨fun j hj => hp j (by omega), h⟩, fun h => h.2⟩)
 refine wpF_skip ?_
 refine wpF_seq ?_
 refine wpF_block ?_
 refine fcr (fun f H => f 0 = SB (s) ∧ f 3 = I ((k : Int)) ∧ f 7 = I ((s.size : Int)) ∧ f 8 = I ((k : Int)) ∧ H0 = H) ?_ ?_
 ·refine lm (v := I ((k : Int))) rfl rfl y8 ?_
  refine la (v := I ((k : Int))) rfl rfl rfl ?_
  exact ⟨y0, rfl, y7, y8, rfl⟩
 clear y0 y7 y8 y9
 rintro f6 _ ⟨y0, y3, y7, y8, rfl⟩
 refine fcr (fun f H => f 0 = SB (s) ∧ f 3 = I ((k : Int)) ∧ f 4 = U8 (bAt s k) ∧ f 7 = I ((s.size : Int)) ∧ f 8 = I ((k : Int)) ∧ H0 = H) ?_ ?_
 ·refine lm (v := SB (s)) rfl rfl y0 ?_
  refine lm (v := I ((k : Int))) rfl rfl y3 ?_
  refine lq rfl (q_indexStr (k := k) rfl Try.underlying9 rfl rfl (by omega) (by omega)) ?_
  refine la (v := U8 (bAt s k)) rfl rfl rfl ?_
  exact ⟨y0, y3, rfl, y7, y8, rfl⟩
 clear y0 y3 y7 y8
 rintro f7 _ ⟨y0, y3, y4, y7, y8, rfl⟩
 refine fcr (fun f H => f 0 = SB (s) ∧ f 3 = I ((k : Int)) ∧ f 4 = U8 (bAt s k) ∧ f 5 = B (decide ((((bAt s k) = 95) ∨ ((97 ≤ (bAt s k)) ∧ ((bAt s k) ≤ 122))) ∨ ((65 ≤ (bAt s k)) ∧ ((bAt s k) ≤ 90)))) ∧ f 7 = I ((s.size : Int)) ∧ f 8 = I ((k : Int)) ∧ H0 = H) ?_ ?_
 ·refine lm (v := U8 (bAt s k)) rfl rfl y4 ?_
  refine lq rfl (q_eql8 rfl rfl rfl) ?_
  refine lm (v := B (decide ((bAt s k) = 95))) rfl rfl rfl ?_
  by_cases hg8 : (bAt s k) = 95
  ·have hb9 := Eq.trans rfl (congrArg B (decide_eq_true hg8))
   refine wpL_gs rfl rfl rfl hb9 rfl ?_
   refine wpL_gs rfl rfl rfl hb9 rfl ?_
   refine wpL_gs rfl rfl rfl hb9 rfl ?_
   refine wpL_gs' rfl rfl rfl rfl ?_
   refine wpL_gs' rfl rfl rfl rfl ?_
   refine wpL_gs rfl rfl rfl hb9 rfl ?_
   refine lq rfl (q_pickT (v := B (true)) rfl hb9 rfl) ?_
   refine lm (v := B (true)) rfl rfl rfl ?_
   refine wpL_gs rfl rfl rfl rfl rfl ?_
   refine wpL_gs rfl rfl rfl rfl rfl ?_
   refine wpL_gs rfl rfl rfl rfl rfl ?_
   refine wpL_gs' rfl rfl rfl rfl ?_
   refine wpL_gs' rfl rfl rfl rfl ?_
   refine wpL_gs rfl rfl rfl rfl rfl ?_
   refine lq rfl (q_pickT (v := B (true)) rfl rfl rfl) ?_
   refine la (v := B (true)) rfl rfl rfl ?_
   exact ⟨y0, y3, y4, (Eq.trans rfl (congrArg B ((decide_eq_true (Or.inl (Or.inl hg8))).symm))), y7, y8, rfl⟩
  ·have hb10 := Eq.trans rfl (congrArg B (decide_eq_false hg8))
   refine gq rfl rfl rfl hb10 (q_move (v := U8 (bAt s k)) rfl y4) ?_
   refine gq rfl rfl rfl hb10 (q_geq8 rfl rfl rfl) ?_
   refine gq rfl rfl rfl hb10 (q_move (v := B (decide (97 ≤ (bAt s k)))) rfl rfl) ?_
   by_cases hg11 : 97 ≤ (bAt s k)
   ·have hb12 := Eq.trans rfl (congrArg B (decide_eq_true hg11))
    refine gq rfl rfl rfl hb12 (q_move (v := U8 (bAt s k)) rfl y4) ?_
    refine gq rfl rfl rfl hb12 (q_leq8 rfl rfl rfl) ?_
    refine gq rfl rfl rfl hb10 (q_pickT (v := B (decide ((bAt s k) ≤ 122))) rfl hb12 rfl) ?_
    refine lq rfl (q_pickF (v := B (decide ((bAt s k) ≤ 122))) rfl hb10 rfl) ?_
    refine lm (v := B (decide ((bAt s k) ≤ 122))) rfl rfl rfl ?_
    by_cases hg14 : (bAt s k) ≤ 122
    ·have hb15 := Eq.trans rfl (congrArg B (decide_eq_true hg14))
     refine wpL_gs rfl rfl rfl hb15 rfl ?_
     refine wpL_gs rfl rfl rfl hb15 rfl ?_
     refine wpL_gs rfl rfl rfl hb15 rfl ?_
     refine wpL_gs' rfl rfl rfl rfl ?_
     refine wpL_gs' rfl rfl rfl rfl ?_
     refine wpL_gs rfl rfl rfl hb15 rfl ?_
     refine lq rfl (q_pickT (v := B (true)) rfl hb15 rfl) ?_
     refine la (v := B (true)) rfl rfl rfl ?_
     exact ⟨y0, y3, y4, (Eq.trans rfl (congrArg B ((decide_eq_true (Or.inl (Or.inr ⟨hg11, hg14⟩))).symm))), y7, y8, rfl⟩
    ·have hb16 := Eq.trans rfl (congrArg B (decide_eq_false hg14))
     refine gq rfl rfl rfl hb16 (q_move (v := U8 (bAt s k)) rfl y4) ?_
     refine gq rfl rfl rfl hb16 (q_geq8 rfl rfl rfl) ?_
     refine gq rfl rfl rfl hb16 (q_move (v := B (decide (65 ≤ (bAt s k)))) rfl rfl) ?_
     by_cases hg17 : 65 ≤ (bAt s k)
     ·have hb18 := Eq.trans rfl (congrArg B (decide_eq_true hg17))
      refine gq rfl rfl rfl hb18 (q_move (v := U8 (bAt s k)) rfl y4) ?_
      refine gq rfl rfl rfl hb18 (q_leq8 rfl rfl rfl) ?_
      refine gq rfl rfl rfl hb16 (q_pickT (v := B (decide ((bAt s k) ≤ 90))) rfl hb18 rfl) ?_
      refine lq rfl (q_pickF (v := B (decide ((bAt s k) ≤ 90))) rfl hb16 rfl) ?_
      refine la (v := B (decide ((bAt s k) ≤ 90))) rfl rfl rfl ?_
      exact ⟨y0, y3, y4, (Eq.trans rfl (congrArg B (decide_congr_of ((Iff.rfl).trans (((or_iff_right (not_or.2 ⟨hg8, (fun h => hg14 h.2)⟩)).trans ((and_iff_right hg17).trans Iff.rfl))).symm)))), y7, y8, rfl⟩
     ·have hb19 := Eq.trans rfl (congrArg B (decide_eq_false hg17))
      refine wpL_gs rfl rfl rfl hb19 rfl ?_
      refine wpL_gs rfl rfl rfl hb19 rfl ?_
      refine gq rfl rfl rfl hb16 (q_pickF (v := B (false)) rfl hb19 rfl) ?_
      refine lq rfl (q_pickF (v := B (false)) rfl hb16 rfl) ?_
      refine la (v := B (false)) rfl rfl rfl ?_
      exact ⟨y0, y3, y4, (Eq.trans rfl (congrArg B ((decide_eq_false (not_or.2 ⟨(not_or.2 ⟨hg8, (fun h => hg14 h.2)⟩), (fun h => hg17 h.1)⟩)).symm))), y7, y8, rfl⟩
   ·have hb13 := Eq.trans rfl (congrArg B (decide_eq_false hg11))
    refine wpL_gs rfl rfl rfl hb13 rfl ?_
    refine wpL_gs rfl rfl rfl hb13 rfl ?_
    refine gq rfl rfl rfl hb10 (q_pickF (v := B (false)) rfl hb13 rfl) ?_
    refine lq rfl (q_pickF (v := B (false)) rfl hb10 rfl) ?_
    refine lm (v := B (false)) rfl rfl rfl ?_
    refine gq rfl rfl rfl rfl (q_move (v := U8 (bAt s k)) rfl y4) ?_
    refine gq rfl rfl rfl rfl (q_geq8 rfl rfl rfl) ?_
    refine gq rfl rfl rfl rfl (q_move (v := B (decide (65 ≤ (bAt s k)))) rfl rfl) ?_
    by_cases hg20 : 65 ≤ (bAt s k)
    ·have hb21 := Eq.trans rfl (congrArg B (decide_eq_true hg20))
     refine gq rfl rfl rfl hb21 (q_move (v := U8 (bAt s k)) rfl y4) ?_
     refine gq rfl rfl rfl hb21 (q_leq8 rfl rfl rfl) ?_
     refine gq rfl rfl rfl rfl (q_pickT (v := B (decide ((bAt s k) ≤ 90))) rfl hb21 rfl) ?_
     refine lq rfl (q_pickF (v := B (decide ((bAt s k) ≤ 90))) rfl rfl rfl) ?_
     refine la (v := B (decide ((bAt s k) ≤ 90))) rfl rfl rfl ?_
     exact ⟨y0, y3, y4, (Eq.trans rfl (congrArg B (decide_congr_of ((Iff.rfl).trans (((or_iff_right (not_or.2 ⟨hg8, (fun h => hg11 h.1)⟩)).trans ((and_iff_right hg20).trans Iff.rfl))).symm)))), y7, y8, rfl⟩
    ·have hb22 := Eq.trans rfl (congrArg B (decide_eq_false hg20))
     refine wpL_gs rfl rfl rfl hb22 rfl ?_
     refine wpL_gs rfl rfl rfl hb22 rfl ?_
     refine gq rfl rfl rfl rfl (q_pickF (v := B (false)) rfl hb22 rfl) ?_
     refine lq rfl (q_pickF (v := B (false)) rfl rfl rfl) ?_
     refine la (v := B (false)) rfl rfl rfl ?_
     exact ⟨y0, y3, y4, (Eq.trans rfl (congrArg B ((decide_eq_false (not_or.2 ⟨(not_or.2 ⟨hg8, (fun h => hg11 h.1)⟩), (fun h => hg20 h.1)⟩)).symm))), y7, y8, rfl⟩
 clear y0 y3 y4 y7 y8
 rintro f23 _ ⟨y0, y3, y4, y5, y7, y8, rfl⟩
 refine fcr (fun f H => f 0 = SB (s) ∧ f 7 = I ((s.size : Int)) ∧ f 8 = I ((k : Int)) ∧ f 45 = B (decide ((¬ ((((bAt s k) = 95) ∨ ((97 ≤ (bAt s k)) ∧ ((bAt s k) ≤ 122))) ∨ ((65 ≤ (bAt s k)) ∧ ((bAt s k) ≤ 90)))) ∧ ((((k : Int) = 0) ∨ ((bAt s k) < 48)) ∨ (57 < (bAt s k))))) ∧ H0 = H) ?_ ?_
 ·refine lm (v := B (decide ((((bAt s k) = 95) ∨ ((97 ≤ (bAt s k)) ∧ ((bAt s k) ≤ 122))) ∨ ((65 ≤ (bAt s k)) ∧ ((bAt s k) ≤ 90))))) rfl rfl y5 ?_
  refine lq rfl (q_notP rfl rfl) ?_
  refine lm (v := B (decide (¬ ((((bAt s k) = 95) ∨ ((97 ≤ (bAt s k)) ∧ ((bAt s k) ≤ 122))) ∨ ((65 ≤ (bAt s k)) ∧ ((bAt s k) ≤ 90)))))) rfl rfl rfl ?_
  by_cases hg24 : ¬ ((((bAt s k) = 95) ∨ ((97 ≤ (bAt s k)) ∧ ((bAt s k) ≤ 122))) ∨ ((65 ≤ (bAt s k)) ∧ ((bAt s k) ≤ 90)))
  ·have hb25 := Eq.trans rfl (congrArg B (decide_eq_true hg24))
   refine gq rfl rfl rfl hb25 (q_move (v := I ((k : Int))) rfl y3) ?_
   refine gq rfl rfl rfl hb25 (q_eql rfl rfl rfl) ?_
   refine gq rfl rfl rfl hb25 (q_move (v := B (decide ((k : Int) = 0))) rfl rfl) ?_
   by_cases hg27 : (k : Int) = 0
   ·have hb28 := Eq.trans rfl (congrArg B (decide_eq_true hg27))
    refine wpL_gs rfl rfl rfl hb28 rfl ?_
    refine wpL_gs rfl rfl rfl hb28 rfl ?_
    refine gq rfl rfl rfl hb25 (q_pickT (v := B (true)) rfl hb28 rfl) ?_
    refine gq rfl rfl rfl hb25 (q_move (v := B (true)) rfl rfl) ?_
    refine wpL_gs rfl rfl rfl rfl rfl ?_
    refine wpL_gs rfl rfl rfl rfl rfl ?_
    refine gq rfl rfl rfl hb25 (q_pickT (v := B (true)) rfl rfl rfl) ?_
    refine lq rfl (q_pickT (v := B (true)) rfl hb25 rfl) ?_
    exact ⟨y0, y7, y8, (Eq.trans rfl (congrArg B ((decide_eq_true ⟨hg24, (Or.inl (Or.inl hg27))⟩).symm))), rfl⟩
   ·have hb29 := Eq.trans rfl (congrArg B (decide_eq_false hg27))
    refine gq rfl rfl rfl hb29 (q_move (v := U8 (bAt s k)) rfl y4) ?_
    refine gq rfl rfl rfl hb29 (q_lss8 rfl rfl rfl) ?_
    refine gq rfl rfl rfl hb25 (q_pickF (v := B (decide ((bAt s k) < 48))) rfl hb29 rfl) ?_
    refine gq rfl rfl rfl hb25 (q_move (v := B (decide ((bAt s k) < 48))) rfl rfl) ?_
    by_cases hg30 : (bAt s k) < 48
    ·have hb31 := Eq.trans rfl (congrArg B (decide_eq_true hg30))
     refine wpL_gs rfl rfl rfl hb31 rfl ?_
     refine wpL_gs rfl rfl rfl hb31 rfl ?_
     refine gq rfl rfl rfl hb25 (q_pickT (v := B (true)) rfl hb31 rfl) ?_
     refine lq rfl (q_pickT (v := B (true)) rfl hb25 rfl) ?_
     exact ⟨y0, y7, y8, (Eq.trans rfl (congrArg B ((decide_eq_true ⟨hg24, (Or.inl (Or.inr hg30))⟩).symm))), rfl⟩
    ·have hb32 := Eq.trans rfl (congrArg B (decide_eq_false hg30))
     refine gq rfl rfl rfl hb32 (q_move (v := U8 (bAt s k)) rfl y4) ?_
     refine gq rfl rfl rfl hb32 (q_gtr8 rfl rfl rfl) ?_
     refine gq rfl rfl rfl hb25 (q_pickF (v := B (decide (57 < (bAt s k)))) rfl hb32 rfl) ?_
     refine lq rfl (q_pickT (v := B (decide (57 < (bAt s k)))) rfl hb25 rfl) ?_
     exact ⟨y0, y7, y8, (Eq.trans rfl (congrArg B (decide_congr_of ((Iff.rfl).trans (((and_iff_right hg24).trans ((or_iff_right (not_or.2 ⟨hg27, hg30⟩)).trans Iff.rfl))).symm)))), rfl⟩
  ·have hb26 := Eq.trans rfl (congrArg B (decide_eq_false hg24))
   refine wpL_gs rfl rfl rfl hb26 rfl ?_
   refine wpL_gs rfl rfl rfl hb26 rfl ?_
   refine wpL_gs rfl rfl rfl hb26 rfl ?_
   refine wpL_gs' rfl rfl rfl rfl ?_
   refine wpL_gs' rfl rfl rfl rfl ?_
   refine wpL_gs rfl rfl rfl hb26 rfl ?_
   refine wpL_gs rfl rfl rfl hb26 rfl ?_
   refine wpL_gs' rfl rfl rfl rfl ?_
   refine wpL_gs' rfl rfl rfl rfl ?_
   refine wpL_gs rfl rfl rfl hb26 rfl ?_
   refine lq rfl (q_pickF (v := B (false)) rfl hb26 rfl) ?_
   exact ⟨y0, y7, y8, (Eq.trans rfl (congrArg B ((decide_eq_false (fun h => hg24 h.1)).symm))), rfl⟩
 clear y0 y3 y4 y5 y7 y8
 rintro f33 _ ⟨y0, y7, y8, y45, rfl⟩
 refine wpF_condP y45 (fun hbad => ?t37) (fun hbad => ?e37)
 case e37 =>
  refine wpF_skip ?_
  refine wpF_cut (fun f H => f 0 = SB (s) ∧ f 7 = I ((s.size : Int)) ∧ f 8 = I ((k : Int) + 1) ∧ H0 = H) ?_ ?_
  ·refine wpF_region ?_
   refine lq rfl (q_add rfl y8 rfl (by constructor <;> omega)) ?_
   refine lm (v := I ((k : Int) + 1)) rfl rfl rfl ?_
   exact ⟨y0, y7, rfl, rfl⟩
  clear y0 y45 y7 y8
  rintro f36 _ ⟨y0, y7, y8, rfl⟩
  refine ⟨_, ?_, k + 1, rfl, (by omega), (all_succ hp hbad), y0, y7, (Eq.trans y8 (congrArg I (by omega))), rfl⟩
  omega
 refine fcr (fun f H => f 2 = B (false) ∧ H0 = H) ?_ ?_
 ·refine la (v := B (false)) rfl rfl rfl ?_
  exact ⟨rfl, rfl⟩
 clear y0 y45 y7 y8
 rintro f35 _ ⟨y2, rfl⟩
 refine wpF_ret ?_
 refine ⟨_, resT y2 resN, hS0.frame, ?_⟩
 show (B (false)) = B (decide (isName s))
 exact congrArg B (decide_eq_false (fun h => h.1 k (by omega) hbad)).symm
set_option maxRecDepth 100000 in
theorem Word_L {H0 : Heap} (s : Int)  : CallsH Try.prog 51 #[I (s)] H0 (fun rv_ H' => Ext NoB H0 H' ∧ rv_ = B (decide (wordS s))) := by
 have hS0 : St H0 NoB NoB [] H0 := St.start (fun _ h => h.elim)
 refine callsH_of_wpF (args := [I (s)]) (rs := [.tmp 2]) Try.func51 rfl Try.ntmps51 Try.results51 (by kernel_rfl) (Nat.le_of_ble_eq_true rfl) ?_
 have y0 : argF [I (s)] 0 = I (s) := rfl
 generalize argF [I (s)] = f0 at *
 refine fcr (fun f H => f 0 = I (s) ∧ H0 = H) ?_ ?_
 ·refine la (v := B (false)) rfl rfl rfl ?_
  exact ⟨y0, rfl⟩
 clear y0
 rintro f1 _ ⟨y0, rfl⟩
 refine fcr (fun f H => f 2 = B (decide ((10 < s) ∧ (s ≤ 18))) ∧ H0 = H) ?_ ?_
 ·refine lm (v := I (s)) rfl rfl y0 ?_
  refine lq rfl (q_gtr rfl rfl rfl) ?_
  refine lm (v := B (decide (10 < s))) rfl rfl rfl ?_
  by_cases hg2 : 10 < s
  ·have hb3 := Eq.trans rfl (congrArg B (decide_eq_true hg2))
   refine gq rfl rfl rfl hb3 (q_move (v := I (s)) rfl y0) ?_
   refine gq rfl rfl rfl hb3 (q_leq rfl rfl rfl) ?_
   refine lq rfl (q_pickT (v := B (decide (s ≤ 18))) rfl hb3 rfl) ?_
   refine la (v := B (decide (s ≤ 18))) rfl rfl rfl ?_
   exact ⟨(Eq.trans rfl (congrArg B (decide_congr_of ((Iff.rfl).trans (((and_iff_right hg2).trans Iff.rfl)).symm)))), rfl⟩
  ·have hb4 := Eq.trans rfl (congrArg B (decide_eq_false hg2))
   refine wpL_gs rfl rfl rfl hb4 rfl ?_
   refine wpL_gs rfl rfl rfl hb4 rfl ?_
   refine lq rfl (q_pickF (v := B (false)) rfl hb4 rfl) ?_
   refine la (v := B (false)) rfl rfl rfl ?_
   exact ⟨(Eq.trans rfl (congrArg B ((decide_eq_false (fun h => hg2 h.1)).symm))), rfl⟩
 clear y0
 rintro f5 _ ⟨y2, rfl⟩
 refine wpF_ret ?_
 refine ⟨_, resT y2 resN, hS0.frame, ?_⟩
 show (B (decide ((10 < s) ∧ (s ≤ 18)))) = B (decide (wordS s))
 rfl
set_option maxRecDepth 100000 in
theorem isSort_L {H0 : Heap} (s : Int)  : CallsH Try.prog 33 #[I (s)] H0 (fun rv_ H' => Ext NoB H0 H' ∧ rv_ = B (decide (isSortS s))) := by
 have hS0 : St H0 NoB NoB [] H0 := St.start (fun _ h => h.elim)
 refine callsH_of_wpF (args := [I (s)]) (rs := [.tmp 2]) Try.func33 rfl Try.ntmps33 Try.results33 (by kernel_rfl) (Nat.le_of_ble_eq_true rfl) ?_
 have y0 : argF [I (s)] 0 = I (s) := rfl
 generalize argF [I (s)] = f0 at *
 refine fcr (fun f H => f 0 = I (s) ∧ H0 = H) ?_ ?_
 ·refine la (v := B (false)) rfl rfl rfl ?_
  exact ⟨y0, rfl⟩
 clear y0
 rintro f1 _ ⟨y0, rfl⟩
 refine fcr (fun f H => f 2 = B (decide (((1 ≤ s) ∧ (s ≤ 5)) ∨ (wordS s))) ∧ St H0 NoB NoB [] H) ?_ ?_
 ·refine lm (v := I (s)) rfl rfl y0 ?_
  refine lq rfl (q_geq rfl rfl rfl) ?_
  refine lm (v := B (decide (1 ≤ s))) rfl rfl rfl ?_
  by_cases hg2 : 1 ≤ s
  ·have hb3 := Eq.trans rfl (congrArg B (decide_eq_true hg2))
   refine gq rfl rfl rfl hb3 (q_move (v := I (s)) rfl y0) ?_
   refine gq rfl rfl rfl hb3 (q_leq rfl rfl rfl) ?_
   refine lq rfl (q_pickT (v := B (decide (s ≤ 5))) rfl hb3 rfl) ?_
   refine lm (v := B (decide (s ≤ 5))) rfl rfl rfl ?_
   by_cases hg5 : s ≤ 5
   ·have hb6 := Eq.trans rfl (congrArg B (decide_eq_true hg5))
    refine wpL_gs rfl rfl rfl hb6 rfl ?_
    refine wpL_gs rfl rfl rfl hb6 rfl ?_
    refine lq rfl (q_pickT (v := B (true)) rfl hb6 rfl) ?_
    refine la (v := B (true)) rfl rfl rfl ?_
    exact ⟨(Eq.trans rfl (congrArg B ((decide_eq_true (Or.inl ⟨hg2, hg5⟩)).symm))), hS0⟩
   ·have hb7 := Eq.trans rfl (congrArg B (decide_eq_false hg5))
    refine gq rfl rfl rfl hb7 (q_move (v := I (s)) rfl y0) ?_
    refine wpL_go rfl rfl rfl hb7 ?_
    refine e_call rfl Try.call51 (arr1 (v0 := I (s)) rfl) (Word_L s) ?_
    rintro _ H8 ⟨hxx, rfl⟩
    have hS9 := hS0.ext hxx
    refine lq rfl (q_pickF (v := B (decide (wordS s))) rfl hb7 rfl) ?_
    refine la (v := B (decide (wordS s))) rfl rfl rfl ?_
    exact ⟨(Eq.trans rfl (congrArg B (decide_congr_of ((Iff.rfl).trans (((or_iff_right (fun h => hg5 h.2)).trans Iff.rfl)).symm)))), hS9⟩
  ·have hb4 := Eq.trans rfl (congrArg B (decide_eq_false hg2))
   refine wpL_gs rfl rfl rfl hb4 rfl ?_
   refine wpL_gs rfl rfl rfl hb4 rfl ?_
   refine lq rfl (q_pickF (v := B (false)) rfl hb4 rfl) ?_
   refine lm (v := B (false)) rfl rfl rfl ?_
   refine gq rfl rfl rfl rfl (q_move (v := I (s)) rfl y0) ?_
   refine wpL_go rfl rfl rfl rfl ?_
   refine e_call rfl Try.call51 (arr1 (v0 := I (s)) rfl) (Word_L s) ?_
   rintro _ H11 ⟨hxx, rfl⟩
   have hS12 := hS0.ext hxx
   refine lq rfl (q_pickF (v := B (decide (wordS s))) rfl rfl rfl) ?_
   refine la (v := B (decide (wordS s))) rfl rfl rfl ?_
   exact ⟨(Eq.trans rfl (congrArg B (decide_congr_of ((Iff.rfl).trans (((or_iff_right (fun h => hg2 h.1)).trans Iff.rfl)).symm)))), hS12⟩
 clear y0
 rintro f14 H14 ⟨y2, hS14⟩
 refine wpF_ret ?_
 refine ⟨_, resT y2 resN, hS14.frame, ?_⟩
 show (B (decide (((1 ≤ s) ∧ (s ≤ 5)) ∨ (wordS s)))) = B (decide (isSortS s))
 rfl
set_option maxRecDepth 100000 in
theorem numeric_L {H0 : Heap} (s : Int)  : CallsH Try.prog 60 #[I (s)] H0 (fun rv_ H' => Ext NoB H0 H' ∧ rv_ = B (decide (numS s))) := by
 have hS0 : St H0 NoB NoB [] H0 := St.start (fun _ h => h.elim)
 refine callsH_of_wpF (args := [I (s)]) (rs := [.tmp 2]) Try.func60 rfl Try.ntmps60 Try.results60 (by kernel_rfl) (Nat.le_of_ble_eq_true rfl) ?_
 have y0 : argF [I (s)] 0 = I (s) := rfl
 generalize argF [I (s)] = f0 at *
 refine fcr (fun f H => f 0 = I (s) ∧ H0 = H) ?_ ?_
 ·refine la (v := B (false)) rfl rfl rfl ?_
  exact ⟨y0, rfl⟩
 clear y0
 rintro f1 _ ⟨y0, rfl⟩
 refine fcr (fun f H => f 2 = B (decide ((s = 2) ∨ (s = 3))) ∧ H0 = H) ?_ ?_
 ·refine lm (v := I (s)) rfl rfl y0 ?_
  refine lq rfl (q_eql rfl rfl rfl) ?_
  refine lm (v := B (decide (s = 2))) rfl rfl rfl ?_
  by_cases hg2 : s = 2
  ·have hb3 := Eq.trans rfl (congrArg B (decide_eq_true hg2))
   refine wpL_gs rfl rfl rfl hb3 rfl ?_
   refine wpL_gs rfl rfl rfl hb3 rfl ?_
   refine lq rfl (q_pickT (v := B (true)) rfl hb3 rfl) ?_
   refine la (v := B (true)) rfl rfl rfl ?_
   exact ⟨(Eq.trans rfl (congrArg B ((decide_eq_true (Or.inl hg2)).symm))), rfl⟩
  ·have hb4 := Eq.trans rfl (congrArg B (decide_eq_false hg2))
   refine gq rfl rfl rfl hb4 (q_move (v := I (s)) rfl y0) ?_
   refine gq rfl rfl rfl hb4 (q_eql rfl rfl rfl) ?_
   refine lq rfl (q_pickF (v := B (decide (s = 3))) rfl hb4 rfl) ?_
   refine la (v := B (decide (s = 3))) rfl rfl rfl ?_
   exact ⟨(Eq.trans rfl (congrArg B (decide_congr_of ((Iff.rfl).trans (((or_iff_right hg2).trans Iff.rfl)).symm)))), rfl⟩
 clear y0
 rintro f5 _ ⟨y2, rfl⟩
 refine wpF_ret ?_
 refine ⟨_, resT y2 resN, hS0.frame, ?_⟩
 show (B (decide ((s = 2) ∨ (s = 3)))) = B (decide (numS s))
 rfl
set_option maxRecDepth 100000 in
theorem Sort_2 {H0 : Heap} (s : Int)  : CallsH Try.prog 59 #[I (s)] H0 (fun rv_ H' => Ext NoB H0 H' ∧ rv_ = B (decide (s = 1))) := by
 have hS0 : St H0 NoB NoB [] H0 := St.start (fun _ h => h.elim)
 refine callsH_of_wpF (args := [I (s)]) (rs := [.tmp 2]) Try.func59 rfl Try.ntmps59 Try.results59 (by kernel_rfl) (Nat.le_of_ble_eq_true rfl) ?_
 have y0 : argF [I (s)] 0 = I (s) := rfl
 generalize argF [I (s)] = f0 at *
 refine fcr (fun f H => f 0 = I (s) ∧ H0 = H) ?_ ?_
 ·refine la (v := B (false)) rfl rfl rfl ?_
  exact ⟨y0, rfl⟩
 clear y0
 rintro f1 _ ⟨y0, rfl⟩
 refine fcr (fun f H => f 2 = B (decide (s = 1)) ∧ H0 = H) ?_ ?_
 ·refine lm (v := I (s)) rfl rfl y0 ?_
  refine lq rfl (q_eql rfl rfl rfl) ?_
  refine la (v := B (decide (s = 1))) rfl rfl rfl ?_
  exact ⟨rfl, rfl⟩
 clear y0
 rintro f2 _ ⟨y2, rfl⟩
 refine wpF_ret ?_
 refine ⟨_, resT y2 resN, hS0.frame, ?_⟩
 show (B (decide (s = 1))) = B (decide (s = 1))
 rfl
set_option maxRecDepth 100000 in
theorem Sort_3 {H0 : Heap} (s : Int)  : CallsH Try.prog 62 #[I (s)] H0 (fun rv_ H' => Ext NoB H0 H' ∧ rv_ = B (decide (s = 2))) := by
 have hS0 : St H0 NoB NoB [] H0 := St.start (fun _ h => h.elim)
 refine callsH_of_wpF (args := [I (s)]) (rs := [.tmp 2]) Try.func62 rfl Try.ntmps62 Try.results62 (by kernel_rfl) (Nat.le_of_ble_eq_true rfl) ?_
 have y0 : argF [I (s)] 0 = I (s) := rfl
 generalize argF [I (s)] = f0 at *
 refine fcr (fun f H => f 0 = I (s) ∧ H0 = H) ?_ ?_
 ·refine la (v := B (false)) rfl rfl rfl ?_
  exact ⟨y0, rfl⟩
 clear y0
 rintro f1 _ ⟨y0, rfl⟩
 refine fcr (fun f H => f 2 = B (decide (s = 2)) ∧ H0 = H) ?_ ?_
 ·refine lm (v := I (s)) rfl rfl y0 ?_
  refine lq rfl (q_eql rfl rfl rfl) ?_
  refine la (v := B (decide (s = 2))) rfl rfl rfl ?_
  exact ⟨rfl, rfl⟩
 clear y0
 rintro f2 _ ⟨y2, rfl⟩
 refine wpF_ret ?_
 refine ⟨_, resT y2 resN, hS0.frame, ?_⟩
 show (B (decide (s = 2))) = B (decide (s = 2))
 rfl
set_option maxRecDepth 100000 in
theorem checkDecls_2 {H0 : Heap} (s : Int)  : CallsH Try.prog 34 #[I (s)] H0 (fun rv_ H' => Ext NoB H0 H' ∧ rv_ = B (decide (s ≠ 4))) := by
 have hS0 : St H0 NoB NoB [] H0 := St.start (fun _ h => h.elim)
 refine callsH_of_wpF (args := [I (s)]) (rs := [.tmp 2]) Try.func34 rfl Try.ntmps34 Try.results34 (by kernel_rfl) (Nat.le_of_ble_eq_true rfl) ?_
 have y0 : argF [I (s)] 0 = I (s) := rfl
 generalize argF [I (s)] = f0 at *
 refine fcr (fun f H => f 0 = I (s) ∧ H0 = H) ?_ ?_
 ·refine la (v := B (false)) rfl rfl rfl ?_
  exact ⟨y0, rfl⟩
 clear y0
 rintro f1 _ ⟨y0, rfl⟩
 refine fcr (fun f H => f 2 = B (decide (s ≠ 4)) ∧ H0 = H) ?_ ?_
 ·refine lm (v := I (s)) rfl rfl y0 ?_
  refine lq rfl (q_neq rfl rfl rfl) ?_
  refine la (v := B (decide (s ≠ 4))) rfl rfl rfl ?_
  exact ⟨rfl, rfl⟩
 clear y0
 rintro f2 _ ⟨y2, rfl⟩
 refine wpF_ret ?_
 refine ⟨_, resT y2 resN, hS0.frame, ?_⟩
 show (B (decide (s ≠ 4))) = B (decide (s ≠ 4))
 rfl
set_option maxRecDepth 100000 in
theorem whole_L {H0 : Heap} (p : Prop) [Decidable p]  : CallsH Try.prog 61 #[B (decide (p))] H0 (fun rv_ H' => Ext NoB H0 H' ∧ rv_ = I (wholeS p)) := by
 have hS0 : St H0 NoB NoB [] H0 := St.start (fun _ h => h.elim)
 refine callsH_of_wpF (args := [B (decide (p))]) (rs := [.tmp 2]) Try.func61 rfl Try.ntmps61 Try.results61 (by kernel_rfl) (Nat.le_of_ble_eq_true rfl) ?_
 have y0 : argF [B (decide (p))] 0 = B (decide (p)) := rfl
 generalize argF [B (decide (p))] = f0 at *
 refine fcr (fun f H => f 0 = B (decide (p)) ∧ H0 = H) ?_ ?_
 ·refine la (v := I (0)) rfl rfl rfl ?_
  exact ⟨y0, rfl⟩
 clear y0
 rintro f1 _ ⟨y0, rfl⟩
 refine wpF_seq ?_
 refine fcr (fun f H => f 3 = B (decide (p)) ∧ H0 = H) ?_ ?_
 ·refine lm (v := B (decide (p))) rfl rfl y0 ?_
  exact ⟨rfl, rfl⟩
 clear y0
 rintro f2 _ ⟨y3, rfl⟩
 refine wpF_condP y3 (fun hp => ?t6) (fun hp => ?e6)
 case t6 =>
  refine fcr (fun f H => f 2 = I (2) ∧ H0 = H) ?_ ?_
  ·refine la (v := I (2)) rfl rfl rfl ?_
   exact ⟨rfl, rfl⟩
  clear y3
  rintro f4 _ ⟨y2, rfl⟩
  refine wpF_ret ?_
  refine ⟨_, resT y2 resN, hS0.frame, ?_⟩
  show (I (2)) = I (wholeS p)
  exact congrArg I (if_pos hp).symm
 refine wpF_skip ?_
 refine fcr (fun f H => f 2 = I (3) ∧ H0 = H) ?_ ?_
 ·refine la (v := I (3)) rfl rfl rfl ?_
  exact ⟨rfl, rfl⟩
 clear y3
 rintro f5 _ ⟨y2, rfl⟩
 refine wpF_ret ?_
 refine ⟨_, resT y2 resN, hS0.frame, ?_⟩
 show (I (3)) = I (wholeS p)
 exact congrArg I (if_neg hp).symm
set_option maxRecDepth 100000 in
theorem whole_LB {H0 : Heap} (p : Bool)  : CallsH Try.prog 61 #[B (p)] H0 (fun rv_ H' => Ext NoB H0 H' ∧ rv_ = I (wholeS (p = true))) := by
 have hS0 : St H0 NoB NoB [] H0 := St.start (fun _ h => h.elim)
 refine callsH_of_wpF (args := [B (p)]) (rs := [.tmp 2]) Try.func61 rfl Try.ntmps61 Try.results61 (by kernel_rfl) (Nat.le_of_ble_eq_true rfl) ?_
 have y0 : argF [B (p)] 0 = B (p) := rfl
 generalize argF [B (p)] = f0 at *
 refine fcr (fun f H => f 0 = B (p) ∧ H0 = H) ?_ ?_
 ·refine la (v := I (0)) rfl rfl rfl ?_
  exact ⟨y0, rfl⟩
 clear y0
 rintro f1 _ ⟨y0, rfl⟩
 refine wpF_seq ?_
 refine fcr (fun f H => f 3 = B (p) ∧ H0 = H) ?_ ?_
 ·refine lm (v := B (p)) rfl rfl y0 ?_
  exact ⟨rfl, rfl⟩
 clear y0
 rintro f2 _ ⟨y3, rfl⟩
 refine wpF_cond y3 (fun hp => ?t6) (fun hp => ?e6)
 case t6 =>
  refine fcr (fun f H => f 2 = I (2) ∧ H0 = H) ?_ ?_
  ·refine la (v := I (2)) rfl rfl rfl ?_
   exact ⟨rfl, rfl⟩
  clear y3
  rintro f4 _ ⟨y2, rfl⟩
  refine wpF_ret ?_
  refine ⟨_, resT y2 resN, hS0.frame, ?_⟩
  show (I (2)) = I (wholeS (p = true))
  exact congrArg I (if_pos hp).symm
 refine wpF_skip ?_
 refine fcr (fun f H => f 2 = I (3) ∧ H0 = H) ?_ ?_
 ·refine la (v := I (3)) rfl rfl rfl ?_
  exact ⟨rfl, rfl⟩
 clear y3
 rintro f5 _ ⟨y2, rfl⟩
 refine wpF_ret ?_
 refine ⟨_, resT y2 resN, hS0.frame, ?_⟩
 show (I (3)) = I (wholeS (p = true))
 exact congrArg I (if_neg (by simpa using hp)).symm
set_option maxRecDepth 100000 in
theorem IndexFuncD {H0 : Heap} (vs vf : Value) (l : List Decl) (gp : Decl → Bool) (rs : Rd NoB H0 vs l) (hf : ∀ u x, x ∈ l → ∀ H, Ext NoB H0 H → Rd NoB H u x → FnH Try.prog vf #[u] H (fun rv H' => Ext NoB H H' ∧ rv = B (gp x))) : CallsH Try.prog 54 #[vs, vf] H0 (fun rv_ H' => Ext NoB H0 H' ∧ rv_ = I (idxOf gp l)) := by
 have hsm : l.length * 48 ≤ 140737488355328 := (Rd.list.1 rs).bound
 have hS0 : St H0 NoB NoB [rdE vs l] H0 := St.arg (St.start (fun _ h => h.elim)) (Bl0.nil) rs (fun _ h => h)
 refine callsH_of_wpF (args := [vs, vf]) (rs := [.tmp 4]) Try.func54 rfl Try.ntmps54 Try.results54 (by kernel_rfl) (Nat.le_of_ble_eq_true rfl) ?_
 have y0 : argF [vs, vf] 0 = vs := rfl
 have y1 : argF [vs, vf] 1 = vf := rfl
 generalize argF [vs, vf] = f0 at *
 refine fcr (fun f H => f 0 = vs ∧ f 1 = vf ∧ H0 = H) ?_ ?_
 ·refine la (v := I (0)) rfl rfl rfl ?_
  exact ⟨y0, y1, rfl⟩
 clear y0 y1
 rintro f1 _ ⟨y0, y1, rfl⟩
 refine wpF_seq ?_
 refine fcr (fun f H => f 0 = vs ∧ f 1 = vf ∧ f 7 = I ((l.length : Int)) ∧ f 8 = I (0) ∧ H0 = H) ?_ ?_
 ·refine lm (v := vs) rfl rfl y0 ?_
  refine lq rfl (q_lenRd rfl Try.underlying22 rfl (hS0.rdl 0 rfl)) ?_
  refine lm (v := I (0)) rfl rfl rfl ?_
  exact ⟨y0, y1, rfl, rfl, rfl⟩
 clear y0 y1
 rintro f2 _ ⟨y0, y1, y7, y8, rfl⟩
 refine wpF_block ?_
 refine wpF_loop (fun mz f H => ∃ (k : Nat), mz = l.length - k ∧ (k ≤ l.length) ∧ (∀ j, j < k → gp (nth l j) = false) ∧ f 0 = vs ∧ f 1 = vf ∧ f 7 = I ((l.length : Int)) ∧ f 8 = I ((k : Int)) ∧ St H0 NoB NoB [rdE vs l] H) (l.length - 0) ?_ ?_
 ·exact ⟨0, rfl, Nat.zero_le _, (fun j hj => absurd hj (Nat.not_lt_zero j)), y0, y1, y7, (Eq.trans y8 (congrArg I (by omega))), hS0⟩
 intro m3 f3 H3 hI3
 clear y0 y1 y7 y8
 obtain ⟨k, hm3, hk, hno, y0, y1, y7, y8, hS3⟩ := hI3
 refine fcr (fun f H => f 0 = vs ∧ f 1 = vf ∧ f 7 = I ((l.length : Int)) ∧ f 8 = I ((k : Int)) ∧ f 9 = B (decide ((k : Int) < (l.length : Int))) ∧ H3 = H) ?_ ?_
 ·refine lq rfl (q_lss rfl y8 y7) ?_
  exact ⟨y0, y1, y7, y8, rfl, rfl⟩
 clear y0 y1 y7 y8
 rintro f4 _ ⟨y0, y1, y7, y8, y9, rfl⟩
 refine wpF_seq ?_
 refine wpF_condP y9 (fun hlt => ?t18) (fun hlt => ?e18)
 case e18 =>
  refine wpF_exit ?_
  refine atX_here ?_
  refine fcr (fun f H => f 4 = I (-1) ∧ H3 = H) ?_ ?_
  ·refine la (v := I (-1)) rfl rfl rfl ?_
   exact ⟨rfl, rfl⟩
  clear y0 y1 y7 y8 y9
  rintro f17 _ ⟨y4, rfl⟩
  refine wpF_ret ?_
  refine ⟨_, resT y4 resN, hS3.frame, ?_⟩
  show (I (-1)) = I (idxOf gp l)
  exact congrArg I (idxOf_no fun j hj => hno j (by omega)).symm
 refine wpF_skip ?_
 refine wpF_seq ?_
 refine wpF_block ?_
 refine fcr (fun f H => f 0 = vs ∧ f 1 = vf ∧ f 5 = I ((k : Int)) ∧ f 7 = I ((l.length : Int)) ∧ f 8 = I ((k : Int)) ∧ H3 = H) ?_ ?_
 ·refine lm (v := I ((k : Int))) rfl rfl y8 ?_
  refine la (v := I ((k : Int))) rfl rfl rfl ?_
  exact ⟨y0, y1, rfl, y7, y8, rfl⟩
 clear y0 y1 y7 y8 y9
 rintro f6 _ ⟨y0, y1, y5, y7, y8, rfl⟩
 refine fcr (fun f H => ((nth l k).Name.size ≤ maxLen) ∧ (In64 (nth l k).Srt) ∧ f 0 = vs ∧ f 1 = vf ∧ f 5 = I ((k : Int)) ∧ f 7 = I ((l.length : Int)) ∧ f 8 = I ((k : Int)) ∧ f 16 = B (gp (nth l k)) ∧ St H0 NoB NoB [rdE vs l] H) ?_ ?_
 ·refine lm (v := vf) rfl rfl y1 ?_
  refine lm (v := vs) rfl rfl y0 ?_
  refine lm (v := I ((k : Int))) rfl rfl y5 ?_
  refine lq rfl (q_indexRd (k := k) rfl Try.underlying22 el_Decl_43_AskC1 rfl rfl (hS3.rdl 0 rfl) (by omega) (by omega)) ?_
  obtain ⟨u7, huu7, hlu7⟩ := (Rd.list.1 (hS3.rdS 0 rfl)).elem k (by omega)
  obtain ⟨u7n1, rfl, hu70, hu71, hu72⟩ := Rd.decl.1 huu7
  have hS8 := hS3.rd hu71
  refine lq rfl (q_loadE rfl rfl (hlu7 Try.prog 43 _ el_Decl_43_AskC1 (fun _ h => False.elim h))) ?_
  refine lo rfl ?_
  refine e_callF rfl rfl (arr1 (v0 := Vg #[SB ((nth l k).Name), u7n1, I ((nth l k).Srt)]) rfl) (hf _ _ (nth_mem (by omega)) _ hS8.frame (Rd.decl.2 ⟨_, rfl, (by assumption), (hS8.rdN 0 rfl), (by assumption)⟩)) ?_
  rintro _ H9 ⟨hxx, rfl⟩
  have hS10 := hS8.ext hxx
  exact ⟨hu70, hu72, y0, y1, y5, y7, y8, rfl, (hS10.drop (sn (sk (List.Sublist.slnil))))⟩
 clear y0 y1 y5 y7 y8
 rintro f12 H12 ⟨hu70, hu72, y0, y1, y5, y7, y8, y16, hS12⟩
 refine wpF_cond y16 (fun hg => ?t16) (fun hg => ?e16)
 case e16 =>
  refine wpF_skip ?_
  refine wpF_cut (fun f H => f 0 = vs ∧ f 1 = vf ∧ f 7 = I ((l.length : Int)) ∧ f 8 = I ((k : Int) + 1) ∧ H12 = H) ?_ ?_
  ·refine wpF_region ?_
   refine lq rfl (q_add rfl y8 rfl (by constructor <;> omega)) ?_
   refine lm (v := I ((k : Int) + 1)) rfl rfl rfl ?_
   exact ⟨y0, y1, y7, rfl, rfl⟩
  clear y0 y1 y16 y5 y7 y8
  rintro f15 _ ⟨y0, y1, y7, y8, rfl⟩
  refine ⟨_, ?_, k + 1, rfl, (by omega), (all_succ hno (by simpa using hg)), y0, y1, y7, (Eq.trans y8 (congrArg I (by omega))), hS12⟩
  omega
 refine fcr (fun f H => f 4 = I ((k : Int)) ∧ H12 = H) ?_ ?_
 ·refine lm (v := I ((k : Int))) rfl rfl y5 ?_
  refine la (v := I ((k : Int))) rfl rfl rfl ?_
  exact ⟨rfl, rfl⟩
 clear y0 y1 y16 y5 y7 y8
 rintro f14 _ ⟨y4, rfl⟩
 refine wpF_ret ?_
 refine ⟨_, resT y4 resN, hS12.frame, ?_⟩
 show (I ((k : Int))) = I (idxOf gp l)
 exact congrArg I (idxOf_at (by omega) hno (by simpa using hg)).symm
set_option maxRecDepth 100000 in
theorem ContainsFuncD {H0 : Heap} (vs vf : Value) (l : List Decl) (gp : Decl → Bool) (rs : Rd NoB H0 vs l) (hf : ∀ u x, x ∈ l → ∀ H, Ext NoB H0 H → Rd NoB H u x → FnH Try.prog vf #[u] H (fun rv H' => Ext NoB H H' ∧ rv = B (gp x))) : CallsH Try.prog 31 #[vs, vf] H0 (fun rv_ H' => Ext NoB H0 H' ∧ rv_ = B (l.any gp)) := by
 have hS0 : St H0 NoB NoB [rdE vs l] H0 := St.arg (St.start (fun _ h => h.elim)) (Bl0.nil) rs (fun _ h => h)
 refine callsH_of_wpF (args := [vs, vf]) (rs := [.tmp 4]) Try.func31 rfl Try.ntmps31 Try.results31 (by kernel_rfl) (Nat.le_of_ble_eq_true rfl) ?_
 have y0 : argF [vs, vf] 0 = vs := rfl
 have y1 : argF [vs, vf] 1 = vf := rfl
 generalize argF [vs, vf] = f0 at *
 refine fcr (fun f H => f 0 = vs ∧ f 1 = vf ∧ H0 = H) ?_ ?_
 ·refine la (v := B (false)) rfl rfl rfl ?_
  exact ⟨y0, y1, rfl⟩
 clear y0 y1
 rintro f1 _ ⟨y0, y1, rfl⟩
 refine fcr (fun f H => f 4 = B (decide (0 ≤ (idxOf gp l))) ∧ St H0 NoB NoB [] H) ?_ ?_
 ·refine lm (v := vs) rfl rfl y0 ?_
  refine lm (v := vf) rfl rfl y1 ?_
  refine lo rfl ?_
  refine e_call rfl Try.call54 (arr2 (v0 := vs) (v1 := vf) rfl rfl) (IndexFuncD vs vf l gp (hS0.rdN 0 rfl) (fun u x hx H hE hr => hf u x hx H (hS0.frame.trans hE) hr)) ?_
  rintro _ H2 ⟨hxx, rfl⟩
  have hS3 := hS0.ext hxx
  refine lq rfl (q_geq rfl rfl rfl) ?_
  refine la (v := B (decide (0 ≤ (idxOf gp l)))) rfl rfl rfl ?_
  exact ⟨rfl, (hS3.drop (sn (List.Sublist.slnil)))⟩
 clear y0 y1
 rintro f5 H5 ⟨y4, hS5⟩
 refine wpF_ret ?_
 refine ⟨_, resT y4 resN, hS5.frame, ?_⟩
 show (B (decide (0 ≤ (idxOf gp l)))) = B (l.any gp)
 exact congrArg B (bool_congr_of idxOf_any.symm).symm
set_option maxRecDepth 100000 in
theorem Find_1 {H0 : Heap} (vd : Value) (gx : Nat) (d : Decl) (nm : Str) (h6dName : d.Name.size ≤ maxLen) (rvd : Rd NoB H0 vd d.Args) (h6dSrt : In64 d.Srt) (hb : H0[gx]? = some (.cells #[SB nm] 9)) : CallsH Try.prog 55 #[Vg #[SB (d.Name), vd, I (d.Srt)], PT gx 0] H0 (fun rv_ H' => Ext NoB H0 H' ∧ rv_ = B (sameName nm d)) := by
 have hS0 : St H0 NoB NoB [fixE gx (.cells #[SB (nm)] 9), rdE vd d.Args] H0 := St.argFix (St.arg (St.start (fun _ h => h.elim)) (Bl0.nil) rvd (fun _ h => h)) (Bl0.cons (Bl0.nil)) hb (fun h => h)
 refine callsH_of_wpF (args := [Vg #[SB (d.Name), vd, I (d.Srt)], PT gx 0]) (rs := [.tmp 3]) Try.func55 rfl Try.ntmps55 Try.results55 (by kernel_rfl) (Nat.le_of_ble_eq_true rfl) ?_
 have y0 : argF [Vg #[SB (d.Name), vd, I (d.Srt)], PT gx 0] 0 = Vg #[SB (d.Name), vd, I (d.Srt)] := rfl
 have y1 : argF [Vg #[SB (d.Name), vd, I (d.Srt)], PT gx 0] 1 = PT gx 0 := rfl
 generalize argF [Vg #[SB (d.Name), vd, I (d.Srt)], PT gx 0] = f0 at *
 refine fcr (fun f H => ∃ (g1 : Nat), f 1 = PT gx 0 ∧ f 2 = PT g1 0 ∧ St H0 NoB NoB [bE g1 #[SB (d.Name), vd, I (d.Srt)] 43, fixE gx (.cells #[SB (nm)] 9), rdE vd d.Args] H) ?_ ?_
 ·refine lo rfl ?_
  refine e_box (v := Vg #[SB (d.Name), vd, I (d.Srt)]) rfl y0 hS0 (fun g1 H2 hS3 hxx => ?_)
  refine la (v := B (false)) rfl rfl rfl ?_
  exact ⟨g1, y1, rfl, hS3⟩
 clear y0 y1
 rintro f4 H4 ⟨g1, y1, y2, hS4⟩
 refine fcr (fun f H => f 3 = B (decide (sEq d.Name nm)) ∧ H4 = H) ?_ ?_
 ·refine lq rfl (q_fieldAddr rfl Try.underlying43 rfl Try.sizeOf9 y2) ?_
  refine lq rfl (q_loadBlk rfl rfl Try.isAgg9 (hS4.blk 0 rfl) rfl (fun h => h)) ?_
  refine lq rfl (q_loadBlk rfl y1 Try.isAgg9 (hS4.fixd 1 rfl) rfl (fun h => h)) ?_
  refine lq rfl (q_eqlS rfl rfl rfl) ?_
  refine la (v := B (decide (sEq d.Name nm))) rfl rfl rfl ?_
  exact ⟨rfl, rfl⟩
 clear y1 y2
 rintro f5 _ ⟨y3, rfl⟩
 refine wpF_ret ?_
 refine ⟨_, resT y3 resN, hS4.frame, ?_⟩
 show (B (decide (sEq d.Name nm))) = B (sameName nm d)
 rfl
set_option maxRecDepth 100000 in
theorem Find_L {H0 : Heap} (vD vN vH : Value) (a : Ask) (nm : Str) (rvD : Rd NoB H0 vD a.Decls) (rvN : Rd NoB H0 vN a.Nodes) (rvH : Rd NoB H0 vH a.Hold) : CallsH Try.prog 36 #[Vg #[vD, vN, vH], SB (nm)] H0 (fun rv_ H' => Ext NoB H0 H' ∧ rv_ = I (findD a.Decls nm)) := by
 have hS0 : St H0 NoB NoB [rdE vD a.Decls, rdE vN a.Nodes, rdE vH a.Hold] H0 := St.arg (St.arg (St.arg (St.start (fun _ h => h.elim)) (Bl0.nil) rvH (fun _ h => h)) (Bl0.cons (Bl0.nil)) rvN (fun _ h => h)) (Bl0.cons (Bl0.cons (Bl0.nil))) rvD (fun _ h => h)
 refine callsH_of_wpF (args := [Vg #[vD, vN, vH], SB (nm)]) (rs := [.tmp 4]) Try.func36 rfl Try.ntmps36 Try.results36 (by kernel_rfl) (Nat.le_of_ble_eq_true rfl) ?_
 have y0 : argF [Vg #[vD, vN, vH], SB (nm)] 0 = Vg #[vD, vN, vH] := rfl
 have y1 : argF [Vg #[vD, vN, vH], SB (nm)] 1 = SB (nm) := rfl
 generalize argF [Vg #[vD, vN, vH], SB (nm)] = f0 at *
 refine fcr (fun f H => ∃ (g1 : Nat), ∃ (g4 : Nat), f 2 = PT g1 0 ∧ f 3 = PT g4 0 ∧ St H0 NoB NoB [bE g4 #[SB (nm)] 9, bE g1 #[vD, vN, vH] 26, rdE vD a.Decls, rdE vN a.Nodes, rdE vH a.Hold] H) ?_ ?_
 ·refine lo rfl ?_
  refine e_box (v := Vg #[vD, vN, vH]) rfl y0 hS0 (fun g1 H2 hS3 hxx => ?_)
  refine lo rfl ?_
  refine e_box (v := SB (nm)) rfl y1 hS3 (fun g4 H5 hS6 hxx => ?_)
  refine la (v := I (0)) rfl rfl rfl ?_
  exact ⟨g1, g4, rfl, rfl, hS6⟩
 clear y0 y1
 rintro f7 H7 ⟨g1, g4, y2, y3, hS7⟩
 refine fcr (fun f H => f 4 = I (idxOf (sameName nm) a.Decls) ∧ St H0 NoB NoB [bE g4 #[SB (nm)] 9, bE g1 #[vD, vN, vH] 26, rdE vD a.Decls, rdE vN a.Nodes, rdE vH a.Hold] H) ?_ ?_
 ·refine lq rfl (q_fieldAddr rfl Try.underlying26 rfl Try.sizeOf22 y2) ?_
  refine lq rfl (q_loadBlk rfl rfl Try.isAgg22 (hS7.blk 1 rfl) rfl (fun h => h)) ?_
  refine lq rfl (q_makeFunc (fi' := #[]) rfl (by simp) (arr1 (v0 := PT g4 0) y3)) ?_
  refine lo rfl ?_
  refine e_call rfl Try.call54 (arr2 (v0 := vD) (v1 := Value.func (.func 55) #[] #[PT g4 0]) rfl rfl) (IndexFuncD vD (Value.func (.func 55) #[] #[PT g4 0]) a.Decls (sameName nm) (hS7.rdN 2 rfl) (fun u x hx H hE hr => by obtain ⟨_, rfl, hd1, hd2, hd3⟩ := Rd.decl.1 hr; exact ⟨_, _, rfl, Try.call55, Find_1 _ g4 x nm hd1 hd2 hd3 (hE.blk (hS7.blk 0 rfl))⟩)) ?_
  rintro _ H8 ⟨hxx, rfl⟩
  have hS9 := hS7.ext hxx
  refine la (v := I (idxOf (sameName nm) a.Decls)) rfl rfl rfl ?_
  exact ⟨rfl, hS9⟩
 clear y2 y3
 rintro f11 H11 ⟨y4, hS11⟩
 refine wpF_ret ?_
 refine ⟨_, resT y4 resN, hS11.frame, ?_⟩
 show (I (idxOf (sameName nm) a.Decls)) = I (findD a.Decls nm)
 rfl
set_option maxRecDepth 100000 in
theorem checkDecls_1 {H0 : Heap} (vx : Value) (gx : Nat) (vd : Value) (x d : Decl) (h6xName : x.Name.size ≤ maxLen) (rvx : Rd NoB H0 vx x.Args) (h6xSrt : In64 x.Srt) (hb : H0[gx]? = some (.cells #[SB d.Name, vd, I d.Srt] 43)) (hsd : d.Name.size ≤ maxLen) : CallsH Try.prog 32 #[Vg #[SB (x.Name), vx, I (x.Srt)], PT gx 0] H0 (fun rv_ H' => Ext NoB H0 H' ∧ rv_ = B (sameName d.Name x)) := by
 have hS0 : St H0 NoB NoB [fixE gx (.cells #[SB (d.Name), vd, I (d.Srt)] 43), rdE vx x.Args] H0 := St.argFix (St.arg (St.start (fun _ h => h.elim)) (Bl0.nil) rvx (fun _ h => h)) (Bl0.cons (Bl0.nil)) hb (fun h => h)
 refine callsH_of_wpF (args := [Vg #[SB (x.Name), vx, I (x.Srt)], PT gx 0]) (rs := [.tmp 3]) Try.func32 rfl Try.ntmps32 Try.results32 (by kernel_rfl) (Nat.le_of_ble_eq_true rfl) ?_
 have y0 : argF [Vg #[SB (x.Name), vx, I (x.Srt)], PT gx 0] 0 = Vg #[SB (x.Name), vx, I (x.Srt)] := rfl
 have y1 : argF [Vg #[SB (x.Name), vx, I (x.Srt)], PT gx 0] 1 = PT gx 0 := rfl
 generalize argF [Vg #[SB (x.Name), vx, I (x.Srt)], PT gx 0] = f0 at *
 refine fcr (fun f H => ∃ (g1 : Nat), f 1 = PT gx 0 ∧ f 2 = PT g1 0 ∧ St H0 NoB NoB [bE g1 #[SB (x.Name), vx, I (x.Srt)] 43, fixE gx (.cells #[SB (d.Name), vd, I (d.Srt)] 43), rdE vx x.Args] H) ?_ ?_
 ·refine lo rfl ?_
  refine e_box (v := Vg #[SB (x.Name), vx, I (x.Srt)]) rfl y0 hS0 (fun g1 H2 hS3 hxx => ?_)
  refine la (v := B (false)) rfl rfl rfl ?_
  exact ⟨g1, y1, rfl, hS3⟩
 clear y0 y1
 rintro f4 H4 ⟨g1, y1, y2, hS4⟩
 refine fcr (fun f H => f 3 = B (decide (sEq x.Name d.Name)) ∧ H4 = H) ?_ ?_
 ·refine lq rfl (q_fieldAddr rfl Try.underlying43 rfl Try.sizeOf9 y2) ?_
  refine lq rfl (q_loadBlk rfl rfl Try.isAgg9 (hS4.blk 0 rfl) rfl (fun h => h)) ?_
  refine lq rfl (q_fieldAddr rfl Try.underlying43 rfl Try.sizeOf9 y1) ?_
  refine lq rfl (q_loadBlk rfl rfl Try.isAgg9 (hS4.fixd 1 rfl) rfl (fun h => h)) ?_
  refine lq rfl (q_eqlS rfl rfl rfl) ?_
  refine la (v := B (decide (sEq x.Name d.Name))) rfl rfl rfl ?_
  exact ⟨rfl, rfl⟩
 clear y1 y2
 rintro f5 _ ⟨y3, rfl⟩
 refine wpF_ret ?_
 refine ⟨_, resT y3 resN, hS4.frame, ?_⟩
 show (B (decide (sEq x.Name d.Name))) = B (sameName d.Name x)
 rfl
set_option maxHeartbeats 1000000 in
set_option maxRecDepth 100000 in
theorem checkDecls_L {H0 : Heap} (vl : Value) (l : List Decl) (rl : Rd NoB H0 vl l) : CallsH Try.prog 20 #[vl] H0 (fun rv_ H' => Ext NoB H0 H' ∧ rv_ = Vg #[I (declsF l).1, I (declsF l).2]) := by
 have hsm : l.length * 48 ≤ 140737488355328 := (Rd.list.1 rl).bound
 have hS0 : St H0 NoB NoB [rdE vl l] H0 := St.arg (St.start (fun _ h => h.elim)) (Bl0.nil) rl (fun _ h => h)
 refine callsH_of_wpF (args := [vl]) (rs := [.cell 2 28]) Try.func20 rfl Try.ntmps20 Try.results20 (by kernel_rfl) (Nat.le_of_ble_eq_true rfl) ?_
 have y0 : argF [vl] 0 = vl := rfl
 generalize argF [vl] = f0 at *
 refine fcr (fun f H => ∃ (g1 : Nat), f 0 = vl ∧ f 2 = PT g1 0 ∧ St H0 NoB NoB [bE g1 #[I (0), I (0)] 28, rdE vl l] H) ?_ ?_
 ·refine lo rfl ?_
  refine e_alloc rfl Try.zeroValue28 hS0 (fun g1 H2 hS3 hxx => ?_)
  exact ⟨g1, y0, rfl, hS3⟩
 clear y0
 rintro f4 H4 ⟨g1, y0, y2, hS4⟩
 refine wpF_seq ?_
 refine fcr (fun f H => f 0 = vl ∧ f 2 = PT g1 0 ∧ f 8 = B (decide (30 < (l.length : Int))) ∧ H4 = H) ?_ ?_
 ·refine lm (v := vl) rfl rfl y0 ?_
  refine lq rfl (q_lenRd rfl Try.underlying22 rfl (hS4.rdl 1 rfl)) ?_
  refine lq rfl (q_gtr rfl rfl rfl) ?_
  exact ⟨y0, y2, rfl, rfl⟩
 clear y0 y2
 rintro f5 _ ⟨y0, y2, y8, rfl⟩
 refine wpF_condP y8 (fun hmany => ?t75) (fun hmany => ?e75)
 case t75 =>
  refine fcr (fun f H => f 2 = PT g1 0 ∧ St H0 NoB NoB [bE g1 #[I (2), I (0)] 28, rdE vl l] H) ?_ ?_
  ·refine lq rfl (q_build (v := Vg #[I (2), I (0)]) rfl (par1 (v0 := I (2)) rfl) (fun w__ => by kernel_rfl)) ?_
   refine lo rfl ?_
   refine e_storeBlkA (cs' := #[I (2), I (0)]) rfl y2 rfl Try.sizeOf28 rfl rfl (fa rfl (fa rfl fe)) hS4 (fun H7 hS8 hxx => ?_)
   exact ⟨y2, hS8⟩
  clear y0 y2 y8
  rintro f9 H9 ⟨y2, hS9⟩
  refine wpF_ret ?_
  refine ⟨_, resC y2 (loadV_blkA Try.isAgg28 Try.sizeOf28 rfl (hS9.blk 0 rfl)) (resN), hS9.frame, ?_⟩
  show (Vg #[I (2), I (0)]) = Vg #[I (declsF l).1, I (declsF l).2]
  have hq := declsF_many hmany
  rw [hq]
 refine wpF_skip ?_
 refine wpF_seq ?_
 refine fcr (fun f H => f 0 = vl ∧ f 2 = PT g1 0 ∧ f 10 = vl ∧ f 11 = I ((l.length : Int)) ∧ f 12 = I (0) ∧ H4 = H) ?_ ?_
 ·refine lm (v := vl) rfl rfl y0 ?_
  refine lq rfl (q_lenRd rfl Try.underlying22 rfl (hS4.rdl 1 rfl)) ?_
  refine lm (v := I (0)) rfl rfl rfl ?_
  exact ⟨y0, y2, rfl, rfl, rfl, rfl⟩
 clear y0 y2 y8
 rintro f10 _ ⟨y0, y2, y10, y11, y12, rfl⟩
 refine wpF_block ?_
 refine wpF_loop (fun mz f H => ∃ (k : Nat), mz = l.length - k ∧ (k ≤ l.length) ∧ (∀ j, j < k → codeD l j = 0) ∧ f 0 = vl ∧ f 2 = PT g1 0 ∧ f 10 = vl ∧ f 11 = I ((l.length : Int)) ∧ f 12 = I ((k : Int)) ∧ St H0 NoB NoB [bE g1 #[I (0), I (0)] 28, rdE vl l] H) (l.length - 0) ?_ ?_
 ·exact ⟨0, rfl, Nat.zero_le _, (fun j hj => absurd hj (Nat.not_lt_zero j)), y0, y2, y10, y11, (Eq.trans y12 (congrArg I (by omega))), hS4⟩
 intro m11 f11 H11 hI11
 clear y0 y10 y11 y12 y2
 obtain ⟨k, hm11, hk, hp, y0, y2, y10, y11, y12, hS11⟩ := hI11
 refine fcr (fun f H => f 0 = vl ∧ f 2 = PT g1 0 ∧ f 10 = vl ∧ f 11 = I ((l.length : Int)) ∧ f 12 = I ((k : Int)) ∧ f 13 = B (decide ((k : Int) < (l.length : Int))) ∧ H11 = H) ?_ ?_
 ·refine lq rfl (q_lss rfl y12 y11) ?_
  exact ⟨y0, y2, y10, y11, y12, rfl, rfl⟩
 clear y0 y10 y11 y12 y2
 rintro f12 _ ⟨y0, y2, y10, y11, y12, y13, rfl⟩
 refine wpF_seq ?_
 refine wpF_condP y13 (fun hlt => ?t74) (fun hlt => ?e74)
 case e74 =>
  refine wpF_exit ?_
  refine atX_here ?_
  refine fcr (fun f H => f 2 = PT g1 0 ∧ St H0 NoB NoB [bE g1 #[I (0), I (0)] 28, rdE vl l] H) ?_ ?_
  ·refine lq rfl (q_build (v := Vg #[I (0), I (0)]) rfl par0 (fun w__ => by kernel_rfl)) ?_
   refine lo rfl ?_
   refine e_storeBlkA (cs' := #[I (0), I (0)]) rfl y2 rfl Try.sizeOf28 rfl rfl (fa rfl (fa rfl fe)) hS11 (fun H71 hS72 hxx => ?_)
   exact ⟨y2, hS72⟩
  clear y0 y10 y11 y12 y13 y2
  rintro f73 H73 ⟨y2, hS73⟩
  refine wpF_ret ?_
  refine ⟨_, resC y2 (loadV_blkA Try.isAgg28 Try.sizeOf28 rfl (hS73.blk 0 rfl)) (resN), hS73.frame, ?_⟩
  show (Vg #[I (0), I (0)]) = Vg #[I (declsF l).1, I (declsF l).2]
  have hq := declsF_no hmany fun j hj => hp j (by omega)
  rw [hq]
 refine wpF_skip ?_
 refine wpF_seq ?_
 refine wpF_block ?_
 refine fcr (fun f H => ∃ (u14n1 : Value), ∃ (g16 : Nat), ((nth l k).Name.size ≤ maxLen) ∧ (In64 (nth l k).Srt) ∧ f 0 = vl ∧ f 2 = PT g1 0 ∧ f 3 = I ((k : Int)) ∧ f 4 = PT g16 0 ∧ f 10 = vl ∧ f 11 = I ((l.length : Int)) ∧ f 12 = I ((k : Int)) ∧ St H0 NoB NoB [bE g16 #[SB ((nth l k).Name), u14n1, I ((nth l k).Srt)] 43, rdE u14n1 ((nth l k).Args), bE g1 #[I (0), I (0)] 28, rdE vl l] H) ?_ ?_
 ·refine lm (v := I ((k : Int))) rfl rfl y12 ?_
  refine lq rfl (q_indexRd (k := k) rfl Try.underlying22 el_Decl_43_AskC1 y10 y12 (hS11.rdl 1 rfl) (by omega) (by omega)) ?_
  obtain ⟨u14, huu14, hlu14⟩ := (Rd.list.1 (hS11.rdS 1 rfl)).elem k (by omega)
  obtain ⟨u14n1, rfl, hu140, hu141, hu142⟩ := Rd.decl.1 huu14
  have hS15 := hS11.rd hu141
  refine lq rfl (q_loadE rfl rfl (hlu14 Try.prog 43 _ el_Decl_43_AskC1 (fun _ h => False.elim h))) ?_
  refine lo rfl ?_
  refine e_alloc rfl Try.zeroValue43 hS15 (fun g16 H17 hS18 hxx => ?_)
  refine la (v := I ((k : Int))) rfl rfl rfl ?_
  refine lo rfl ?_
  refine e_storeBlkA (cs' := #[SB ((nth l k).Name), u14n1, I ((nth l k).Srt)]) rfl rfl rfl Try.sizeOf43 rfl rfl (fa rfl (fa ((oneCell_rdL (hS18.rdl 1 rfl))) (fa rfl fe))) hS18 (fun H19 hS20 hxx => ?_)
  exact ⟨u14n1, g16, hu140, hu142, y0, y2, rfl, rfl, y10, y11, y12, hS20⟩
 clear y0 y10 y11 y12 y13 y2
 rintro f21 H21 ⟨u14n1, g16, hu140, hu142, y0, y2, y3, y4, y10, y11, y12, hS21⟩
 refine fcr (fun f H => f 0 = vl ∧ f 2 = PT g1 0 ∧ f 3 = I ((k : Int)) ∧ f 4 = PT g16 0 ∧ f 5 = I (0) ∧ f 10 = vl ∧ f 11 = I ((l.length : Int)) ∧ f 12 = I ((k : Int)) ∧ H21 = H) ?_ ?_
 ·refine la (v := I (0)) rfl rfl rfl ?_
  exact ⟨y0, y2, y3, y4, rfl, y10, y11, y12, rfl⟩
 clear y0 y10 y11 y12 y2 y3 y4
 rintro f22 _ ⟨y0, y2, y3, y4, y5, y10, y11, y12, rfl⟩
 refine sc (fun f H => f 0 = vl ∧ f 2 = PT g1 0 ∧ f 3 = I ((k : Int)) ∧ f 5 = I (codeD l k) ∧ f 10 = vl ∧ f 11 = I ((l.length : Int)) ∧ f 12 = I ((k : Int)) ∧ St H0 NoB NoB [bE g16 #[SB ((nth l k).Name), u14n1, I ((nth l k).Srt)] 43, rdE u14n1 ((nth l k).Args), bE g1 #[I (0), I (0)] 28, rdE vl l] H) ?_ ?_
 ·refine wpF_block ?_
  refine fcr (fun f H => f 0 = vl ∧ f 2 = PT g1 0 ∧ f 3 = I ((k : Int)) ∧ f 4 = PT g16 0 ∧ f 5 = I (0) ∧ f 10 = vl ∧ f 11 = I ((l.length : Int)) ∧ f 12 = I ((k : Int)) ∧ f 17 = B (decide (¬ (isName ((nth l k).Name)))) ∧ St H0 NoB NoB [bE g16 #[SB ((nth l k).Name), u14n1, I ((nth l k).Srt)] 43, rdE u14n1 ((nth l k).Args), bE g1 #[I (0), I (0)] 28, rdE vl l] H) ?_ ?_
  ·refine lq rfl (q_fieldAddr rfl Try.underlying43 rfl Try.sizeOf9 y4) ?_
   refine lq rfl (q_loadBlk rfl rfl Try.isAgg9 (hS21.blk 0 rfl) rfl (fun h => h)) ?_
   refine lo rfl ?_
   refine e_call rfl Try.call30 (arr1 (v0 := SB ((nth l k).Name)) rfl) (IsName_L ((nth l k).Name) (by first | assumption | exact Nat.zero_le _)) ?_
   rintro _ H24 ⟨hxx, rfl⟩
   have hS25 := hS21.ext hxx
   refine lq rfl (q_notP rfl rfl) ?_
   refine la (v := B (decide (¬ (isName ((nth l k).Name))))) rfl rfl rfl ?_
   exact ⟨y0, y2, y3, y4, y5, y10, y11, y12, rfl, hS25⟩
  clear y0 y10 y11 y12 y2 y3 y4 y5
  rintro f27 H27 ⟨y0, y2, y3, y4, y5, y10, y11, y12, y17, hS27⟩
  refine wpF_condP y17 (fun h1 => ?t63) (fun h1 => ?e63)
  case t63 =>
   refine wpF_cut (fun f H => f 0 = vl ∧ f 2 = PT g1 0 ∧ f 3 = I ((k : Int)) ∧ f 5 = I (12) ∧ f 10 = vl ∧ f 11 = I ((l.length : Int)) ∧ f 12 = I ((k : Int)) ∧ H27 = H) ?_ ?_
   ·refine wpF_region ?_
    refine la (v := I (12)) rfl rfl rfl ?_
    exact ⟨y0, y2, y3, rfl, y10, y11, y12, rfl⟩
   clear y0 y10 y11 y12 y17 y2 y3 y4 y5
   rintro f29 _ ⟨y0, y2, y3, y5, y10, y11, y12, rfl⟩
   exact ⟨y0, y2, y3, (Eq.trans y5 (congrArg I (by unfold codeD argsBad; first | exact (if_pos h1).symm | (rw [if_neg h1]; first | exact (if_pos h2).symm | (rw [if_neg (Bool.eq_false_iff.1 h2)]; first | exact (if_pos h3).symm | (rw [if_neg h3]; first | exact (if_pos h4).symm | (rw [if_neg h4]; first | exact (if_pos h5).symm | (rw [if_neg (Bool.eq_false_iff.1 h5)]; first | exact (if_pos h6).symm | exact (if_neg h6).symm)))))))), y10, y11, y12, hS27⟩
  refine fcr (fun f H => f 0 = vl ∧ f 2 = PT g1 0 ∧ f 3 = I ((k : Int)) ∧ f 4 = PT g16 0 ∧ f 5 = I (0) ∧ f 10 = vl ∧ f 11 = I ((l.length : Int)) ∧ f 12 = I ((k : Int)) ∧ f 22 = B ((l.take k).any (sameName (nth l k).Name)) ∧ St H0 NoB NoB [bE g16 #[SB ((nth l k).Name), u14n1, I ((nth l k).Srt)] 43, rdE u14n1 ((nth l k).Args), bE g1 #[I (0), I (0)] 28, rdE vl l] H) ?_ ?_
  ·refine lm (v := vl) rfl rfl y0 ?_
   refine lm (v := I ((k : Int))) rfl rfl y3 ?_
   have hS30 : St H0 NoB NoB [rdE (sliceV 3 vl 0 k) (l.take k : List Decl), bE g16 #[SB ((nth l k).Name), u14n1, I ((nth l k).Srt)] 43, rdE u14n1 ((nth l k).Args), bE g1 #[I (0), I (0)] 28, rdE vl l] H27 := hS27.rd (Rd.list.2 (sliceV_hi (m := k) (Rd.list.1 (hS27.rdS 3 rfl)) (by omega)))
   refine lq rfl (q_sliceRd (k := 0) (m := k) rfl Try.underlying22 el_Decl_43_AskC1 rfl (hS27.rdl 3 rfl) lo0 (lo1 rfl (by omega)) (by omega) (by omega)) ?_
   refine lq rfl (q_makeFunc (fi' := #[]) rfl (by simp) (arr1 (v0 := PT g16 0) y4)) ?_
   refine lo rfl ?_
   refine e_call rfl Try.call31 (arr2 (v0 := (sliceV 3 vl 0 k)) (v1 := Value.func (.func 32) #[] #[PT g16 0]) rfl rfl) (ContainsFuncD ((sliceV 3 vl 0 k)) (Value.func (.func 32) #[] #[PT g16 0]) (l.take k) (sameName (nth l k).Name) (hS30.rdN 0 rfl) (fun u x hx H hE hr => by obtain ⟨_, rfl, hd1, hd2, hd3⟩ := Rd.decl.1 hr; exact ⟨_, _, rfl, Try.call32, checkDecls_1 _ g16 _ x (nth l k) hd1 hd2 hd3 (hE.blk (hS30.blk 1 rfl)) (by assumption)⟩)) ?_
   rintro _ H31 ⟨hxx, rfl⟩
   have hS32 := hS30.ext hxx
   refine la (v := B ((l.take k).any (sameName (nth l k).Name))) rfl rfl rfl ?_
   exact ⟨y0, y2, y3, y4, y5, y10, y11, y12, rfl, (hS32.drop (sn (sk (sk (sk (sk (List.Sublist.slnil)))))))⟩
  clear y0 y10 y11 y12 y17 y2 y3 y4 y5
  rintro f34 H34 ⟨y0, y2, y3, y4, y5, y10, y11, y12, y22, hS34⟩
  refine wpF_cond y22 (fun h2 => ?t62) (fun h2 => ?e62)
  case t62 =>
   refine wpF_cut (fun f H => f 0 = vl ∧ f 2 = PT g1 0 ∧ f 3 = I ((k : Int)) ∧ f 5 = I (7) ∧ f 10 = vl ∧ f 11 = I ((l.length : Int)) ∧ f 12 = I ((k : Int)) ∧ H34 = H) ?_ ?_
   ·refine wpF_region ?_
    refine la (v := I (7)) rfl rfl rfl ?_
    exact ⟨y0, y2, y3, rfl, y10, y11, y12, rfl⟩
   clear y0 y10 y11 y12 y2 y22 y3 y4 y5
   rintro f36 _ ⟨y0, y2, y3, y5, y10, y11, y12, rfl⟩
   exact ⟨y0, y2, y3, (Eq.trans y5 (congrArg I (by unfold codeD argsBad; first | exact (if_pos h1).symm | (rw [if_neg h1]; first | exact (if_pos h2).symm | (rw [if_neg (Bool.eq_false_iff.1 h2)]; first | exact (if_pos h3).symm | (rw [if_neg h3]; first | exact (if_pos h4).symm | (rw [if_neg h4]; first | exact (if_pos h5).symm | (rw [if_neg (Bool.eq_false_iff.1 h5)]; first | exact (if_pos h6).symm | exact (if_neg h6).symm)))))))), y10, y11, y12, hS34⟩
  refine fcr (fun f H => f 0 = vl ∧ f 2 = PT g1 0 ∧ f 3 = I ((k : Int)) ∧ f 4 = PT g16 0 ∧ f 5 = I (0) ∧ f 10 = vl ∧ f 11 = I ((l.length : Int)) ∧ f 12 = I ((k : Int)) ∧ f 28 = B (decide (8 < (((nth l k).Args).length : Int))) ∧ H34 = H) ?_ ?_
  ·refine lq rfl (q_fieldAddr rfl Try.underlying43 rfl Try.sizeOf24 y4) ?_
   refine lq rfl (q_loadBlk rfl rfl Try.isAgg24 (hS34.blk 0 rfl) rfl (fun h => h)) ?_
   refine lq rfl (q_lenRd rfl Try.underlying24 rfl (hS34.rdl 1 rfl)) ?_
   refine lq rfl (q_gtr rfl rfl rfl) ?_
   refine la (v := B (decide (8 < (((nth l k).Args).length : Int)))) rfl rfl rfl ?_
   exact ⟨y0, y2, y3, y4, y5, y10, y11, y12, rfl, rfl⟩
  clear y0 y10 y11 y12 y2 y22 y3 y4 y5
  rintro f37 _ ⟨y0, y2, y3, y4, y5, y10, y11, y12, y28, rfl⟩
  refine wpF_condP y28 (fun h3 => ?t61) (fun h3 => ?e61)
  case t61 =>
   refine wpF_cut (fun f H => f 0 = vl ∧ f 2 = PT g1 0 ∧ f 3 = I ((k : Int)) ∧ f 5 = I (9) ∧ f 10 = vl ∧ f 11 = I ((l.length : Int)) ∧ f 12 = I ((k : Int)) ∧ H34 = H) ?_ ?_
   ·refine wpF_region ?_
    refine la (v := I (9)) rfl rfl rfl ?_
    exact ⟨y0, y2, y3, rfl, y10, y11, y12, rfl⟩
   clear y0 y10 y11 y12 y2 y28 y3 y4 y5
   rintro f39 _ ⟨y0, y2, y3, y5, y10, y11, y12, rfl⟩
   exact ⟨y0, y2, y3, (Eq.trans y5 (congrArg I (by unfold codeD argsBad; first | exact (if_pos h1).symm | (rw [if_neg h1]; first | exact (if_pos h2).symm | (rw [if_neg (Bool.eq_false_iff.1 h2)]; first | exact (if_pos h3).symm | (rw [if_neg h3]; first | exact (if_pos h4).symm | (rw [if_neg h4]; first | exact (if_pos h5).symm | (rw [if_neg (Bool.eq_false_iff.1 h5)]; first | exact (if_pos h6).symm | exact (if_neg h6).symm)))))))), y10, y11, y12, hS34⟩
  refine wpF_seq ?_
  refine fcr (fun f H => f 0 = vl ∧ f 2 = PT g1 0 ∧ f 3 = I ((k : Int)) ∧ f 4 = PT g16 0 ∧ f 5 = I (0) ∧ f 10 = vl ∧ f 11 = I ((l.length : Int)) ∧ f 12 = I ((k : Int)) ∧ f 33 = B (decide (¬ (isSortS ((nth l k).Srt)))) ∧ St H0 NoB NoB [bE g16 #[SB ((nth l k).Name), u14n1, I ((nth l k).Srt)] 43, rdE u14n1 ((nth l k).Args), bE g1 #[I (0), I (0)] 28, rdE vl l] H) ?_ ?_
  ·refine lq rfl (q_fieldAddr rfl Try.underlying43 rfl Try.sizeOf3 y4) ?_
   refine lq rfl (q_loadBlk rfl rfl Try.isAgg3 (hS34.blk 0 rfl) rfl (fun h => h)) ?_
   refine lo rfl ?_
   refine e_call rfl Try.call33 (arr1 (v0 := I ((nth l k).Srt)) rfl) (isSort_L ((nth l k).Srt)) ?_
   rintro _ H40 ⟨hxx, rfl⟩
   have hS41 := hS34.ext hxx
   refine lq rfl (q_notP rfl rfl) ?_
   refine la (v := B (decide (¬ (isSortS ((nth l k).Srt))))) rfl rfl rfl ?_
   exact ⟨y0, y2, y3, y4, y5, y10, y11, y12, rfl, hS41⟩
  clear y0 y10 y11 y12 y2 y28 y3 y4 y5
  rintro f43 H43 ⟨y0, y2, y3, y4, y5, y10, y11, y12, y33, hS43⟩
  refine wpF_condP y33 (fun h4 => ?t60) (fun h4 => ?e60)
  case t60 =>
   refine wpF_skip ?_
   refine wpF_condT (Eq.trans y33 (congrArg B (decide_eq_true h4))) ?_
   refine wpF_cut (fun f H => f 0 = vl ∧ f 2 = PT g1 0 ∧ f 3 = I ((k : Int)) ∧ f 5 = I (4) ∧ f 10 = vl ∧ f 11 = I ((l.length : Int)) ∧ f 12 = I ((k : Int)) ∧ H43 = H) ?_ ?_
   ·refine wpF_region ?_
    refine la (v := I (4)) rfl rfl rfl ?_
    exact ⟨y0, y2, y3, rfl, y10, y11, y12, rfl⟩
   clear y0 y10 y11 y12 y2 y3 y33 y4 y5
   rintro f45 _ ⟨y0, y2, y3, y5, y10, y11, y12, rfl⟩
   exact ⟨y0, y2, y3, (Eq.trans y5 (congrArg I (by unfold codeD argsBad; first | exact (if_pos h1).symm | (rw [if_neg h1]; first | exact (if_pos h2).symm | (rw [if_neg (Bool.eq_false_iff.1 h2)]; first | exact (if_pos h3).symm | (rw [if_neg h3]; first | exact (if_pos h4).symm | (rw [if_neg h4]; first | exact (if_pos h5).symm | (rw [if_neg (Bool.eq_false_iff.1 h5)]; first | exact (if_pos h6).symm | exact (if_neg h6).symm)))))))), y10, y11, y12, hS43⟩
  refine fcr (fun f H => f 0 = vl ∧ f 2 = PT g1 0 ∧ f 3 = I ((k : Int)) ∧ f 4 = PT g16 0 ∧ f 5 = I (0) ∧ f 10 = vl ∧ f 11 = I ((l.length : Int)) ∧ f 12 = I ((k : Int)) ∧ f 33 = B (((nth l k).Args).any (fun s => decide (s ≠ 4))) ∧ St H0 NoB NoB [bE g16 #[SB ((nth l k).Name), u14n1, I ((nth l k).Srt)] 43, rdE u14n1 ((nth l k).Args), bE g1 #[I (0), I (0)] 28, rdE vl l] H) ?_ ?_
  ·refine lq rfl (q_fieldAddr rfl Try.underlying43 rfl Try.sizeOf24 y4) ?_
   refine lq rfl (q_loadBlk rfl rfl Try.isAgg24 (hS43.blk 0 rfl) rfl (fun h => h)) ?_
   refine lo rfl ?_
   refine e_call rfl Try.call28 (arr2 (v0 := u14n1) (v1 := Value.func (.func 34) #[] #[]) rfl rfl) (ContainsFunc u14n1 (Value.func (.func 34) #[] #[]) ((nth l k).Args) (fun s => decide (s ≠ 4)) (hS43.rdN 1 rfl) (fun x hx H hE => ⟨_, _, rfl, Try.call34, checkDecls_2 x⟩)) ?_
   rintro _ H46 ⟨hxx, rfl⟩
   have hS47 := hS43.ext hxx
   refine la (v := B (((nth l k).Args).any (fun s => decide (s ≠ 4)))) rfl rfl rfl ?_
   exact ⟨y0, y2, y3, y4, y5, y10, y11, y12, rfl, hS47⟩
  clear y0 y10 y11 y12 y2 y3 y33 y4 y5
  rintro f49 H49 ⟨y0, y2, y3, y4, y5, y10, y11, y12, y33, hS49⟩
  refine wpF_cond y33 (fun h5 => ?t59) (fun h5 => ?e59)
  case t59 =>
   refine wpF_skip ?_
   refine wpF_condT (Eq.trans y33 (congrArg B h5)) ?_
   refine wpF_cut (fun f H => f 0 = vl ∧ f 2 = PT g1 0 ∧ f 3 = I ((k : Int)) ∧ f 5 = I (4) ∧ f 10 = vl ∧ f 11 = I ((l.length : Int)) ∧ f 12 = I ((k : Int)) ∧ H49 = H) ?_ ?_
   ·refine wpF_region ?_
    refine la (v := I (4)) rfl rfl rfl ?_
    exact ⟨y0, y2, y3, rfl, y10, y11, y12, rfl⟩
   clear y0 y10 y11 y12 y2 y3 y33 y4 y5
   rintro f51 _ ⟨y0, y2, y3, y5, y10, y11, y12, rfl⟩
   exact ⟨y0, y2, y3, (Eq.trans y5 (congrArg I (by unfold codeD argsBad; first | exact (if_pos h1).symm | (rw [if_neg h1]; first | exact (if_pos h2).symm | (rw [if_neg (Bool.eq_false_iff.1 h2)]; first | exact (if_pos h3).symm | (rw [if_neg h3]; first | exact (if_pos h4).symm | (rw [if_neg h4]; first | exact (if_pos h5).symm | (rw [if_neg (Bool.eq_false_iff.1 h5)]; first | exact (if_pos h6).symm | exact (if_neg h6).symm)))))))), y10, y11, y12, hS49⟩
  refine wpF_cut (fun f H => f 0 = vl ∧ f 2 = PT g1 0 ∧ f 3 = I ((k : Int)) ∧ f 5 = I (0) ∧ f 10 = vl ∧ f 11 = I ((l.length : Int)) ∧ f 12 = I ((k : Int)) ∧ f 33 = B (decide ((((nth l k).Srt) = 5) ∧ (0 < (((nth l k).Args).length : Int)))) ∧ H49 = H) ?_ ?_
  ·refine wpF_region ?_
   refine lq rfl (q_fieldAddr rfl Try.underlying43 rfl Try.sizeOf3 y4) ?_
   refine lq rfl (q_loadBlk rfl rfl Try.isAgg3 (hS49.blk 0 rfl) rfl (fun h => h)) ?_
   refine lq rfl (q_eql rfl rfl rfl) ?_
   refine lm (v := B (decide (((nth l k).Srt) = 5))) rfl rfl rfl ?_
   by_cases hg52 : ((nth l k).Srt) = 5
   ·have hb53 := Eq.trans rfl (congrArg B (decide_eq_true hg52))
    refine gq rfl rfl rfl hb53 (q_fieldAddr rfl Try.underlying43 rfl Try.sizeOf24 y4) ?_
    refine gq rfl rfl rfl hb53 (q_loadBlk rfl rfl Try.isAgg24 (hS49.blk 0 rfl) rfl (fun h => h)) ?_
    refine gq rfl rfl rfl hb53 (q_lenRd rfl Try.underlying24 rfl (hS49.rdl 1 rfl)) ?_
    refine gq rfl rfl rfl hb53 (q_gtr rfl rfl rfl) ?_
    refine lq rfl (q_pickT (v := B (decide (0 < (((nth l k).Args).length : Int)))) rfl hb53 rfl) ?_
    refine la (v := B (decide (0 < (((nth l k).Args).length : Int)))) rfl rfl rfl ?_
    exact ⟨y0, y2, y3, y5, y10, y11, y12, (Eq.trans rfl (congrArg B (decide_congr_of ((Iff.rfl).trans (((and_iff_right hg52).trans Iff.rfl)).symm)))), rfl⟩
   ·have hb54 := Eq.trans rfl (congrArg B (decide_eq_false hg52))
    refine wpL_gs rfl rfl rfl hb54 rfl ?_
    refine wpL_gs rfl rfl rfl hb54 rfl ?_
    refine wpL_gs rfl rfl rfl hb54 rfl ?_
    refine wpL_gs rfl rfl rfl hb54 rfl ?_
    refine lq rfl (q_pickF (v := B (false)) rfl hb54 rfl) ?_
    refine la (v := B (false)) rfl rfl rfl ?_
    exact ⟨y0, y2, y3, y5, y10, y11, y12, (Eq.trans rfl (congrArg B ((decide_eq_false (fun h => hg52 h.1)).symm))), rfl⟩
  clear y0 y10 y11 y12 y2 y3 y33 y4 y5
  rintro f55 _ ⟨y0, y2, y3, y5, y10, y11, y12, y33, rfl⟩
  refine wpF_condP y33 (fun h6 => ?t58) (fun h6 => ?e58)
  case e58 =>
   refine wpF_skip ?_
   exact ⟨y0, y2, y3, (Eq.trans y5 (congrArg I (by unfold codeD argsBad; first | exact (if_pos h1).symm | (rw [if_neg h1]; first | exact (if_pos h2).symm | (rw [if_neg (Bool.eq_false_iff.1 h2)]; first | exact (if_pos h3).symm | (rw [if_neg h3]; first | exact (if_pos h4).symm | (rw [if_neg h4]; first | exact (if_pos h5).symm | (rw [if_neg (Bool.eq_false_iff.1 h5)]; first | exact (if_pos h6).symm | exact (if_neg h6).symm)))))))), y10, y11, y12, hS49⟩
  refine wpF_cut (fun f H => f 0 = vl ∧ f 2 = PT g1 0 ∧ f 3 = I ((k : Int)) ∧ f 5 = I (4) ∧ f 10 = vl ∧ f 11 = I ((l.length : Int)) ∧ f 12 = I ((k : Int)) ∧ H49 = H) ?_ ?_
  ·refine wpF_region ?_
   refine la (v := I (4)) rfl rfl rfl ?_
   exact ⟨y0, y2, y3, rfl, y10, y11, y12, rfl⟩
  clear y0 y10 y11 y12 y2 y3 y33 y5
  rintro f57 _ ⟨y0, y2, y3, y5, y10, y11, y12, rfl⟩
  exact ⟨y0, y2, y3, (Eq.trans y5 (congrArg I (by unfold codeD argsBad; first | exact (if_pos h1).symm | (rw [if_neg h1]; first | exact (if_pos h2).symm | (rw [if_neg (Bool.eq_false_iff.1 h2)]; first | exact (if_pos h3).symm | (rw [if_neg h3]; first | exact (if_pos h4).symm | (rw [if_neg h4]; first | exact (if_pos h5).symm | (rw [if_neg (Bool.eq_false_iff.1 h5)]; first | exact (if_pos h6).symm | exact (if_neg h6).symm)))))))), y10, y11, y12, hS49⟩
 clear y0 y10 y11 y12 y2 y3 y4 y5
 rintro f23 H23 ⟨y0, y2, y3, y5, y10, y11, y12, hS23⟩
 refine fcr (fun f H => f 0 = vl ∧ f 2 = PT g1 0 ∧ f 3 = I ((k : Int)) ∧ f 5 = I (codeD l k) ∧ f 10 = vl ∧ f 11 = I ((l.length : Int)) ∧ f 12 = I ((k : Int)) ∧ f 51 = B (decide ((codeD l k) ≠ 0)) ∧ H23 = H) ?_ ?_
 ·refine lm (v := I (codeD l k)) rfl rfl y5 ?_
  refine lq rfl (q_neq rfl rfl rfl) ?_
  exact ⟨y0, y2, y3, y5, y10, y11, y12, rfl, rfl⟩
 clear y0 y10 y11 y12 y2 y3 y5
 rintro f64 _ ⟨y0, y2, y3, y5, y10, y11, y12, y51, rfl⟩
 refine wpF_condP y51 (fun hne => ?t70) (fun hne => ?e70)
 case e70 =>
  refine wpF_skip ?_
  refine wpF_cut (fun f H => f 0 = vl ∧ f 2 = PT g1 0 ∧ f 10 = vl ∧ f 11 = I ((l.length : Int)) ∧ f 12 = I ((k : Int) + 1) ∧ H23 = H) ?_ ?_
  ·refine wpF_region ?_
   refine lq rfl (q_add rfl y12 rfl (by constructor <;> omega)) ?_
   refine lm (v := I ((k : Int) + 1)) rfl rfl rfl ?_
   exact ⟨y0, y2, y10, y11, rfl, rfl⟩
  clear y0 y10 y11 y12 y2 y3 y5 y51
  rintro f69 _ ⟨y0, y2, y10, y11, y12, rfl⟩
  refine ⟨_, ?_, k + 1, rfl, (by omega), (all_succ hp (Decidable.of_not_not hne)), y0, y2, y10, y11, (Eq.trans y12 (congrArg I (by omega))), (hS23.drop (sn (sn (sk (sk (List.Sublist.slnil))))))⟩
  omega
 refine fcr (fun f H => f 2 = PT g1 0 ∧ St H0 NoB NoB [bE g1 #[I (codeD l k), I ((k : Int))] 28, bE g16 #[SB ((nth l k).Name), u14n1, I ((nth l k).Srt)] 43, rdE u14n1 ((nth l k).Args), rdE vl l] H) ?_ ?_
 ·refine lm (v := I (codeD l k)) rfl rfl y5 ?_
  refine lm (v := I ((k : Int))) rfl rfl y3 ?_
  refine lq rfl (q_build (v := Vg #[I (codeD l k), I ((k : Int))]) rfl (par2 (v0 := I (codeD l k)) (v1 := I ((k : Int))) rfl rfl) (fun w__ => by kernel_rfl)) ?_
  refine lo rfl ?_
  refine e_storeBlkA (cs' := #[I (codeD l k), I ((k : Int))]) rfl y2 rfl Try.sizeOf28 rfl rfl (fa rfl (fa rfl fe)) (hS23.front 2 rfl) (fun H66 hS67 hxx => ?_)
  exact ⟨y2, hS67⟩
 clear y0 y10 y11 y12 y2 y3 y5 y51
 rintro f68 H68 ⟨y2, hS68⟩
 refine wpF_ret ?_
 refine ⟨_, resC y2 (loadV_blkA Try.isAgg28 Try.sizeOf28 rfl (hS68.blk 0 rfl)) (resN), hS68.frame, ?_⟩
 show (Vg #[I (codeD l k), I ((k : Int))]) = Vg #[I (declsF l).1, I (declsF l).2]
 have hq := declsF_at hmany (by omega) hp rfl hne
 rw [hq]
set_option maxRecDepth 100000 in
theorem Kids_L {H0 : Heap} (op : Int)  : CallsH Try.prog 35 #[I (op)] H0 (fun rv_ H' => Ext NoB H0 H' ∧ rv_ = I (kidsN op)) := by
 have hS0 : St H0 NoB NoB [] H0 := St.start (fun _ h => h.elim)
 refine callsH_of_wpF (args := [I (op)]) (rs := [.tmp 2]) Try.func35 rfl Try.ntmps35 Try.results35 (by kernel_rfl) (Nat.le_of_ble_eq_true rfl) ?_
 have y0 : argF [I (op)] 0 = I (op) := rfl
 generalize argF [I (op)] = f0 at *
 refine fcr (fun f H => f 0 = I (op) ∧ H0 = H) ?_ ?_
 ·refine la (v := I (0)) rfl rfl rfl ?_
  exact ⟨y0, rfl⟩
 clear y0
 rintro f1 _ ⟨y0, rfl⟩
 refine wpF_seq ?_
 refine fcr (fun f H => f 3 = I (op) ∧ H0 = H) ?_ ?_
 ·refine lm (v := I (op)) rfl rfl y0 ?_
  exact ⟨rfl, rfl⟩
 clear y0
 rintro f2 _ ⟨y3, rfl⟩
 refine wpF_block ?_
 refine wpF_seq ?_
 refine fcr (fun f H => f 3 = I (op) ∧ f 4 = B (decide (op = 1)) ∧ H0 = H) ?_ ?_
 ·refine lq rfl (q_eql rfl y3 rfl) ?_
  refine la (v := B (decide (op = 1))) rfl rfl rfl ?_
  exact ⟨y3, rfl, rfl⟩
 clear y3
 rintro f3 _ ⟨y3, y4, rfl⟩
 refine wpF_condP y4 (fun hp4 => ?t55) (fun hp4 => ?e55)
 case t55 =>
  refine wpF_skip ?_
  refine wpF_condT (Eq.trans y4 (congrArg B (decide_eq_true hp4))) ?_
  refine fcr (fun f H => f 2 = I (0) ∧ H0 = H) ?_ ?_
  ·refine la (v := I (0)) rfl rfl rfl ?_
   exact ⟨rfl, rfl⟩
  clear y3 y4
  rintro f5 _ ⟨y2, rfl⟩
  refine wpF_ret ?_
  refine ⟨_, resT y2 resN, hS0.frame, ?_⟩
  show (I (0)) = I (kidsN op)
  exact congrArg I (by rw [kidsN, hp4]; rfl)
 refine fcr (fun f H => f 3 = I (op) ∧ f 4 = B (decide (op = 2)) ∧ H0 = H) ?_ ?_
 ·refine lq rfl (q_eql rfl y3 rfl) ?_
  refine la (v := B (decide (op = 2))) rfl rfl rfl ?_
  exact ⟨y3, rfl, rfl⟩
 clear y3 y4
 rintro f6 _ ⟨y3, y4, rfl⟩
 refine wpF_condP y4 (fun hp7 => ?t54) (fun hp7 => ?e54)
 case t54 =>
  refine wpF_skip ?_
  refine wpF_condT (Eq.trans y4 (congrArg B (decide_eq_true hp7))) ?_
  refine fcr (fun f H => f 2 = I (0) ∧ H0 = H) ?_ ?_
  ·refine la (v := I (0)) rfl rfl rfl ?_
   exact ⟨rfl, rfl⟩
  clear y3 y4
  rintro f8 _ ⟨y2, rfl⟩
  refine wpF_ret ?_
  refine ⟨_, resT y2 resN, hS0.frame, ?_⟩
  show (I (0)) = I (kidsN op)
  exact congrArg I (by rw [kidsN, hp7]; rfl)
 refine fcr (fun f H => f 3 = I (op) ∧ f 4 = B (decide (op = 10)) ∧ H0 = H) ?_ ?_
 ·refine lq rfl (q_eql rfl y3 rfl) ?_
  refine la (v := B (decide (op = 10))) rfl rfl rfl ?_
  exact ⟨y3, rfl, rfl⟩
 clear y3 y4
 rintro f9 _ ⟨y3, y4, rfl⟩
 refine wpF_condP y4 (fun hp10 => ?t53) (fun hp10 => ?e53)
 case t53 =>
  refine wpF_skip ?_
  refine wpF_condT (Eq.trans y4 (congrArg B (decide_eq_true hp10))) ?_
  refine fcr (fun f H => f 2 = I (0) ∧ H0 = H) ?_ ?_
  ·refine la (v := I (0)) rfl rfl rfl ?_
   exact ⟨rfl, rfl⟩
  clear y3 y4
  rintro f11 _ ⟨y2, rfl⟩
  refine wpF_ret ?_
  refine ⟨_, resT y2 resN, hS0.frame, ?_⟩
  show (I (0)) = I (kidsN op)
  exact congrArg I (by rw [kidsN, hp10]; rfl)
 refine wpF_cut (fun f H => f 3 = I (op) ∧ f 4 = B (decide (op = 15)) ∧ H0 = H) ?_ ?_
 ·refine wpF_region ?_
  refine lq rfl (q_eql rfl y3 rfl) ?_
  refine la (v := B (decide (op = 15))) rfl rfl rfl ?_
  exact ⟨y3, rfl, rfl⟩
 clear y3 y4
 rintro f12 _ ⟨y3, y4, rfl⟩
 refine wpF_condP y4 (fun hp13 => ?t52) (fun hp13 => ?e52)
 case t52 =>
  refine fcr (fun f H => f 2 = I (0) ∧ H0 = H) ?_ ?_
  ·refine la (v := I (0)) rfl rfl rfl ?_
   exact ⟨rfl, rfl⟩
  clear y3 y4
  rintro f14 _ ⟨y2, rfl⟩
  refine wpF_ret ?_
  refine ⟨_, resT y2 resN, hS0.frame, ?_⟩
  show (I (0)) = I (kidsN op)
  exact congrArg I (by rw [kidsN, hp13]; rfl)
 refine wpF_seq ?_
 refine fcr (fun f H => f 3 = I (op) ∧ f 9 = B (decide (op = 3)) ∧ H0 = H) ?_ ?_
 ·refine lq rfl (q_eql rfl y3 rfl) ?_
  refine la (v := B (decide (op = 3))) rfl rfl rfl ?_
  exact ⟨y3, rfl, rfl⟩
 clear y3 y4
 rintro f15 _ ⟨y3, y9, rfl⟩
 refine wpF_condP y9 (fun hp16 => ?t51) (fun hp16 => ?e51)
 case t51 =>
  refine wpF_skip ?_
  refine wpF_condT (Eq.trans y9 (congrArg B (decide_eq_true hp16))) ?_
  refine fcr (fun f H => f 2 = I (1) ∧ H0 = H) ?_ ?_
  ·refine la (v := I (1)) rfl rfl rfl ?_
   exact ⟨rfl, rfl⟩
  clear y3 y9
  rintro f17 _ ⟨y2, rfl⟩
  refine wpF_ret ?_
  refine ⟨_, resT y2 resN, hS0.frame, ?_⟩
  show (I (1)) = I (kidsN op)
  exact congrArg I (by rw [kidsN, hp16]; rfl)
 refine fcr (fun f H => f 3 = I (op) ∧ f 9 = B (decide (op = 12)) ∧ H0 = H) ?_ ?_
 ·refine lq rfl (q_eql rfl y3 rfl) ?_
  refine la (v := B (decide (op = 12))) rfl rfl rfl ?_
  exact ⟨y3, rfl, rfl⟩
 clear y3 y9
 rintro f18 _ ⟨y3, y9, rfl⟩
 refine wpF_condP y9 (fun hp19 => ?t50) (fun hp19 => ?e50)
 case t50 =>
  refine wpF_skip ?_
  refine wpF_condT (Eq.trans y9 (congrArg B (decide_eq_true hp19))) ?_
  refine fcr (fun f H => f 2 = I (1) ∧ H0 = H) ?_ ?_
  ·refine la (v := I (1)) rfl rfl rfl ?_
   exact ⟨rfl, rfl⟩
  clear y3 y9
  rintro f20 _ ⟨y2, rfl⟩
  refine wpF_ret ?_
  refine ⟨_, resT y2 resN, hS0.frame, ?_⟩
  show (I (1)) = I (kidsN op)
  exact congrArg I (by rw [kidsN, hp19]; rfl)
 refine fcr (fun f H => f 3 = I (op) ∧ f 9 = B (decide (op = 16)) ∧ H0 = H) ?_ ?_
 ·refine lq rfl (q_eql rfl y3 rfl) ?_
  refine la (v := B (decide (op = 16))) rfl rfl rfl ?_
  exact ⟨y3, rfl, rfl⟩
 clear y3 y9
 rintro f21 _ ⟨y3, y9, rfl⟩
 refine wpF_condP y9 (fun hp22 => ?t49) (fun hp22 => ?e49)
 case t49 =>
  refine wpF_skip ?_
  refine wpF_condT (Eq.trans y9 (congrArg B (decide_eq_true hp22))) ?_
  refine fcr (fun f H => f 2 = I (1) ∧ H0 = H) ?_ ?_
  ·refine la (v := I (1)) rfl rfl rfl ?_
   exact ⟨rfl, rfl⟩
  clear y3 y9
  rintro f23 _ ⟨y2, rfl⟩
  refine wpF_ret ?_
  refine ⟨_, resT y2 resN, hS0.frame, ?_⟩
  show (I (1)) = I (kidsN op)
  exact congrArg I (by rw [kidsN, hp22]; rfl)
 refine wpF_cut (fun f H => f 3 = I (op) ∧ f 9 = B (decide (op = 23)) ∧ H0 = H) ?_ ?_
 ·refine wpF_region ?_
  refine lq rfl (q_eql rfl y3 rfl) ?_
  refine la (v := B (decide (op = 23))) rfl rfl rfl ?_
  exact ⟨y3, rfl, rfl⟩
 clear y3 y9
 rintro f24 _ ⟨y3, y9, rfl⟩
 refine wpF_condP y9 (fun hp25 => ?t48) (fun hp25 => ?e48)
 case t48 =>
  refine fcr (fun f H => f 2 = I (1) ∧ H0 = H) ?_ ?_
  ·refine la (v := I (1)) rfl rfl rfl ?_
   exact ⟨rfl, rfl⟩
  clear y3 y9
  rintro f26 _ ⟨y2, rfl⟩
  refine wpF_ret ?_
  refine ⟨_, resT y2 resN, hS0.frame, ?_⟩
  show (I (1)) = I (kidsN op)
  exact congrArg I (by rw [kidsN, hp25]; rfl)
 refine wpF_seq ?_
 refine fcr (fun f H => f 3 = I (op) ∧ f 14 = B (decide (op = 7)) ∧ H0 = H) ?_ ?_
 ·refine lq rfl (q_eql rfl y3 rfl) ?_
  refine la (v := B (decide (op = 7))) rfl rfl rfl ?_
  exact ⟨y3, rfl, rfl⟩
 clear y3 y9
 rintro f27 _ ⟨y3, y14, rfl⟩
 refine wpF_condP y14 (fun hp28 => ?t47) (fun hp28 => ?e47)
 case t47 =>
  refine wpF_skip ?_
  refine wpF_condT (Eq.trans y14 (congrArg B (decide_eq_true hp28))) ?_
  refine fcr (fun f H => f 2 = I (3) ∧ H0 = H) ?_ ?_
  ·refine la (v := I (3)) rfl rfl rfl ?_
   exact ⟨rfl, rfl⟩
  clear y14 y3
  rintro f29 _ ⟨y2, rfl⟩
  refine wpF_ret ?_
  refine ⟨_, resT y2 resN, hS0.frame, ?_⟩
  show (I (3)) = I (kidsN op)
  exact congrArg I (by rw [kidsN, hp28]; rfl)
 refine wpF_cut (fun f H => f 3 = I (op) ∧ f 14 = B (decide (op = 25)) ∧ H0 = H) ?_ ?_
 ·refine wpF_region ?_
  refine lq rfl (q_eql rfl y3 rfl) ?_
  refine la (v := B (decide (op = 25))) rfl rfl rfl ?_
  exact ⟨y3, rfl, rfl⟩
 clear y14 y3
 rintro f30 _ ⟨y3, y14, rfl⟩
 refine wpF_condP y14 (fun hp31 => ?t46) (fun hp31 => ?e46)
 case t46 =>
  refine fcr (fun f H => f 2 = I (3) ∧ H0 = H) ?_ ?_
  ·refine la (v := I (3)) rfl rfl rfl ?_
   exact ⟨rfl, rfl⟩
  clear y14 y3
  rintro f32 _ ⟨y2, rfl⟩
  refine wpF_ret ?_
  refine ⟨_, resT y2 resN, hS0.frame, ?_⟩
  show (I (3)) = I (kidsN op)
  exact congrArg I (by rw [kidsN, hp31]; rfl)
 refine wpF_seq ?_
 refine fcr (fun f H => f 3 = I (op) ∧ f 17 = B (decide (op = 4)) ∧ H0 = H) ?_ ?_
 ·refine lq rfl (q_eql rfl y3 rfl) ?_
  refine la (v := B (decide (op = 4))) rfl rfl rfl ?_
  exact ⟨y3, rfl, rfl⟩
 clear y14 y3
 rintro f33 _ ⟨y3, y17, rfl⟩
 refine wpF_condP y17 (fun hp34 => ?t45) (fun hp34 => ?e45)
 case t45 =>
  refine wpF_skip ?_
  refine wpF_condT (Eq.trans y17 (congrArg B (decide_eq_true hp34))) ?_
  refine fcr (fun f H => f 2 = I (-1) ∧ H0 = H) ?_ ?_
  ·refine la (v := I (-1)) rfl rfl rfl ?_
   exact ⟨rfl, rfl⟩
  clear y17 y3
  rintro f35 _ ⟨y2, rfl⟩
  refine wpF_ret ?_
  refine ⟨_, resT y2 resN, hS0.frame, ?_⟩
  show (I (-1)) = I (kidsN op)
  exact congrArg I (by rw [kidsN, hp34]; rfl)
 refine fcr (fun f H => f 3 = I (op) ∧ f 17 = B (decide (op = 5)) ∧ H0 = H) ?_ ?_
 ·refine lq rfl (q_eql rfl y3 rfl) ?_
  refine la (v := B (decide (op = 5))) rfl rfl rfl ?_
  exact ⟨y3, rfl, rfl⟩
 clear y17 y3
 rintro f36 _ ⟨y3, y17, rfl⟩
 refine wpF_condP y17 (fun hp37 => ?t44) (fun hp37 => ?e44)
 case t44 =>
  refine wpF_skip ?_
  refine wpF_condT (Eq.trans y17 (congrArg B (decide_eq_true hp37))) ?_
  refine fcr (fun f H => f 2 = I (-1) ∧ H0 = H) ?_ ?_
  ·refine la (v := I (-1)) rfl rfl rfl ?_
   exact ⟨rfl, rfl⟩
  clear y17 y3
  rintro f38 _ ⟨y2, rfl⟩
  refine wpF_ret ?_
  refine ⟨_, resT y2 resN, hS0.frame, ?_⟩
  show (I (-1)) = I (kidsN op)
  exact congrArg I (by rw [kidsN, hp37]; rfl)
 refine wpF_cut (fun f H => f 17 = B (decide (op = 11)) ∧ H0 = H) ?_ ?_
 ·refine wpF_region ?_
  refine lq rfl (q_eql rfl y3 rfl) ?_
  refine la (v := B (decide (op = 11))) rfl rfl rfl ?_
  exact ⟨rfl, rfl⟩
 clear y17 y3
 rintro f39 _ ⟨y17, rfl⟩
 refine wpF_condP y17 (fun hp40 => ?t43) (fun hp40 => ?e43)
 case t43 =>
  refine fcr (fun f H => f 2 = I (-1) ∧ H0 = H) ?_ ?_
  ·refine la (v := I (-1)) rfl rfl rfl ?_
   exact ⟨rfl, rfl⟩
  clear y17
  rintro f41 _ ⟨y2, rfl⟩
  refine wpF_ret ?_
  refine ⟨_, resT y2 resN, hS0.frame, ?_⟩
  show (I (-1)) = I (kidsN op)
  exact congrArg I (by rw [kidsN, hp40]; rfl)
 refine wpF_skip ?_
 refine fcr (fun f H => f 2 = I (2) ∧ H0 = H) ?_ ?_
 ·refine la (v := I (2)) rfl rfl rfl ?_
  exact ⟨rfl, rfl⟩
 clear y17
 rintro f42 _ ⟨y2, rfl⟩
 refine wpF_ret ?_
 refine ⟨_, resT y2 resN, hS0.frame, ?_⟩
 show (I (2)) = I (kidsN op)
 exact congrArg I (by rw [kidsN, if_neg hp4, if_neg hp7, if_neg hp10, if_neg hp13, if_neg hp16, if_neg hp19, if_neg hp22, if_neg hp25, if_neg hp28, if_neg hp31, if_neg hp34, if_neg hp37, if_neg hp40])
set_option maxRecDepth 100000 in
theorem gcd_L {H0 : Heap} (a b : Int) (ha : -1000000 ≤ a ∧ a ≤ 1000000) (hb : -1000000 ≤ b ∧ b ≤ 1000000) : CallsH Try.prog 56 #[I (a), I (b)] H0 (fun rv_ H' => Ext NoB H0 H' ∧ rv_ = I (gcdT a b)) := by
 have hS0 : St H0 NoB NoB [] H0 := St.start (fun _ h => h.elim)
 refine callsH_of_wpF (args := [I (a), I (b)]) (rs := [.tmp 4]) Try.func56 rfl Try.ntmps56 Try.results56 (by kernel_rfl) (Nat.le_of_ble_eq_true rfl) ?_
 have y0 : argF [I (a), I (b)] 0 = I (a) := rfl
 have y1 : argF [I (a), I (b)] 1 = I (b) := rfl
 generalize argF [I (a), I (b)] = f0 at *
 refine fcr (fun f H => f 0 = I (a) ∧ f 1 = I (b) ∧ H0 = H) ?_ ?_
 ·refine la (v := I (0)) rfl rfl rfl ?_
  exact ⟨y0, y1, rfl⟩
 clear y0 y1
 rintro f1 _ ⟨y0, y1, rfl⟩
 refine wpF_seq ?_
 refine wpF_block ?_
 refine wpF_loop (fun mz f H => ∃ (x : Int), ∃ (y : Int), mz = y.natAbs ∧ (-1000000 ≤ x ∧ x ≤ 1000000) ∧ (-1000000 ≤ y ∧ y ≤ 1000000) ∧ (gcdT a b = gcdT x y) ∧ f 0 = I (x) ∧ f 1 = I (y) ∧ H0 = H) (b.natAbs) ?_ ?_
 ·exact ⟨a, b, rfl, ha, hb, rfl, y0, y1, rfl⟩
 intro m2 f2 H2 hI2
 clear y0 y1
 obtain ⟨x, y, hm2, hx, hy, hg, y0, y1, rfl⟩ := hI2
 refine wpF_seq ?_
 refine fcr (fun f H => f 0 = I (x) ∧ f 1 = I (y) ∧ f 6 = B (decide (y ≠ 0)) ∧ H0 = H) ?_ ?_
 ·refine lm (v := I (y)) rfl rfl y1 ?_
  refine lq rfl (q_neq rfl rfl rfl) ?_
  exact ⟨y0, y1, rfl, rfl⟩
 clear y0 y1
 rintro f3 _ ⟨y0, y1, y6, rfl⟩
 refine wpF_condP y6 (fun hz => ?t8) (fun hz => ?e8)
 case t8 =>
  refine wpF_skip ?_
  refine wpF_block ?_
  refine wpF_cut (fun f H => f 0 = I (y) ∧ f 1 = I (x.tmod y) ∧ H0 = H) ?_ ?_
  ·refine wpF_drawn [] [] (fun _ _ => False) (by kernel_rfl) (by kernel_rfl) ?_
   refine rq 0 (by kernel_rfl) rfl rfl (q_move (v := I (y)) rfl y1) ?_
   refine rq 1 (by kernel_rfl) rfl rfl (q_move (v := I (x)) rfl y0) ?_
   refine rq 2 (by kernel_rfl) rfl rfl (q_move (v := I (y)) rfl y1) ?_
   refine rq 3 (by kernel_rfl) rfl rfl (q_remZ rfl rfl rfl hz hx) ?_
   refine rq 4 (by kernel_rfl) rfl rfl (q_assign (v := I (y)) rfl rfl) ?_
   refine rq 5 (by kernel_rfl) rfl rfl (q_assign (v := I (x.tmod y)) rfl rfl) ?_
   refine wpR_end (by kernel_rfl) ?_
   exact ⟨rfl, rfl, rfl⟩
  clear y0 y1 y6
  rintro f6 _ ⟨y0, y1, rfl⟩
  refine ⟨_, ?_, y, x.tmod y, rfl, hy, (tmodR hx), (hg.trans (gcdT_step hz)), y0, (Eq.trans y1 (congrArg I (by omega))), rfl⟩
  have h__ := tmodL (a := x) hz; omega
 refine wpF_exit ?_
 refine atX_here ?_
 refine fcr (fun f H => f 4 = I (max x (-x)) ∧ H0 = H) ?_ ?_
 ·refine lm (v := I (x)) rfl rfl y0 ?_
  refine lm (v := I (x)) rfl rfl y0 ?_
  refine lq rfl (q_neg rfl rfl (by constructor <;> omega)) ?_
  refine lq rfl (q_max rfl rfl rfl) ?_
  refine la (v := I (max x (-x))) rfl rfl rfl ?_
  exact ⟨rfl, rfl⟩
 clear y0 y1 y6
 rintro f7 _ ⟨y4, rfl⟩
 refine wpF_ret ?_
 refine ⟨_, resT y4 resN, hS0.frame, ?_⟩
 show (I (max x (-x))) = I (gcdT a b)
 exact congrArg I (hg.trans (gcdT_zero (Decidable.of_not_not hz))).symm
set_option maxRecDepth 100000 in
theorem formed_L {H0 : Heap} (vk : Value) (n : Node) (h6nOp : In64 n.Op) (rvk : Rd NoB H0 vk n.Kids) (h6nN : In64 n.N) (h6nD : In64 n.D) (h6nName : n.Name.size ≤ maxLen) : CallsH Try.prog 37 #[Vg #[I (n.Op), vk, I (n.N), I (n.D), SB (n.Name)]] H0 (fun rv_ H' => Ext NoB H0 H' ∧ rv_ = B (decide (formedN n))) := by
 have hS0 : St H0 NoB NoB [rdE vk n.Kids] H0 := St.arg (St.start (fun _ h => h.elim)) (Bl0.nil) rvk (fun _ h => h)
 refine callsH_of_wpF (args := [Vg #[I (n.Op), vk, I (n.N), I (n.D), SB (n.Name)]]) (rs := [.tmp 2]) Try.func37 rfl Try.ntmps37 Try.results37 (by kernel_rfl) (Nat.le_of_ble_eq_true rfl) ?_
 have y0 : argF [Vg #[I (n.Op), vk, I (n.N), I (n.D), SB (n.Name)]] 0 = Vg #[I (n.Op), vk, I (n.N), I (n.D), SB (n.Name)] := rfl
 generalize argF [Vg #[I (n.Op), vk, I (n.N), I (n.D), SB (n.Name)]] = f0 at *
 refine fcr (fun f H => ∃ (g1 : Nat), f 1 = PT g1 0 ∧ St H0 NoB NoB [bE g1 #[I (n.Op), vk, I (n.N), I (n.D), SB (n.Name)] 37, rdE vk n.Kids] H) ?_ ?_
 ·refine lo rfl ?_
  refine e_box (v := Vg #[I (n.Op), vk, I (n.N), I (n.D), SB (n.Name)]) rfl y0 hS0 (fun g1 H2 hS3 hxx => ?_)
  refine la (v := B (false)) rfl rfl rfl ?_
  exact ⟨g1, rfl, hS3⟩
 clear y0
 rintro f4 H4 ⟨g1, y1, hS4⟩
 refine fcr (fun f H => f 1 = PT g1 0 ∧ f 3 = B (decide (((n.Op = 10) ∨ (n.Op = 12)) ∨ (n.Op = 15))) ∧ H4 = H) ?_ ?_
 ·refine lq rfl (q_fieldAddr rfl Try.underlying37 rfl Try.sizeOf3 y1) ?_
  refine lq rfl (q_loadBlk rfl rfl Try.isAgg3 (hS4.blk 0 rfl) rfl (fun h => h)) ?_
  refine lq rfl (q_eql rfl rfl rfl) ?_
  refine lm (v := B (decide (n.Op = 10))) rfl rfl rfl ?_
  by_cases hg5 : n.Op = 10
  ·have hb6 := Eq.trans rfl (congrArg B (decide_eq_true hg5))
   refine wpL_gs rfl rfl rfl hb6 rfl ?_
   refine wpL_gs rfl rfl rfl hb6 rfl ?_
   refine wpL_gs rfl rfl rfl hb6 rfl ?_
   refine lq rfl (q_pickT (v := B (true)) rfl hb6 rfl) ?_
   refine lm (v := B (true)) rfl rfl rfl ?_
   refine wpL_gs rfl rfl rfl rfl rfl ?_
   refine wpL_gs rfl rfl rfl rfl rfl ?_
   refine wpL_gs rfl rfl rfl rfl rfl ?_
   refine lq rfl (q_pickT (v := B (true)) rfl rfl rfl) ?_
   refine la (v := B (true)) rfl rfl rfl ?_
   exact ⟨y1, (Eq.trans rfl (congrArg B ((decide_eq_true (Or.inl (Or.inl hg5))).symm))), rfl⟩
  ·have hb7 := Eq.trans rfl (congrArg B (decide_eq_false hg5))
   refine gq rfl rfl rfl hb7 (q_fieldAddr rfl Try.underlying37 rfl Try.sizeOf3 y1) ?_
   refine gq rfl rfl rfl hb7 (q_loadBlk rfl rfl Try.isAgg3 (hS4.blk 0 rfl) rfl (fun h => h)) ?_
   refine gq rfl rfl rfl hb7 (q_eql rfl rfl rfl) ?_
   refine lq rfl (q_pickF (v := B (decide (n.Op = 12))) rfl hb7 rfl) ?_
   refine lm (v := B (decide (n.Op = 12))) rfl rfl rfl ?_
   by_cases hg8 : n.Op = 12
   ·have hb9 := Eq.trans rfl (congrArg B (decide_eq_true hg8))
    refine wpL_gs rfl rfl rfl hb9 rfl ?_
    refine wpL_gs rfl rfl rfl hb9 rfl ?_
    refine wpL_gs rfl rfl rfl hb9 rfl ?_
    refine lq rfl (q_pickT (v := B (true)) rfl hb9 rfl) ?_
    refine la (v := B (true)) rfl rfl rfl ?_
    exact ⟨y1, (Eq.trans rfl (congrArg B ((decide_eq_true (Or.inl (Or.inr hg8))).symm))), rfl⟩
   ·have hb10 := Eq.trans rfl (congrArg B (decide_eq_false hg8))
    refine gq rfl rfl rfl hb10 (q_fieldAddr rfl Try.underlying37 rfl Try.sizeOf3 y1) ?_
    refine gq rfl rfl rfl hb10 (q_loadBlk rfl rfl Try.isAgg3 (hS4.blk 0 rfl) rfl (fun h => h)) ?_
    refine gq rfl rfl rfl hb10 (q_eql rfl rfl rfl) ?_
    refine lq rfl (q_pickF (v := B (decide (n.Op = 15))) rfl hb10 rfl) ?_
    refine la (v := B (decide (n.Op = 15))) rfl rfl rfl ?_
    exact ⟨y1, (Eq.trans rfl (congrArg B (decide_congr_of ((Iff.rfl).trans (((or_iff_right (not_or.2 ⟨hg5, hg8⟩)).trans Iff.rfl)).symm)))), rfl⟩
 clear y1
 rintro f11 _ ⟨y1, y3, rfl⟩
 refine fcr (fun f H => f 2 = B (decide ((((sEq n.Name (ByteArray.mk #[])) ∨ (n.Op = 9)) ∧ (((n.N = 0) ∨ (((n.Op = 10) ∨ (n.Op = 12)) ∨ (n.Op = 15))) ∨ (n.Op = 23))) ∧ ((n.D = 0) ∨ (((n.Op = 10) ∨ (n.Op = 12)) ∨ (n.Op = 15))))) ∧ H4 = H) ?_ ?_
 ·refine lq rfl (q_fieldAddr rfl Try.underlying37 rfl Try.sizeOf9 y1) ?_
  refine lq rfl (q_loadBlk rfl rfl Try.isAgg9 (hS4.blk 0 rfl) rfl (fun h => h)) ?_
  refine lq rfl (q_eqlS rfl rfl rfl) ?_
  refine lm (v := B (decide (sEq n.Name (ByteArray.mk #[])))) rfl rfl rfl ?_
  by_cases hg12 : sEq n.Name (ByteArray.mk #[])
  ·have hb13 := Eq.trans rfl (congrArg B (decide_eq_true hg12))
   refine wpL_gs rfl rfl rfl hb13 rfl ?_
   refine wpL_gs rfl rfl rfl hb13 rfl ?_
   refine wpL_gs rfl rfl rfl hb13 rfl ?_
   refine lq rfl (q_pickT (v := B (true)) rfl hb13 rfl) ?_
   refine lm (v := B (true)) rfl rfl rfl ?_
   refine gq rfl rfl rfl rfl (q_fieldAddr rfl Try.underlying37 rfl Try.sizeOf3 y1) ?_
   refine gq rfl rfl rfl rfl (q_loadBlk rfl rfl Try.isAgg3 (hS4.blk 0 rfl) rfl (fun h => h)) ?_
   refine gq rfl rfl rfl rfl (q_eql rfl rfl rfl) ?_
   refine gq rfl rfl rfl rfl (q_move (v := B (decide (n.N = 0))) rfl rfl) ?_
   by_cases hg15 : n.N = 0
   ·have hb16 := Eq.trans rfl (congrArg B (decide_eq_true hg15))
    refine wpL_gs rfl rfl rfl hb16 rfl ?_
    refine gq rfl rfl rfl rfl (q_pickT (v := B (true)) rfl hb16 rfl) ?_
    refine gq rfl rfl rfl rfl (q_move (v := B (true)) rfl rfl) ?_
    refine wpL_gs rfl rfl rfl rfl rfl ?_
    refine wpL_gs rfl rfl rfl rfl rfl ?_
    refine wpL_gs rfl rfl rfl rfl rfl ?_
    refine gq rfl rfl rfl rfl (q_pickT (v := B (true)) rfl rfl rfl) ?_
    refine lq rfl (q_pickT (v := B (true)) rfl rfl rfl) ?_
    refine lm (v := B (true)) rfl rfl rfl ?_
    refine gq rfl rfl rfl rfl (q_fieldAddr rfl Try.underlying37 rfl Try.sizeOf3 y1) ?_
    refine gq rfl rfl rfl rfl (q_loadBlk rfl rfl Try.isAgg3 (hS4.blk 0 rfl) rfl (fun h => h)) ?_
    refine gq rfl rfl rfl rfl (q_eql rfl rfl rfl) ?_
    refine gq rfl rfl rfl rfl (q_move (v := B (decide (n.D = 0))) rfl rfl) ?_
    by_cases hg18 : n.D = 0
    ·have hb19 := Eq.trans rfl (congrArg B (decide_eq_true hg18))
     refine wpL_gs rfl rfl rfl hb19 rfl ?_
     refine gq rfl rfl rfl rfl (q_pickT (v := B (true)) rfl hb19 rfl) ?_
     refine lq rfl (q_pickT (v := B (true)) rfl rfl rfl) ?_
     refine la (v := B (true)) rfl rfl rfl ?_
     exact ⟨(Eq.trans rfl (congrArg B ((decide_eq_true ⟨⟨(Or.inl hg12), (Or.inl (Or.inl hg15))⟩, (Or.inl hg18)⟩).symm))), rfl⟩
    ·have hb20 := Eq.trans rfl (congrArg B (decide_eq_false hg18))
     refine gq rfl rfl rfl hb20 (q_move (v := B (decide (((n.Op = 10) ∨ (n.Op = 12)) ∨ (n.Op = 15)))) rfl y3) ?_
     refine gq rfl rfl rfl rfl (q_pickF (v := B (decide (((n.Op = 10) ∨ (n.Op = 12)) ∨ (n.Op = 15)))) rfl hb20 rfl) ?_
     refine lq rfl (q_pickT (v := B (decide (((n.Op = 10) ∨ (n.Op = 12)) ∨ (n.Op = 15)))) rfl rfl rfl) ?_
     refine la (v := B (decide (((n.Op = 10) ∨ (n.Op = 12)) ∨ (n.Op = 15)))) rfl rfl rfl ?_
     exact ⟨(Eq.trans rfl (congrArg B (decide_congr_of ((Iff.rfl).trans (((and_iff_right ⟨(Or.inl hg12), (Or.inl (Or.inl hg15))⟩).trans ((or_iff_right hg18).trans Iff.rfl))).symm)))), rfl⟩
   ·have hb17 := Eq.trans rfl (congrArg B (decide_eq_false hg15))
    refine gq rfl rfl rfl hb17 (q_move (v := B (decide (((n.Op = 10) ∨ (n.Op = 12)) ∨ (n.Op = 15)))) rfl y3) ?_
    refine gq rfl rfl rfl rfl (q_pickF (v := B (decide (((n.Op = 10) ∨ (n.Op = 12)) ∨ (n.Op = 15)))) rfl hb17 rfl) ?_
    refine gq rfl rfl rfl rfl (q_move (v := B (decide (((n.Op = 10) ∨ (n.Op = 12)) ∨ (n.Op = 15)))) rfl rfl) ?_
    by_cases hg21 : ((n.Op = 10) ∨ (n.Op = 12)) ∨ (n.Op = 15)
    ·have hb22 := Eq.trans rfl (congrArg B (decide_eq_true hg21))
     refine wpL_gs rfl rfl rfl hb22 rfl ?_
     refine wpL_gs rfl rfl rfl hb22 rfl ?_
     refine wpL_gs rfl rfl rfl hb22 rfl ?_
     refine gq rfl rfl rfl rfl (q_pickT (v := B (true)) rfl hb22 rfl) ?_
     refine lq rfl (q_pickT (v := B (true)) rfl rfl rfl) ?_
     refine lm (v := B (true)) rfl rfl rfl ?_
     refine gq rfl rfl rfl rfl (q_fieldAddr rfl Try.underlying37 rfl Try.sizeOf3 y1) ?_
     refine gq rfl rfl rfl rfl (q_loadBlk rfl rfl Try.isAgg3 (hS4.blk 0 rfl) rfl (fun h => h)) ?_
     refine gq rfl rfl rfl rfl (q_eql rfl rfl rfl) ?_
     refine gq rfl rfl rfl rfl (q_move (v := B (decide (n.D = 0))) rfl rfl) ?_
     by_cases hg24 : n.D = 0
     ·have hb25 := Eq.trans rfl (congrArg B (decide_eq_true hg24))
      refine wpL_gs rfl rfl rfl hb25 rfl ?_
      refine gq rfl rfl rfl rfl (q_pickT (v := B (true)) rfl hb25 rfl) ?_
      refine lq rfl (q_pickT (v := B (true)) rfl rfl rfl) ?_
      refine la (v := B (true)) rfl rfl rfl ?_
      exact ⟨(Eq.trans rfl (congrArg B ((decide_eq_true ⟨⟨(Or.inl hg12), (Or.inl (Or.inr hg21))⟩, (Or.inl hg24)⟩).symm))), rfl⟩
     ·have hb26 := Eq.trans rfl (congrArg B (decide_eq_false hg24))
      refine gq rfl rfl rfl hb26 (q_move (v := B (decide (((n.Op = 10) ∨ (n.Op = 12)) ∨ (n.Op = 15)))) rfl y3) ?_
      refine gq rfl rfl rfl rfl (q_pickF (v := B (decide (((n.Op = 10) ∨ (n.Op = 12)) ∨ (n.Op = 15)))) rfl hb26 rfl) ?_
      refine lq rfl (q_pickT (v := B (decide (((n.Op = 10) ∨ (n.Op = 12)) ∨ (n.Op = 15)))) rfl rfl rfl) ?_
      refine la (v := B (decide (((n.Op = 10) ∨ (n.Op = 12)) ∨ (n.Op = 15)))) rfl rfl rfl ?_
      exact ⟨(Eq.trans rfl (congrArg B ((decide_eq_true hg21).trans (decide_eq_true ⟨⟨(Or.inl hg12), (Or.inl (Or.inr hg21))⟩, (Or.inr hg21)⟩).symm))), rfl⟩
    ·have hb23 := Eq.trans rfl (congrArg B (decide_eq_false hg21))
     refine gq rfl rfl rfl hb23 (q_fieldAddr rfl Try.underlying37 rfl Try.sizeOf3 y1) ?_
     refine gq rfl rfl rfl hb23 (q_loadBlk rfl rfl Try.isAgg3 (hS4.blk 0 rfl) rfl (fun h => h)) ?_
     refine gq rfl rfl rfl hb23 (q_eql rfl rfl rfl) ?_
     refine gq rfl rfl rfl rfl (q_pickF (v := B (decide (n.Op = 23))) rfl hb23 rfl) ?_
     refine lq rfl (q_pickT (v := B (decide (n.Op = 23))) rfl rfl rfl) ?_
     refine lm (v := B (decide (n.Op = 23))) rfl rfl rfl ?_
     by_cases hg27 : n.Op = 23
     ·have hb28 := Eq.trans rfl (congrArg B (decide_eq_true hg27))
      refine gq rfl rfl rfl hb28 (q_fieldAddr rfl Try.underlying37 rfl Try.sizeOf3 y1) ?_
      refine gq rfl rfl rfl hb28 (q_loadBlk rfl rfl Try.isAgg3 (hS4.blk 0 rfl) rfl (fun h => h)) ?_
      refine gq rfl rfl rfl hb28 (q_eql rfl rfl rfl) ?_
      refine gq rfl rfl rfl hb28 (q_move (v := B (decide (n.D = 0))) rfl rfl) ?_
      by_cases hg30 : n.D = 0
      ·have hb31 := Eq.trans rfl (congrArg B (decide_eq_true hg30))
       refine wpL_gs rfl rfl rfl hb31 rfl ?_
       refine gq rfl rfl rfl hb28 (q_pickT (v := B (true)) rfl hb31 rfl) ?_
       refine lq rfl (q_pickT (v := B (true)) rfl hb28 rfl) ?_
       refine la (v := B (true)) rfl rfl rfl ?_
       exact ⟨(Eq.trans rfl (congrArg B ((decide_eq_true ⟨⟨(Or.inl hg12), (Or.inr hg27)⟩, (Or.inl hg30)⟩).symm))), rfl⟩
      ·have hb32 := Eq.trans rfl (congrArg B (decide_eq_false hg30))
       refine gq rfl rfl rfl hb32 (q_move (v := B (decide (((n.Op = 10) ∨ (n.Op = 12)) ∨ (n.Op = 15)))) rfl y3) ?_
       refine gq rfl rfl rfl hb28 (q_pickF (v := B (decide (((n.Op = 10) ∨ (n.Op = 12)) ∨ (n.Op = 15)))) rfl hb32 rfl) ?_
       refine lq rfl (q_pickT (v := B (decide (((n.Op = 10) ∨ (n.Op = 12)) ∨ (n.Op = 15)))) rfl hb28 rfl) ?_
       refine la (v := B (decide (((n.Op = 10) ∨ (n.Op = 12)) ∨ (n.Op = 15)))) rfl rfl rfl ?_
       exact ⟨(Eq.trans rfl (congrArg B ((decide_eq_false hg21).trans (decide_eq_false (fun h => (not_or.2 ⟨hg30, hg21⟩) h.2)).symm))), rfl⟩
     ·have hb29 := Eq.trans rfl (congrArg B (decide_eq_false hg27))
      refine wpL_gs rfl rfl rfl hb29 rfl ?_
      refine wpL_gs rfl rfl rfl hb29 rfl ?_
      refine wpL_gs rfl rfl rfl hb29 rfl ?_
      refine wpL_gs rfl rfl rfl hb29 rfl ?_
      refine wpL_gs' rfl rfl rfl rfl ?_
      refine wpL_gs rfl rfl rfl hb29 rfl ?_
      refine lq rfl (q_pickF (v := B (false)) rfl hb29 rfl) ?_
      refine la (v := B (false)) rfl rfl rfl ?_
      exact ⟨(Eq.trans rfl (congrArg B ((decide_eq_false (fun h => (fun h => (not_or.2 ⟨(not_or.2 ⟨hg15, hg21⟩), hg27⟩) h.2) h.1)).symm))), rfl⟩
  ·have hb14 := Eq.trans rfl (congrArg B (decide_eq_false hg12))
   refine gq rfl rfl rfl hb14 (q_fieldAddr rfl Try.underlying37 rfl Try.sizeOf3 y1) ?_
   refine gq rfl rfl rfl hb14 (q_loadBlk rfl rfl Try.isAgg3 (hS4.blk 0 rfl) rfl (fun h => h)) ?_
   refine gq rfl rfl rfl hb14 (q_eql rfl rfl rfl) ?_
   refine lq rfl (q_pickF (v := B (decide (n.Op = 9))) rfl hb14 rfl) ?_
   refine lm (v := B (decide (n.Op = 9))) rfl rfl rfl ?_
   by_cases hg33 : n.Op = 9
   ·have hb34 := Eq.trans rfl (congrArg B (decide_eq_true hg33))
    refine gq rfl rfl rfl hb34 (q_fieldAddr rfl Try.underlying37 rfl Try.sizeOf3 y1) ?_
    refine gq rfl rfl rfl hb34 (q_loadBlk rfl rfl Try.isAgg3 (hS4.blk 0 rfl) rfl (fun h => h)) ?_
    refine gq rfl rfl rfl hb34 (q_eql rfl rfl rfl) ?_
    refine gq rfl rfl rfl hb34 (q_move (v := B (decide (n.N = 0))) rfl rfl) ?_
    by_cases hg36 : n.N = 0
    ·have hb37 := Eq.trans rfl (congrArg B (decide_eq_true hg36))
     refine wpL_gs rfl rfl rfl hb37 rfl ?_
     refine gq rfl rfl rfl hb34 (q_pickT (v := B (true)) rfl hb37 rfl) ?_
     refine gq rfl rfl rfl hb34 (q_move (v := B (true)) rfl rfl) ?_
     refine wpL_gs rfl rfl rfl rfl rfl ?_
     refine wpL_gs rfl rfl rfl rfl rfl ?_
     refine wpL_gs rfl rfl rfl rfl rfl ?_
     refine gq rfl rfl rfl hb34 (q_pickT (v := B (true)) rfl rfl rfl) ?_
     refine lq rfl (q_pickT (v := B (true)) rfl hb34 rfl) ?_
     refine lm (v := B (true)) rfl rfl rfl ?_
     refine gq rfl rfl rfl rfl (q_fieldAddr rfl Try.underlying37 rfl Try.sizeOf3 y1) ?_
     refine gq rfl rfl rfl rfl (q_loadBlk rfl rfl Try.isAgg3 (hS4.blk 0 rfl) rfl (fun h => h)) ?_
     refine gq rfl rfl rfl rfl (q_eql rfl rfl rfl) ?_
     refine gq rfl rfl rfl rfl (q_move (v := B (decide (n.D = 0))) rfl rfl) ?_
     by_cases hg39 : n.D = 0
     ·have hb40 := Eq.trans rfl (congrArg B (decide_eq_true hg39))
      refine wpL_gs rfl rfl rfl hb40 rfl ?_
      refine gq rfl rfl rfl rfl (q_pickT (v := B (true)) rfl hb40 rfl) ?_
      refine lq rfl (q_pickT (v := B (true)) rfl rfl rfl) ?_
      refine la (v := B (true)) rfl rfl rfl ?_
      exact ⟨(Eq.trans rfl (congrArg B ((decide_eq_true ⟨⟨(Or.inr hg33), (Or.inl (Or.inl hg36))⟩, (Or.inl hg39)⟩).symm))), rfl⟩
     ·have hb41 := Eq.trans rfl (congrArg B (decide_eq_false hg39))
      refine gq rfl rfl rfl hb41 (q_move (v := B (decide (((n.Op = 10) ∨ (n.Op = 12)) ∨ (n.Op = 15)))) rfl y3) ?_
      refine gq rfl rfl rfl rfl (q_pickF (v := B (decide (((n.Op = 10) ∨ (n.Op = 12)) ∨ (n.Op = 15)))) rfl hb41 rfl) ?_
      refine lq rfl (q_pickT (v := B (decide (((n.Op = 10) ∨ (n.Op = 12)) ∨ (n.Op = 15)))) rfl rfl rfl) ?_
      refine la (v := B (decide (((n.Op = 10) ∨ (n.Op = 12)) ∨ (n.Op = 15)))) rfl rfl rfl ?_
      exact ⟨(Eq.trans rfl (congrArg B (decide_congr_of ((Iff.rfl).trans (((and_iff_right ⟨(Or.inr hg33), (Or.inl (Or.inl hg36))⟩).trans ((or_iff_right hg39).trans Iff.rfl))).symm)))), rfl⟩
    ·have hb38 := Eq.trans rfl (congrArg B (decide_eq_false hg36))
     refine gq rfl rfl rfl hb38 (q_move (v := B (decide (((n.Op = 10) ∨ (n.Op = 12)) ∨ (n.Op = 15)))) rfl y3) ?_
     refine gq rfl rfl rfl hb34 (q_pickF (v := B (decide (((n.Op = 10) ∨ (n.Op = 12)) ∨ (n.Op = 15)))) rfl hb38 rfl) ?_
     refine gq rfl rfl rfl hb34 (q_move (v := B (decide (((n.Op = 10) ∨ (n.Op = 12)) ∨ (n.Op = 15)))) rfl rfl) ?_
     by_cases hg42 : ((n.Op = 10) ∨ (n.Op = 12)) ∨ (n.Op = 15)
     ·have hb43 := Eq.trans rfl (congrArg B (decide_eq_true hg42))
      refine wpL_gs rfl rfl rfl hb43 rfl ?_
      refine wpL_gs rfl rfl rfl hb43 rfl ?_
      refine wpL_gs rfl rfl rfl hb43 rfl ?_
      refine gq rfl rfl rfl hb34 (q_pickT (v := B (true)) rfl hb43 rfl) ?_
      refine lq rfl (q_pickT (v := B (true)) rfl hb34 rfl) ?_
      refine lm (v := B (true)) rfl rfl rfl ?_
      refine gq rfl rfl rfl rfl (q_fieldAddr rfl Try.underlying37 rfl Try.sizeOf3 y1) ?_
      refine gq rfl rfl rfl rfl (q_loadBlk rfl rfl Try.isAgg3 (hS4.blk 0 rfl) rfl (fun h => h)) ?_
      refine gq rfl rfl rfl rfl (q_eql rfl rfl rfl) ?_
      refine gq rfl rfl rfl rfl (q_move (v := B (decide (n.D = 0))) rfl rfl) ?_
      by_cases hg45 : n.D = 0
      ·have hb46 := Eq.trans rfl (congrArg B (decide_eq_true hg45))
       refine wpL_gs rfl rfl rfl hb46 rfl ?_
       refine gq rfl rfl rfl rfl (q_pickT (v := B (true)) rfl hb46 rfl) ?_
       refine lq rfl (q_pickT (v := B (true)) rfl rfl rfl) ?_
       refine la (v := B (true)) rfl rfl rfl ?_
       exact ⟨(Eq.trans rfl (congrArg B ((decide_eq_true ⟨⟨(Or.inr hg33), (Or.inl (Or.inr hg42))⟩, (Or.inl hg45)⟩).symm))), rfl⟩
      ·have hb47 := Eq.trans rfl (congrArg B (decide_eq_false hg45))
       refine gq rfl rfl rfl hb47 (q_move (v := B (decide (((n.Op = 10) ∨ (n.Op = 12)) ∨ (n.Op = 15)))) rfl y3) ?_
       refine gq rfl rfl rfl rfl (q_pickF (v := B (decide (((n.Op = 10) ∨ (n.Op = 12)) ∨ (n.Op = 15)))) rfl hb47 rfl) ?_
       refine lq rfl (q_pickT (v := B (decide (((n.Op = 10) ∨ (n.Op = 12)) ∨ (n.Op = 15)))) rfl rfl rfl) ?_
       refine la (v := B (decide (((n.Op = 10) ∨ (n.Op = 12)) ∨ (n.Op = 15)))) rfl rfl rfl ?_
       exact ⟨(Eq.trans rfl (congrArg B ((decide_eq_true hg42).trans (decide_eq_true ⟨⟨(Or.inr hg33), (Or.inl (Or.inr hg42))⟩, (Or.inr hg42)⟩).symm))), rfl⟩
     ·have hb44 := Eq.trans rfl (congrArg B (decide_eq_false hg42))
      refine gq rfl rfl rfl hb44 (q_fieldAddr rfl Try.underlying37 rfl Try.sizeOf3 y1) ?_
      refine gq rfl rfl rfl hb44 (q_loadBlk rfl rfl Try.isAgg3 (hS4.blk 0 rfl) rfl (fun h => h)) ?_
      refine gq rfl rfl rfl hb44 (q_eql rfl rfl rfl) ?_
      refine gq rfl rfl rfl hb34 (q_pickF (v := B (decide (n.Op = 23))) rfl hb44 rfl) ?_
      refine lq rfl (q_pickT (v := B (decide (n.Op = 23))) rfl hb34 rfl) ?_
      refine lm (v := B (decide (n.Op = 23))) rfl rfl rfl ?_
      by_cases hg48 : n.Op = 23
      ·have hb49 := Eq.trans rfl (congrArg B (decide_eq_true hg48))
       refine gq rfl rfl rfl hb49 (q_fieldAddr rfl Try.underlying37 rfl Try.sizeOf3 y1) ?_
       refine gq rfl rfl rfl hb49 (q_loadBlk rfl rfl Try.isAgg3 (hS4.blk 0 rfl) rfl (fun h => h)) ?_
       refine gq rfl rfl rfl hb49 (q_eql rfl rfl rfl) ?_
       refine gq rfl rfl rfl hb49 (q_move (v := B (decide (n.D = 0))) rfl rfl) ?_
       by_cases hg51 : n.D = 0
       ·have hb52 := Eq.trans rfl (congrArg B (decide_eq_true hg51))
        refine wpL_gs rfl rfl rfl hb52 rfl ?_
        refine gq rfl rfl rfl hb49 (q_pickT (v := B (true)) rfl hb52 rfl) ?_
        refine lq rfl (q_pickT (v := B (true)) rfl hb49 rfl) ?_
        refine la (v := B (true)) rfl rfl rfl ?_
        exact ⟨(Eq.trans rfl (congrArg B ((decide_eq_true ⟨⟨(Or.inr hg33), (Or.inr hg48)⟩, (Or.inl hg51)⟩).symm))), rfl⟩
       ·have hb53 := Eq.trans rfl (congrArg B (decide_eq_false hg51))
        refine gq rfl rfl rfl hb53 (q_move (v := B (decide (((n.Op = 10) ∨ (n.Op = 12)) ∨ (n.Op = 15)))) rfl y3) ?_
        refine gq rfl rfl rfl hb49 (q_pickF (v := B (decide (((n.Op = 10) ∨ (n.Op = 12)) ∨ (n.Op = 15)))) rfl hb53 rfl) ?_
        refine lq rfl (q_pickT (v := B (decide (((n.Op = 10) ∨ (n.Op = 12)) ∨ (n.Op = 15)))) rfl hb49 rfl) ?_
        refine la (v := B (decide (((n.Op = 10) ∨ (n.Op = 12)) ∨ (n.Op = 15)))) rfl rfl rfl ?_
        exact ⟨(Eq.trans rfl (congrArg B ((decide_eq_false hg42).trans (decide_eq_false (fun h => (not_or.2 ⟨hg51, hg42⟩) h.2)).symm))), rfl⟩
      ·have hb50 := Eq.trans rfl (congrArg B (decide_eq_false hg48))
       refine wpL_gs rfl rfl rfl hb50 rfl ?_
       refine wpL_gs rfl rfl rfl hb50 rfl ?_
       refine wpL_gs rfl rfl rfl hb50 rfl ?_
       refine wpL_gs rfl rfl rfl hb50 rfl ?_
       refine wpL_gs' rfl rfl rfl rfl ?_
       refine wpL_gs rfl rfl rfl hb50 rfl ?_
       refine lq rfl (q_pickF (v := B (false)) rfl hb50 rfl) ?_
       refine la (v := B (false)) rfl rfl rfl ?_
       exact ⟨(Eq.trans rfl (congrArg B ((decide_eq_false (fun h => (fun h => (not_or.2 ⟨(not_or.2 ⟨hg36, hg42⟩), hg48⟩) h.2) h.1)).symm))), rfl⟩
   ·have hb35 := Eq.trans rfl (congrArg B (decide_eq_false hg33))
    refine wpL_gs rfl rfl rfl hb35 rfl ?_
    refine wpL_gs rfl rfl rfl hb35 rfl ?_
    refine wpL_gs rfl rfl rfl hb35 rfl ?_
    refine wpL_gs rfl rfl rfl hb35 rfl ?_
    refine wpL_gs' rfl rfl rfl rfl ?_
    refine wpL_gs rfl rfl rfl hb35 rfl ?_
    refine wpL_gs rfl rfl rfl hb35 rfl ?_
    refine wpL_gs' rfl rfl rfl rfl ?_
    refine wpL_gs' rfl rfl rfl rfl ?_
    refine wpL_gs' rfl rfl rfl rfl ?_
    refine wpL_gs rfl rfl rfl hb35 rfl ?_
    refine lq rfl (q_pickF (v := B (false)) rfl hb35 rfl) ?_
    refine lm (v := B (false)) rfl rfl rfl ?_
    refine wpL_gs rfl rfl rfl rfl rfl ?_
    refine wpL_gs rfl rfl rfl rfl rfl ?_
    refine wpL_gs rfl rfl rfl rfl rfl ?_
    refine wpL_gs rfl rfl rfl rfl rfl ?_
    refine wpL_gs' rfl rfl rfl rfl ?_
    refine wpL_gs rfl rfl rfl rfl rfl ?_
    refine lq rfl (q_pickF (v := B (false)) rfl rfl rfl) ?_
    refine la (v := B (false)) rfl rfl rfl ?_
    exact ⟨(Eq.trans rfl (congrArg B ((decide_eq_false (fun h => (fun h => (not_or.2 ⟨hg12, hg33⟩) h.1) h.1)).symm))), rfl⟩
 clear y1 y3
 rintro f54 _ ⟨y2, rfl⟩
 refine wpF_ret ?_
 refine ⟨_, resT y2 resN, hS4.frame, ?_⟩
 show (B (decide ((((sEq n.Name (ByteArray.mk #[])) ∨ (n.Op = 9)) ∧ (((n.N = 0) ∨ (((n.Op = 10) ∨ (n.Op = 12)) ∨ (n.Op = 15))) ∨ (n.Op = 23))) ∧ ((n.D = 0) ∨ (((n.Op = 10) ∨ (n.Op = 12)) ∨ (n.Op = 15)))))) = B (decide (formedN n))
 rfl
set_option maxHeartbeats 1000000 in
set_option maxRecDepth 100000 in
theorem numbers_L {H0 : Heap} (vk : Value) (n : Node) (h6nOp : In64 n.Op) (rvk : Rd NoB H0 vk n.Kids) (h6nN : In64 n.N) (h6nD : In64 n.D) (h6nName : n.Name.size ≤ maxLen) : CallsH Try.prog 38 #[Vg #[I (n.Op), vk, I (n.N), I (n.D), SB (n.Name)]] H0 (fun rv_ H' => Ext NoB H0 H' ∧ rv_ = B (numsB n)) := by
 have hS0 : St H0 NoB NoB [rdE vk n.Kids] H0 := St.arg (St.start (fun _ h => h.elim)) (Bl0.nil) rvk (fun _ h => h)
 refine callsH_of_wpF (args := [Vg #[I (n.Op), vk, I (n.N), I (n.D), SB (n.Name)]]) (rs := [.tmp 2]) Try.func38 rfl Try.ntmps38 Try.results38 (by kernel_rfl) (Nat.le_of_ble_eq_true rfl) ?_
 have y0 : argF [Vg #[I (n.Op), vk, I (n.N), I (n.D), SB (n.Name)]] 0 = Vg #[I (n.Op), vk, I (n.N), I (n.D), SB (n.Name)] := rfl
 generalize argF [Vg #[I (n.Op), vk, I (n.N), I (n.D), SB (n.Name)]] = f0 at *
 refine fcr (fun f H => ∃ (g1 : Nat), f 1 = PT g1 0 ∧ St H0 NoB NoB [bE g1 #[I (n.Op), vk, I (n.N), I (n.D), SB (n.Name)] 37, rdE vk n.Kids] H) ?_ ?_
 ·refine lo rfl ?_
  refine e_box (v := Vg #[I (n.Op), vk, I (n.N), I (n.D), SB (n.Name)]) rfl y0 hS0 (fun g1 H2 hS3 hxx => ?_)
  refine la (v := B (false)) rfl rfl rfl ?_
  exact ⟨g1, rfl, hS3⟩
 clear y0
 rintro f4 H4 ⟨g1, y1, hS4⟩
 refine wpF_seq ?_
 refine fcr (fun f H => f 1 = PT g1 0 ∧ f 4 = I (n.Op) ∧ H4 = H) ?_ ?_
 ·refine lq rfl (q_fieldAddr rfl Try.underlying37 rfl Try.sizeOf3 y1) ?_
  refine lq rfl (q_loadBlk rfl rfl Try.isAgg3 (hS4.blk 0 rfl) rfl (fun h => h)) ?_
  exact ⟨y1, rfl, rfl⟩
 clear y1
 rintro f5 _ ⟨y1, y4, rfl⟩
 refine wpF_block ?_
 refine wpF_seq ?_
 refine fcr (fun f H => f 1 = PT g1 0 ∧ f 4 = I (n.Op) ∧ f 5 = B (decide (n.Op = 10)) ∧ H4 = H) ?_ ?_
 ·refine lq rfl (q_eql rfl y4 rfl) ?_
  refine la (v := B (decide (n.Op = 10))) rfl rfl rfl ?_
  exact ⟨y1, y4, rfl, rfl⟩
 clear y1 y4
 rintro f6 _ ⟨y1, y4, y5, rfl⟩
 refine wpF_condP y5 (fun hp7 => ?t65) (fun hp7 => ?e65)
 case t65 =>
  refine wpF_skip ?_
  refine wpF_condT (Eq.trans y5 (congrArg B (decide_eq_true hp7))) ?_
  refine fcr (fun f H => f 2 = B (decide ((((((-1000000) ≤ n.N) ∧ (n.N ≤ 1000000)) ∧ (1 ≤ n.D)) ∧ (n.D ≤ 1000000)) ∧ (((gcdT n.N n.D)) = 1))) ∧ St H0 NoB NoB [bE g1 #[I (n.Op), vk, I (n.N), I (n.D), SB (n.Name)] 37, rdE vk n.Kids] H) ?_ ?_
  ·refine lq rfl (q_fieldAddr rfl Try.underlying37 rfl Try.sizeOf3 y1) ?_
   refine lq rfl (q_loadBlk rfl rfl Try.isAgg3 (hS4.blk 0 rfl) rfl (fun h => h)) ?_
   refine lq rfl (q_geq rfl rfl rfl) ?_
   refine lm (v := B (decide ((-1000000) ≤ n.N))) rfl rfl rfl ?_
   by_cases hg8 : (-1000000) ≤ n.N
   ·have hb9 := Eq.trans rfl (congrArg B (decide_eq_true hg8))
    refine gq rfl rfl rfl hb9 (q_fieldAddr rfl Try.underlying37 rfl Try.sizeOf3 y1) ?_
    refine gq rfl rfl rfl hb9 (q_loadBlk rfl rfl Try.isAgg3 (hS4.blk 0 rfl) rfl (fun h => h)) ?_
    refine gq rfl rfl rfl hb9 (q_leq rfl rfl rfl) ?_
    refine lq rfl (q_pickT (v := B (decide (n.N ≤ 1000000))) rfl hb9 rfl) ?_
    refine lm (v := B (decide (n.N ≤ 1000000))) rfl rfl rfl ?_
    by_cases hg11 : n.N ≤ 1000000
    ·have hb12 := Eq.trans rfl (congrArg B (decide_eq_true hg11))
     refine gq rfl rfl rfl hb12 (q_fieldAddr rfl Try.underlying37 rfl Try.sizeOf3 y1) ?_
     refine gq rfl rfl rfl hb12 (q_loadBlk rfl rfl Try.isAgg3 (hS4.blk 0 rfl) rfl (fun h => h)) ?_
     refine gq rfl rfl rfl hb12 (q_geq rfl rfl rfl) ?_
     refine lq rfl (q_pickT (v := B (decide (1 ≤ n.D))) rfl hb12 rfl) ?_
     refine lm (v := B (decide (1 ≤ n.D))) rfl rfl rfl ?_
     by_cases hg14 : 1 ≤ n.D
     ·have hb15 := Eq.trans rfl (congrArg B (decide_eq_true hg14))
      refine gq rfl rfl rfl hb15 (q_fieldAddr rfl Try.underlying37 rfl Try.sizeOf3 y1) ?_
      refine gq rfl rfl rfl hb15 (q_loadBlk rfl rfl Try.isAgg3 (hS4.blk 0 rfl) rfl (fun h => h)) ?_
      refine gq rfl rfl rfl hb15 (q_leq rfl rfl rfl) ?_
      refine lq rfl (q_pickT (v := B (decide (n.D ≤ 1000000))) rfl hb15 rfl) ?_
      refine lm (v := B (decide (n.D ≤ 1000000))) rfl rfl rfl ?_
      by_cases hg17 : n.D ≤ 1000000
      ·have hb18 := Eq.trans rfl (congrArg B (decide_eq_true hg17))
       refine gq rfl rfl rfl hb18 (q_fieldAddr rfl Try.underlying37 rfl Try.sizeOf3 y1) ?_
       refine gq rfl rfl rfl hb18 (q_loadBlk rfl rfl Try.isAgg3 (hS4.blk 0 rfl) rfl (fun h => h)) ?_
       refine gq rfl rfl rfl hb18 (q_fieldAddr rfl Try.underlying37 rfl Try.sizeOf3 y1) ?_
       refine gq rfl rfl rfl hb18 (q_loadBlk rfl rfl Try.isAgg3 (hS4.blk 0 rfl) rfl (fun h => h)) ?_
       refine wpL_go rfl rfl rfl hb18 ?_
       refine e_call rfl Try.call56 (arr2 (v0 := I (n.N)) (v1 := I (n.D)) rfl rfl) (gcd_L  n.N n.D  (by omega) (by omega)) ?_
       rintro _ H20 ⟨hxx, rfl⟩
       have hS21 := hS4.ext hxx
       refine gq rfl rfl rfl hb18 (q_eql rfl rfl rfl) ?_
       refine lq rfl (q_pickT (v := B (decide (((gcdT n.N n.D)) = 1))) rfl hb18 rfl) ?_
       refine la (v := B (decide (((gcdT n.N n.D)) = 1))) rfl rfl rfl ?_
       exact ⟨(Eq.trans rfl (congrArg B (decide_congr_of ((Iff.rfl).trans (((and_iff_right ⟨⟨⟨hg8, hg11⟩, hg14⟩, hg17⟩).trans Iff.rfl)).symm)))), hS21⟩
      ·have hb19 := Eq.trans rfl (congrArg B (decide_eq_false hg17))
       refine wpL_gs rfl rfl rfl hb19 rfl ?_
       refine wpL_gs rfl rfl rfl hb19 rfl ?_
       refine wpL_gs rfl rfl rfl hb19 rfl ?_
       refine wpL_gs rfl rfl rfl hb19 rfl ?_
       refine wpL_gs rfl rfl rfl hb19 rfl ?_
       refine wpL_gs rfl rfl rfl hb19 rfl ?_
       refine lq rfl (q_pickF (v := B (false)) rfl hb19 rfl) ?_
       refine la (v := B (false)) rfl rfl rfl ?_
       exact ⟨(Eq.trans rfl (congrArg B ((decide_eq_false (fun h => (fun h => hg17 h.2) h.1)).symm))), hS4⟩
     ·have hb16 := Eq.trans rfl (congrArg B (decide_eq_false hg14))
      refine wpL_gs rfl rfl rfl hb16 rfl ?_
      refine wpL_gs rfl rfl rfl hb16 rfl ?_
      refine wpL_gs rfl rfl rfl hb16 rfl ?_
      refine lq rfl (q_pickF (v := B (false)) rfl hb16 rfl) ?_
      refine lm (v := B (false)) rfl rfl rfl ?_
      refine wpL_gs rfl rfl rfl rfl rfl ?_
      refine wpL_gs rfl rfl rfl rfl rfl ?_
      refine wpL_gs rfl rfl rfl rfl rfl ?_
      refine wpL_gs rfl rfl rfl rfl rfl ?_
      refine wpL_gs rfl rfl rfl rfl rfl ?_
      refine wpL_gs rfl rfl rfl rfl rfl ?_
      refine lq rfl (q_pickF (v := B (false)) rfl rfl rfl) ?_
      refine la (v := B (false)) rfl rfl rfl ?_
      exact ⟨(Eq.trans rfl (congrArg B ((decide_eq_false (fun h => (fun h => (fun h => hg14 h.2) h.1) h.1)).symm))), hS4⟩
    ·have hb13 := Eq.trans rfl (congrArg B (decide_eq_false hg11))
     refine wpL_gs rfl rfl rfl hb13 rfl ?_
     refine wpL_gs rfl rfl rfl hb13 rfl ?_
     refine wpL_gs rfl rfl rfl hb13 rfl ?_
     refine lq rfl (q_pickF (v := B (false)) rfl hb13 rfl) ?_
     refine lm (v := B (false)) rfl rfl rfl ?_
     refine wpL_gs rfl rfl rfl rfl rfl ?_
     refine wpL_gs rfl rfl rfl rfl rfl ?_
     refine wpL_gs rfl rfl rfl rfl rfl ?_
     refine lq rfl (q_pickF (v := B (false)) rfl rfl rfl) ?_
     refine lm (v := B (false)) rfl rfl rfl ?_
     refine wpL_gs rfl rfl rfl rfl rfl ?_
     refine wpL_gs rfl rfl rfl rfl rfl ?_
     refine wpL_gs rfl rfl rfl rfl rfl ?_
     refine wpL_gs rfl rfl rfl rfl rfl ?_
     refine wpL_gs rfl rfl rfl rfl rfl ?_
     refine wpL_gs rfl rfl rfl rfl rfl ?_
     refine lq rfl (q_pickF (v := B (false)) rfl rfl rfl) ?_
     refine la (v := B (false)) rfl rfl rfl ?_
     exact ⟨(Eq.trans rfl (congrArg B ((decide_eq_false (fun h => (fun h => (fun h => (fun h => hg11 h.2) h.1) h.1) h.1)).symm))), hS4⟩
   ·have hb10 := Eq.trans rfl (congrArg B (decide_eq_false hg8))
    refine wpL_gs rfl rfl rfl hb10 rfl ?_
    refine wpL_gs rfl rfl rfl hb10 rfl ?_
    refine wpL_gs rfl rfl rfl hb10 rfl ?_
    refine lq rfl (q_pickF (v := B (false)) rfl hb10 rfl) ?_
    refine lm (v := B (false)) rfl rfl rfl ?_
    refine wpL_gs rfl rfl rfl rfl rfl ?_
    refine wpL_gs rfl rfl rfl rfl rfl ?_
    refine wpL_gs rfl rfl rfl rfl rfl ?_
    refine lq rfl (q_pickF (v := B (false)) rfl rfl rfl) ?_
    refine lm (v := B (false)) rfl rfl rfl ?_
    refine wpL_gs rfl rfl rfl rfl rfl ?_
    refine wpL_gs rfl rfl rfl rfl rfl ?_
    refine wpL_gs rfl rfl rfl rfl rfl ?_
    refine lq rfl (q_pickF (v := B (false)) rfl rfl rfl) ?_
    refine lm (v := B (false)) rfl rfl rfl ?_
    refine wpL_gs rfl rfl rfl rfl rfl ?_
    refine wpL_gs rfl rfl rfl rfl rfl ?_
    refine wpL_gs rfl rfl rfl rfl rfl ?_
    refine wpL_gs rfl rfl rfl rfl rfl ?_
    refine wpL_gs rfl rfl rfl rfl rfl ?_
    refine wpL_gs rfl rfl rfl rfl rfl ?_
    refine lq rfl (q_pickF (v := B (false)) rfl rfl rfl) ?_
    refine la (v := B (false)) rfl rfl rfl ?_
    exact ⟨(Eq.trans rfl (congrArg B ((decide_eq_false (fun h => (fun h => (fun h => (fun h => hg8 h.1) h.1) h.1) h.1)).symm))), hS4⟩
  clear y1 y4 y5
  rintro f23 H23 ⟨y2, hS23⟩
  refine wpF_ret ?_
  refine ⟨_, resT y2 resN, hS23.frame, ?_⟩
  show (B (decide ((((((-1000000) ≤ n.N) ∧ (n.N ≤ 1000000)) ∧ (1 ≤ n.D)) ∧ (n.D ≤ 1000000)) ∧ (((gcdT n.N n.D)) = 1)))) = B (numsB n)
  exact congrArg B (by rw [numsB, hp7]; rfl)
 refine wpF_cut (fun f H => f 1 = PT g1 0 ∧ f 4 = I (n.Op) ∧ f 5 = B (decide (n.Op = 12)) ∧ H4 = H) ?_ ?_
 ·refine wpF_region ?_
  refine lq rfl (q_eql rfl y4 rfl) ?_
  refine la (v := B (decide (n.Op = 12))) rfl rfl rfl ?_
  exact ⟨y1, y4, rfl, rfl⟩
 clear y1 y4 y5
 rintro f24 _ ⟨y1, y4, y5, rfl⟩
 refine wpF_condP y5 (fun hp25 => ?t64) (fun hp25 => ?e64)
 case t64 =>
  refine fcr (fun f H => f 2 = B (decide ((((((-1000000) ≤ n.N) ∧ (n.N ≤ 1000000)) ∧ (1 ≤ n.D)) ∧ (n.D ≤ 1000000)) ∧ (((gcdT n.N n.D)) = 1))) ∧ St H0 NoB NoB [bE g1 #[I (n.Op), vk, I (n.N), I (n.D), SB (n.Name)] 37, rdE vk n.Kids] H) ?_ ?_
  ·refine lq rfl (q_fieldAddr rfl Try.underlying37 rfl Try.sizeOf3 y1) ?_
   refine lq rfl (q_loadBlk rfl rfl Try.isAgg3 (hS4.blk 0 rfl) rfl (fun h => h)) ?_
   refine lq rfl (q_geq rfl rfl rfl) ?_
   refine lm (v := B (decide ((-1000000) ≤ n.N))) rfl rfl rfl ?_
   by_cases hg26 : (-1000000) ≤ n.N
   ·have hb27 := Eq.trans rfl (congrArg B (decide_eq_true hg26))
    refine gq rfl rfl rfl hb27 (q_fieldAddr rfl Try.underlying37 rfl Try.sizeOf3 y1) ?_
    refine gq rfl rfl rfl hb27 (q_loadBlk rfl rfl Try.isAgg3 (hS4.blk 0 rfl) rfl (fun h => h)) ?_
    refine gq rfl rfl rfl hb27 (q_leq rfl rfl rfl) ?_
    refine lq rfl (q_pickT (v := B (decide (n.N ≤ 1000000))) rfl hb27 rfl) ?_
    refine lm (v := B (decide (n.N ≤ 1000000))) rfl rfl rfl ?_
    by_cases hg29 : n.N ≤ 1000000
    ·have hb30 := Eq.trans rfl (congrArg B (decide_eq_true hg29))
     refine gq rfl rfl rfl hb30 (q_fieldAddr rfl Try.underlying37 rfl Try.sizeOf3 y1) ?_
     refine gq rfl rfl rfl hb30 (q_loadBlk rfl rfl Try.isAgg3 (hS4.blk 0 rfl) rfl (fun h => h)) ?_
     refine gq rfl rfl rfl hb30 (q_geq rfl rfl rfl) ?_
     refine lq rfl (q_pickT (v := B (decide (1 ≤ n.D))) rfl hb30 rfl) ?_
     refine lm (v := B (decide (1 ≤ n.D))) rfl rfl rfl ?_
     by_cases hg32 : 1 ≤ n.D
     ·have hb33 := Eq.trans rfl (congrArg B (decide_eq_true hg32))
      refine gq rfl rfl rfl hb33 (q_fieldAddr rfl Try.underlying37 rfl Try.sizeOf3 y1) ?_
      refine gq rfl rfl rfl hb33 (q_loadBlk rfl rfl Try.isAgg3 (hS4.blk 0 rfl) rfl (fun h => h)) ?_
      refine gq rfl rfl rfl hb33 (q_leq rfl rfl rfl) ?_
      refine lq rfl (q_pickT (v := B (decide (n.D ≤ 1000000))) rfl hb33 rfl) ?_
      refine lm (v := B (decide (n.D ≤ 1000000))) rfl rfl rfl ?_
      by_cases hg35 : n.D ≤ 1000000
      ·have hb36 := Eq.trans rfl (congrArg B (decide_eq_true hg35))
       refine gq rfl rfl rfl hb36 (q_fieldAddr rfl Try.underlying37 rfl Try.sizeOf3 y1) ?_
       refine gq rfl rfl rfl hb36 (q_loadBlk rfl rfl Try.isAgg3 (hS4.blk 0 rfl) rfl (fun h => h)) ?_
       refine gq rfl rfl rfl hb36 (q_fieldAddr rfl Try.underlying37 rfl Try.sizeOf3 y1) ?_
       refine gq rfl rfl rfl hb36 (q_loadBlk rfl rfl Try.isAgg3 (hS4.blk 0 rfl) rfl (fun h => h)) ?_
       refine wpL_go rfl rfl rfl hb36 ?_
       refine e_call rfl Try.call56 (arr2 (v0 := I (n.N)) (v1 := I (n.D)) rfl rfl) (gcd_L  n.N n.D  (by omega) (by omega)) ?_
       rintro _ H38 ⟨hxx, rfl⟩
       have hS39 := hS4.ext hxx
       refine gq rfl rfl rfl hb36 (q_eql rfl rfl rfl) ?_
       refine lq rfl (q_pickT (v := B (decide (((gcdT n.N n.D)) = 1))) rfl hb36 rfl) ?_
       refine la (v := B (decide (((gcdT n.N n.D)) = 1))) rfl rfl rfl ?_
       exact ⟨(Eq.trans rfl (congrArg B (decide_congr_of ((Iff.rfl).trans (((and_iff_right ⟨⟨⟨hg26, hg29⟩, hg32⟩, hg35⟩).trans Iff.rfl)).symm)))), hS39⟩
      ·have hb37 := Eq.trans rfl (congrArg B (decide_eq_false hg35))
       refine wpL_gs rfl rfl rfl hb37 rfl ?_
       refine wpL_gs rfl rfl rfl hb37 rfl ?_
       refine wpL_gs rfl rfl rfl hb37 rfl ?_
       refine wpL_gs rfl rfl rfl hb37 rfl ?_
       refine wpL_gs rfl rfl rfl hb37 rfl ?_
       refine wpL_gs rfl rfl rfl hb37 rfl ?_
       refine lq rfl (q_pickF (v := B (false)) rfl hb37 rfl) ?_
       refine la (v := B (false)) rfl rfl rfl ?_
       exact ⟨(Eq.trans rfl (congrArg B ((decide_eq_false (fun h => (fun h => hg35 h.2) h.1)).symm))), hS4⟩
     ·have hb34 := Eq.trans rfl (congrArg B (decide_eq_false hg32))
      refine wpL_gs rfl rfl rfl hb34 rfl ?_
      refine wpL_gs rfl rfl rfl hb34 rfl ?_
      refine wpL_gs rfl rfl rfl hb34 rfl ?_
      refine lq rfl (q_pickF (v := B (false)) rfl hb34 rfl) ?_
      refine lm (v := B (false)) rfl rfl rfl ?_
      refine wpL_gs rfl rfl rfl rfl rfl ?_
      refine wpL_gs rfl rfl rfl rfl rfl ?_
      refine wpL_gs rfl rfl rfl rfl rfl ?_
      refine wpL_gs rfl rfl rfl rfl rfl ?_
      refine wpL_gs rfl rfl rfl rfl rfl ?_
      refine wpL_gs rfl rfl rfl rfl rfl ?_
      refine lq rfl (q_pickF (v := B (false)) rfl rfl rfl) ?_
      refine la (v := B (false)) rfl rfl rfl ?_
      exact ⟨(Eq.trans rfl (congrArg B ((decide_eq_false (fun h => (fun h => (fun h => hg32 h.2) h.1) h.1)).symm))), hS4⟩
    ·have hb31 := Eq.trans rfl (congrArg B (decide_eq_false hg29))
     refine wpL_gs rfl rfl rfl hb31 rfl ?_
     refine wpL_gs rfl rfl rfl hb31 rfl ?_
     refine wpL_gs rfl rfl rfl hb31 rfl ?_
     refine lq rfl (q_pickF (v := B (false)) rfl hb31 rfl) ?_
     refine lm (v := B (false)) rfl rfl rfl ?_
     refine wpL_gs rfl rfl rfl rfl rfl ?_
     refine wpL_gs rfl rfl rfl rfl rfl ?_
     refine wpL_gs rfl rfl rfl rfl rfl ?_
     refine lq rfl (q_pickF (v := B (false)) rfl rfl rfl) ?_
     refine lm (v := B (false)) rfl rfl rfl ?_
     refine wpL_gs rfl rfl rfl rfl rfl ?_
     refine wpL_gs rfl rfl rfl rfl rfl ?_
     refine wpL_gs rfl rfl rfl rfl rfl ?_
     refine wpL_gs rfl rfl rfl rfl rfl ?_
     refine wpL_gs rfl rfl rfl rfl rfl ?_
     refine wpL_gs rfl rfl rfl rfl rfl ?_
     refine lq rfl (q_pickF (v := B (false)) rfl rfl rfl) ?_
     refine la (v := B (false)) rfl rfl rfl ?_
     exact ⟨(Eq.trans rfl (congrArg B ((decide_eq_false (fun h => (fun h => (fun h => (fun h => hg29 h.2) h.1) h.1) h.1)).symm))), hS4⟩
   ·have hb28 := Eq.trans rfl (congrArg B (decide_eq_false hg26))
    refine wpL_gs rfl rfl rfl hb28 rfl ?_
    refine wpL_gs rfl rfl rfl hb28 rfl ?_
    refine wpL_gs rfl rfl rfl hb28 rfl ?_
    refine lq rfl (q_pickF (v := B (false)) rfl hb28 rfl) ?_
    refine lm (v := B (false)) rfl rfl rfl ?_
    refine wpL_gs rfl rfl rfl rfl rfl ?_
    refine wpL_gs rfl rfl rfl rfl rfl ?_
    refine wpL_gs rfl rfl rfl rfl rfl ?_
    refine lq rfl (q_pickF (v := B (false)) rfl rfl rfl) ?_
    refine lm (v := B (false)) rfl rfl rfl ?_
    refine wpL_gs rfl rfl rfl rfl rfl ?_
    refine wpL_gs rfl rfl rfl rfl rfl ?_
    refine wpL_gs rfl rfl rfl rfl rfl ?_
    refine lq rfl (q_pickF (v := B (false)) rfl rfl rfl) ?_
    refine lm (v := B (false)) rfl rfl rfl ?_
    refine wpL_gs rfl rfl rfl rfl rfl ?_
    refine wpL_gs rfl rfl rfl rfl rfl ?_
    refine wpL_gs rfl rfl rfl rfl rfl ?_
    refine wpL_gs rfl rfl rfl rfl rfl ?_
    refine wpL_gs rfl rfl rfl rfl rfl ?_
    refine wpL_gs rfl rfl rfl rfl rfl ?_
    refine lq rfl (q_pickF (v := B (false)) rfl rfl rfl) ?_
    refine la (v := B (false)) rfl rfl rfl ?_
    exact ⟨(Eq.trans rfl (congrArg B ((decide_eq_false (fun h => (fun h => (fun h => (fun h => hg26 h.1) h.1) h.1) h.1)).symm))), hS4⟩
  clear y1 y4 y5
  rintro f41 H41 ⟨y2, hS41⟩
  refine wpF_ret ?_
  refine ⟨_, resT y2 resN, hS41.frame, ?_⟩
  show (B (decide ((((((-1000000) ≤ n.N) ∧ (n.N ≤ 1000000)) ∧ (1 ≤ n.D)) ∧ (n.D ≤ 1000000)) ∧ (((gcdT n.N n.D)) = 1)))) = B (numsB n)
  exact congrArg B (by rw [numsB, hp25]; rfl)
 refine fcr (fun f H => f 1 = PT g1 0 ∧ f 4 = I (n.Op) ∧ f 34 = B (decide (n.Op = 15)) ∧ H4 = H) ?_ ?_
 ·refine lq rfl (q_eql rfl y4 rfl) ?_
  refine la (v := B (decide (n.Op = 15))) rfl rfl rfl ?_
  exact ⟨y1, y4, rfl, rfl⟩
 clear y1 y4 y5
 rintro f42 _ ⟨y1, y4, y34, rfl⟩
 refine wpF_condP y34 (fun hp43 => ?t63) (fun hp43 => ?e63)
 case e63 =>
  refine fcr (fun f H => f 1 = PT g1 0 ∧ f 57 = B (decide (n.Op = 23)) ∧ H4 = H) ?_ ?_
  ·refine lq rfl (q_eql rfl y4 rfl) ?_
   refine la (v := B (decide (n.Op = 23))) rfl rfl rfl ?_
   exact ⟨y1, rfl, rfl⟩
  clear y1 y34 y4
  rintro f55 _ ⟨y1, y57, rfl⟩
  refine wpF_condP y57 (fun hp56 => ?t62) (fun hp56 => ?e62)
  case e62 =>
   refine wpF_skip ?_
   refine fcr (fun f H => f 2 = B (true) ∧ H4 = H) ?_ ?_
   ·refine la (v := B (true)) rfl rfl rfl ?_
    exact ⟨rfl, rfl⟩
   clear y1 y57
   rintro f61 _ ⟨y2, rfl⟩
   refine wpF_ret ?_
   refine ⟨_, resT y2 resN, hS4.frame, ?_⟩
   show (B (true)) = B (numsB n)
   exact congrArg B (by rw [numsB, if_neg hp7, if_neg hp25, if_neg hp43, if_neg hp56])
  refine fcr (fun f H => f 2 = B (decide ((0 ≤ n.N) ∧ (n.N ≤ 8))) ∧ H4 = H) ?_ ?_
  ·refine lq rfl (q_fieldAddr rfl Try.underlying37 rfl Try.sizeOf3 y1) ?_
   refine lq rfl (q_loadBlk rfl rfl Try.isAgg3 (hS4.blk 0 rfl) rfl (fun h => h)) ?_
   refine lq rfl (q_geq rfl rfl rfl) ?_
   refine lm (v := B (decide (0 ≤ n.N))) rfl rfl rfl ?_
   by_cases hg57 : 0 ≤ n.N
   ·have hb58 := Eq.trans rfl (congrArg B (decide_eq_true hg57))
    refine gq rfl rfl rfl hb58 (q_fieldAddr rfl Try.underlying37 rfl Try.sizeOf3 y1) ?_
    refine gq rfl rfl rfl hb58 (q_loadBlk rfl rfl Try.isAgg3 (hS4.blk 0 rfl) rfl (fun h => h)) ?_
    refine gq rfl rfl rfl hb58 (q_leq rfl rfl rfl) ?_
    refine lq rfl (q_pickT (v := B (decide (n.N ≤ 8))) rfl hb58 rfl) ?_
    refine la (v := B (decide (n.N ≤ 8))) rfl rfl rfl ?_
    exact ⟨(Eq.trans rfl (congrArg B (decide_congr_of ((Iff.rfl).trans (((and_iff_right hg57).trans Iff.rfl)).symm)))), rfl⟩
   ·have hb59 := Eq.trans rfl (congrArg B (decide_eq_false hg57))
    refine wpL_gs rfl rfl rfl hb59 rfl ?_
    refine wpL_gs rfl rfl rfl hb59 rfl ?_
    refine wpL_gs rfl rfl rfl hb59 rfl ?_
    refine lq rfl (q_pickF (v := B (false)) rfl hb59 rfl) ?_
    refine la (v := B (false)) rfl rfl rfl ?_
    exact ⟨(Eq.trans rfl (congrArg B ((decide_eq_false (fun h => hg57 h.1)).symm))), rfl⟩
  clear y1 y57
  rintro f60 _ ⟨y2, rfl⟩
  refine wpF_ret ?_
  refine ⟨_, resT y2 resN, hS4.frame, ?_⟩
  show (B (decide ((0 ≤ n.N) ∧ (n.N ≤ 8)))) = B (numsB n)
  exact congrArg B (by rw [numsB, hp56]; rfl)
 refine sc (fun f H => f 2 = B (decide ((((1 ≤ n.D) ∧ (n.D ≤ 8)) ∧ (0 ≤ n.N)) ∧ (n.N < ((2 ^ ((n.D).toNat) : Nat) : Int)))) ∧ H4 = H) ?_ ?_
 ·refine wpF_drawn [] [] (fun _ _ => False) (by kernel_rfl) (by kernel_rfl) ?_
  refine rq 0 (by kernel_rfl) rfl rfl (q_fieldAddr rfl Try.underlying37 rfl Try.sizeOf3 y1) ?_
  refine rq 1 (by kernel_rfl) rfl rfl (q_loadBlk rfl rfl Try.isAgg3 (hS4.blk 0 rfl) rfl (labU_not [] rfl (fe))) ?_
  refine rq 2 (by kernel_rfl) rfl rfl (q_geq rfl rfl rfl) ?_
  refine rq 3 (by kernel_rfl) rfl rfl (q_move (v := B (decide (1 ≤ n.D))) rfl rfl) ?_
  by_cases hg45 : 1 ≤ n.D
  ·have hb46 := Eq.trans rfl (congrArg B (decide_eq_true hg45))
   refine wpR_q 4 (by kernel_rfl) rfl (quietAt_g rfl rfl rfl rfl hb46 (q_fieldAddr rfl Try.underlying37 rfl Try.sizeOf3 y1)) ?_
   refine wpR_q 5 (by kernel_rfl) rfl (quietAt_g rfl rfl rfl rfl hb46 (q_loadBlk rfl rfl Try.isAgg3 (hS4.blk 0 rfl) rfl (labU_not [] rfl (fe)))) ?_
   refine wpR_q 6 (by kernel_rfl) rfl (quietAt_g rfl rfl rfl rfl hb46 (q_leq rfl rfl rfl)) ?_
   refine rq 7 (by kernel_rfl) rfl rfl (q_pickT (v := B (decide (n.D ≤ 8))) rfl hb46 rfl) ?_
   refine rq 8 (by kernel_rfl) rfl rfl (q_move (v := B (decide (n.D ≤ 8))) rfl rfl) ?_
   by_cases hg48 : n.D ≤ 8
   ·have hb49 := Eq.trans rfl (congrArg B (decide_eq_true hg48))
    refine wpR_q 9 (by kernel_rfl) rfl (quietAt_g rfl rfl rfl rfl hb49 (q_fieldAddr rfl Try.underlying37 rfl Try.sizeOf3 y1)) ?_
    refine wpR_q 10 (by kernel_rfl) rfl (quietAt_g rfl rfl rfl rfl hb49 (q_loadBlk rfl rfl Try.isAgg3 (hS4.blk 0 rfl) rfl (labU_not [] rfl (fe)))) ?_
    refine wpR_q 11 (by kernel_rfl) rfl (quietAt_g rfl rfl rfl rfl hb49 (q_geq rfl rfl rfl)) ?_
    refine rq 12 (by kernel_rfl) rfl rfl (q_pickT (v := B (decide (0 ≤ n.N))) rfl hb49 rfl) ?_
    refine rq 13 (by kernel_rfl) rfl rfl (q_move (v := B (decide (0 ≤ n.N))) rfl rfl) ?_
    by_cases hg51 : 0 ≤ n.N
    ·have hb52 := Eq.trans rfl (congrArg B (decide_eq_true hg51))
     refine wpR_q 14 (by kernel_rfl) rfl (quietAt_g rfl rfl rfl rfl hb52 (q_fieldAddr rfl Try.underlying37 rfl Try.sizeOf3 y1)) ?_
     refine wpR_q 15 (by kernel_rfl) rfl (quietAt_g rfl rfl rfl rfl hb52 (q_loadBlk rfl rfl Try.isAgg3 (hS4.blk 0 rfl) rfl (labU_not [] rfl (fe)))) ?_
     refine wpR_q 16 (by kernel_rfl) rfl (quietAt_g rfl rfl rfl rfl hb52 (q_fieldAddr rfl Try.underlying37 rfl Try.sizeOf3 y1)) ?_
     refine wpR_q 17 (by kernel_rfl) rfl (quietAt_g rfl rfl rfl rfl hb52 (q_loadBlk rfl rfl Try.isAgg3 (hS4.blk 0 rfl) rfl (labU_not [] rfl (fe)))) ?_
     refine wpR_q 18 (by kernel_rfl) rfl (quietAt_g rfl rfl rfl rfl hb52 (q_shl1 rfl rfl rfl (by omega) (by omega))) ?_
     refine wpR_q 19 (by kernel_rfl) rfl (quietAt_g rfl rfl rfl rfl hb52 (q_lss rfl rfl rfl)) ?_
     refine rq 20 (by kernel_rfl) rfl rfl (q_pickT (v := B (decide (n.N < ((2 ^ ((n.D).toNat) : Nat) : Int)))) rfl hb52 rfl) ?_
     refine rq 21 (by kernel_rfl) rfl rfl (q_assign (v := B (decide (n.N < ((2 ^ ((n.D).toNat) : Nat) : Int)))) rfl rfl) ?_
     refine wpR_end (by kernel_rfl) ?_
     exact ⟨(Eq.trans rfl (congrArg B (decide_congr_of ((Iff.rfl).trans (((and_iff_right ⟨⟨hg45, hg48⟩, hg51⟩).trans Iff.rfl)).symm)))), rfl⟩
    ·have hb53 := Eq.trans rfl (congrArg B (decide_eq_false hg51))
     refine wpR_q 14 (by kernel_rfl) rfl (quietAt_s rfl rfl rfl rfl hb53 rfl) ?_
     refine wpR_q 15 (by kernel_rfl) rfl (quietAt_s rfl rfl rfl rfl hb53 rfl) ?_
     refine wpR_q 16 (by kernel_rfl) rfl (quietAt_s rfl rfl rfl rfl hb53 rfl) ?_
     refine wpR_q 17 (by kernel_rfl) rfl (quietAt_s rfl rfl rfl rfl hb53 rfl) ?_
     refine wpR_q 18 (by kernel_rfl) rfl (quietAt_s rfl rfl rfl rfl hb53 rfl) ?_
     refine wpR_q 19 (by kernel_rfl) rfl (quietAt_s rfl rfl rfl rfl hb53 rfl) ?_
     refine rq 20 (by kernel_rfl) rfl rfl (q_pickF (v := B (false)) rfl hb53 rfl) ?_
     refine rq 21 (by kernel_rfl) rfl rfl (q_assign (v := B (false)) rfl rfl) ?_
     refine wpR_end (by kernel_rfl) ?_
     exact ⟨(Eq.trans rfl (congrArg B ((decide_eq_false (fun h => (fun h => hg51 h.2) h.1)).symm))), rfl⟩
   ·have hb50 := Eq.trans rfl (congrArg B (decide_eq_false hg48))
    refine wpR_q 9 (by kernel_rfl) rfl (quietAt_s rfl rfl rfl rfl hb50 rfl) ?_
    refine wpR_q 10 (by kernel_rfl) rfl (quietAt_s rfl rfl rfl rfl hb50 rfl) ?_
    refine wpR_q 11 (by kernel_rfl) rfl (quietAt_s rfl rfl rfl rfl hb50 rfl) ?_
    refine rq 12 (by kernel_rfl) rfl rfl (q_pickF (v := B (false)) rfl hb50 rfl) ?_
    refine rq 13 (by kernel_rfl) rfl rfl (q_move (v := B (false)) rfl rfl) ?_
    refine wpR_q 14 (by kernel_rfl) rfl (quietAt_s rfl rfl rfl rfl rfl rfl) ?_
    refine wpR_q 15 (by kernel_rfl) rfl (quietAt_s rfl rfl rfl rfl rfl rfl) ?_
    refine wpR_q 16 (by kernel_rfl) rfl (quietAt_s rfl rfl rfl rfl rfl rfl) ?_
    refine wpR_q 17 (by kernel_rfl) rfl (quietAt_s rfl rfl rfl rfl rfl rfl) ?_
    refine wpR_q 18 (by kernel_rfl) rfl (quietAt_s rfl rfl rfl rfl rfl rfl) ?_
    refine wpR_q 19 (by kernel_rfl) rfl (quietAt_s rfl rfl rfl rfl rfl rfl) ?_
    refine rq 20 (by kernel_rfl) rfl rfl (q_pickF (v := B (false)) rfl rfl rfl) ?_
    refine rq 21 (by kernel_rfl) rfl rfl (q_assign (v := B (false)) rfl rfl) ?_
    refine wpR_end (by kernel_rfl) ?_
    exact ⟨(Eq.trans rfl (congrArg B ((decide_eq_false (fun h => (fun h => (fun h => hg48 h.2) h.1) h.1)).symm))), rfl⟩
  ·have hb47 := Eq.trans rfl (congrArg B (decide_eq_false hg45))
   refine wpR_q 4 (by kernel_rfl) rfl (quietAt_s rfl rfl rfl rfl hb47 rfl) ?_
   refine wpR_q 5 (by kernel_rfl) rfl (quietAt_s rfl rfl rfl rfl hb47 rfl) ?_
   refine wpR_q 6 (by kernel_rfl) rfl (quietAt_s rfl rfl rfl rfl hb47 rfl) ?_
   refine rq 7 (by kernel_rfl) rfl rfl (q_pickF (v := B (false)) rfl hb47 rfl) ?_
   refine rq 8 (by kernel_rfl) rfl rfl (q_move (v := B (false)) rfl rfl) ?_
   refine wpR_q 9 (by kernel_rfl) rfl (quietAt_s rfl rfl rfl rfl rfl rfl) ?_
   refine wpR_q 10 (by kernel_rfl) rfl (quietAt_s rfl rfl rfl rfl rfl rfl) ?_
   refine wpR_q 11 (by kernel_rfl) rfl (quietAt_s rfl rfl rfl rfl rfl rfl) ?_
   refine rq 12 (by kernel_rfl) rfl rfl (q_pickF (v := B (false)) rfl rfl rfl) ?_
   refine rq 13 (by kernel_rfl) rfl rfl (q_move (v := B (false)) rfl rfl) ?_
   refine wpR_q 14 (by kernel_rfl) rfl (quietAt_s rfl rfl rfl rfl rfl rfl) ?_
   refine wpR_q 15 (by kernel_rfl) rfl (quietAt_s rfl rfl rfl rfl rfl rfl) ?_
   refine wpR_q 16 (by kernel_rfl) rfl (quietAt_s rfl rfl rfl rfl rfl rfl) ?_
   refine wpR_q 17 (by kernel_rfl) rfl (quietAt_s rfl rfl rfl rfl rfl rfl) ?_
   refine wpR_q 18 (by kernel_rfl) rfl (quietAt_s rfl rfl rfl rfl rfl rfl) ?_
   refine wpR_q 19 (by kernel_rfl) rfl (quietAt_s rfl rfl rfl rfl rfl rfl) ?_
   refine rq 20 (by kernel_rfl) rfl rfl (q_pickF (v := B (false)) rfl rfl rfl) ?_
   refine rq 21 (by kernel_rfl) rfl rfl (q_assign (v := B (false)) rfl rfl) ?_
   refine wpR_end (by kernel_rfl) ?_
   exact ⟨(Eq.trans rfl (congrArg B ((decide_eq_false (fun h => (fun h => (fun h => hg45 h.1) h.1) h.1)).symm))), rfl⟩
 clear y1 y34 y4
 rintro f54 _ ⟨y2, rfl⟩
 refine wpF_ret ?_
 refine ⟨_, resT y2 resN, hS4.frame, ?_⟩
 show (B (decide ((((1 ≤ n.D) ∧ (n.D ≤ 8)) ∧ (0 ≤ n.N)) ∧ (n.N < ((2 ^ ((n.D).toNat) : Nat) : Int))))) = B (numsB n)
 exact congrArg B (by rw [numsB, hp43]; rfl)
set_option maxRecDepth 100000 in
theorem all_1 {H0 : Heap} (x : Int) (gx : Nat) (vk : Value) (gp : Int → Bool) (hb : H0[gx]? = some (.cells #[vk] 84)) (hf : ∀ H, Ext NoB H0 H → FnH Try.prog vk #[I x] H (fun rv H' => Ext NoB H H' ∧ rv = B (gp x))) : CallsH Try.prog 78 #[I (x), PT gx 0] H0 (fun rv_ H' => Ext NoB H0 H' ∧ rv_ = B (!gp x)) := by
 have hS0 : St H0 NoB NoB [fixE gx (.cells #[vk] 84)] H0 := St.argFix (St.start (fun _ h => h.elim)) (Bl0.nil) hb (fun h => h)
 refine callsH_of_wpF (args := [I (x), PT gx 0]) (rs := [.tmp 3]) Try.func78 rfl Try.ntmps78 Try.results78 (by kernel_rfl) (Nat.le_of_ble_eq_true rfl) ?_
 have y0 : argF [I (x), PT gx 0] 0 = I (x) := rfl
 have y1 : argF [I (x), PT gx 0] 1 = PT gx 0 := rfl
 generalize argF [I (x), PT gx 0] = f0 at *
 refine fcr (fun f H => f 0 = I (x) ∧ f 1 = PT gx 0 ∧ H0 = H) ?_ ?_
 ·refine la (v := B (false)) rfl rfl rfl ?_
  exact ⟨y0, y1, rfl⟩
 clear y0 y1
 rintro f1 _ ⟨y0, y1, rfl⟩
 refine fcr (fun f H => f 3 = B (!(gp x)) ∧ St H0 NoB NoB [fixE gx (.cells #[vk] 84)] H) ?_ ?_
 ·refine lq rfl (q_loadBlk rfl y1 Try.isAgg84 (hS0.fixd 0 rfl) rfl (fun h => h)) ?_
  refine lm (v := I (x)) rfl rfl y0 ?_
  refine lo rfl ?_
  refine e_callF rfl rfl (arr1 (v0 := I (x)) rfl) (hf _ hS0.frame) ?_
  rintro _ H2 ⟨hxx, rfl⟩
  have hS3 := hS0.ext hxx
  refine lq rfl (q_not rfl rfl) ?_
  refine la (v := B (!(gp x))) rfl rfl rfl ?_
  exact ⟨rfl, hS3⟩
 clear y0 y1
 rintro f5 H5 ⟨y3, hS5⟩
 refine wpF_ret ?_
 refine ⟨_, resT y3 resN, hS5.frame, ?_⟩
 show (B (!(gp x))) = B (!gp x)
 rfl
set_option maxRecDepth 100000 in
theorem all_L {H0 : Heap} (vl vk : Value) (l : List Int) (gp : Int → Bool) (rl : Rd NoB H0 vl l) (hkc : vk.cells = #[vk]) (hf : ∀ x, x ∈ l → ∀ H, Ext NoB H0 H → FnH Try.prog vk #[I x] H (fun rv H' => Ext NoB H H' ∧ rv = B (gp x))) : CallsH Try.prog 58 #[vl, vk] H0 (fun rv_ H' => Ext NoB H0 H' ∧ rv_ = B (l.all gp)) := by
 have hS0 : St H0 NoB NoB [rdE vl l] H0 := St.arg (St.start (fun _ h => h.elim)) (Bl0.nil) rl (fun _ h => h)
 refine callsH_of_wpF (args := [vl, vk]) (rs := [.tmp 4]) Try.func58 rfl Try.ntmps58 Try.results58 (by kernel_rfl) (Nat.le_of_ble_eq_true rfl) ?_
 have y0 : argF [vl, vk] 0 = vl := rfl
 have y1 : argF [vl, vk] 1 = vk := rfl
 generalize argF [vl, vk] = f0 at *
 refine fcr (fun f H => ∃ (g1 : Nat), f 0 = vl ∧ f 3 = PT g1 0 ∧ St H0 NoB NoB [bE g1 #[vk] 84, rdE vl l] H) ?_ ?_
 ·refine lo rfl ?_
  refine e_box (v := vk) rfl y1 hS0 (fun g1 H2 hS3 hxx => ?_)
  rw [hkc] at hS3
  refine la (v := B (false)) rfl rfl rfl ?_
  exact ⟨g1, y0, rfl, hS3⟩
 clear y0 y1
 rintro f4 H4 ⟨g1, y0, y3, hS4⟩
 refine fcr (fun f H => f 4 = B (!(l.any (fun x => !gp x))) ∧ St H0 NoB NoB [bE g1 #[vk] 84, rdE vl l] H) ?_ ?_
 ·refine lm (v := vl) rfl rfl y0 ?_
  refine lq rfl (q_makeFunc (fi' := #[]) rfl (by simp) (arr1 (v0 := PT g1 0) y3)) ?_
  refine lo rfl ?_
  refine e_call rfl Try.call28 (arr2 (v0 := vl) (v1 := Value.func (.func 78) #[] #[PT g1 0]) rfl rfl) (ContainsFunc vl (Value.func (.func 78) #[] #[PT g1 0]) l (fun x => !gp x) (hS4.rdN 1 rfl) (fun x hx H hE => ⟨_, _, rfl, Try.call78, all_1 x g1 vk gp (hE.blk (hS4.blk 0 rfl)) (fun H2 hE2 => hf x hx H2 ((hS4.frame.trans hE).trans hE2))⟩)) ?_
  rintro _ H5 ⟨hxx, rfl⟩
  have hS6 := hS4.ext hxx
  refine lq rfl (q_not rfl rfl) ?_
  refine la (v := B (!(l.any (fun x => !gp x)))) rfl rfl rfl ?_
  exact ⟨rfl, hS6⟩
 clear y0 y3
 rintro f8 H8 ⟨y4, hS8⟩
 refine wpF_ret ?_
 refine ⟨_, resT y4 resN, hS8.frame, ?_⟩
 show (B (!(l.any (fun x => !gp x)))) = B (l.all gp)
 exact congrArg B all_not_any
end Go.Um
