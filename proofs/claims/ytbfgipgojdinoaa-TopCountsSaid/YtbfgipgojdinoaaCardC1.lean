import Derived.Test.YtbfgipgojdinoaaProg
import Derived.Test.YtbfgipgojdinoaaUmTopCountsC
namespace Go.Um
open Go.Proofs
open GoT (sz ag rdc)
open KeyT (kv)
theorem el_Int_3_CardC1 : ElT Try.prog Int 3 := ⟨Try.isAgg3, Try.sizeOf3⟩
theorem el_LInt_22_CardC1 : ElT Try.prog (List Int) 22 := ⟨Try.isAgg22, Try.sizeOf22⟩
set_option maxRecDepth 100000 in
theorem IndexFunc {H0 : Heap} (vs vf : Value) (l : List Int) (gp : Int → Bool) (rs : Rd NoB H0 vs l) (hf : ∀ x, x ∈ l → ∀ H, Ext NoB H0 H → FnH Try.prog vf #[I x] H (fun rv H' => Ext NoB H H' ∧ rv = B (gp x))) : CallsH Try.prog 75 #[vs, vf] H0 (fun rv_ H' => Ext NoB H0 H' ∧ rv_ = I (idxOf gp l)) := by
 have hsm := (Rd.list.1 rs).small
 have hS0 : St H0 NoB NoB [rdE vs l] H0 := St.arg (St.start (fun _ h => h.elim)) (Bl0.nil) rs (fun _ h => h)
 refine callsH_of_wpF (args := [vs, vf]) (rs := [.tmp 4]) Try.func75 rfl Try.ntmps75 Try.results75 (by kernel_rfl) (Nat.le_of_ble_eq_true rfl) ?_
 have y0 : argF [vs, vf] 0 = vs := rfl
 have y1 : argF [vs, vf] 1 = vf := rfl
 generalize argF [vs, vf] = f0 at *
 refine wpF_seq ?_
 refine wpF_region ?_
 refine la (v := I (0)) rfl rfl rfl ?_
 refine wpL_nil ?_
 refine wpF_seq ?_
 refine wpF_seq ?_
 refine wpF_region ?_
 refine lm (v := vs) rfl rfl y0 ?_
 refine lq rfl (q_lenRd rfl Try.underlying22 rfl (hS0.rdl 0 rfl)) ?_
 refine lm (v := I (0)) rfl rfl rfl ?_
 refine wpL_nil ?_
 refine wpF_block ?_
 refine wpF_loop (fun mz f H => ∃ (k : Nat), mz = l.length - k ∧ (k ≤ l.length) ∧ (∀ j, j < k → gp (nth l j) = false) ∧ f 0 = vs ∧ f 1 = vf ∧ f 7 = I ((l.length : Int)) ∧ f 8 = I ((k : Int)) ∧ St H0 NoB NoB [rdE vs l] H) (l.length - 0) ?_ ?_
 ·exact ⟨0, rfl, Nat.zero_le _, (fun j hj => absurd hj (Nat.not_lt_zero j)), y0, y1, rfl, (Eq.trans rfl (congrArg I (by omega))), hS0⟩
 intro m1 f1 H1 hI1
 clear y0 y1
 obtain ⟨k, hm1, hk, hno, y0, y1, y7, y8, hS1⟩ := hI1
 refine wpF_seq ?_
 refine wpF_region ?_
 refine lq rfl (q_lss rfl y8 y7) ?_
 refine wpL_nil ?_
 refine wpF_seq ?_
 refine wpF_condP rfl (fun hlt => ?t8) (fun hlt => ?e8)
 case e8 =>
  refine wpF_exit ?_
  refine atX_here ?_
  refine wpF_seq ?_
  refine wpF_region ?_
  refine la (v := I (-1)) rfl rfl rfl ?_
  refine wpL_nil ?_
  refine wpF_ret ?_
  refine ⟨_, resT rfl resN, hS1.frame, ?_⟩
  show (I (-1)) = I (idxOf gp l)
  exact congrArg I (idxOf_no fun j hj => hno j (by omega)).symm
 refine wpF_skip ?_
 refine wpF_seq ?_
 refine wpF_block ?_
 refine wpF_seq ?_
 refine wpF_region ?_
 refine lm (v := I ((k : Int))) rfl rfl y8 ?_
 refine la (v := I ((k : Int))) rfl rfl rfl ?_
 refine wpL_nil ?_
 refine wpF_seq ?_
 refine wpF_region ?_
 refine lm (v := vf) rfl rfl y1 ?_
 refine lm (v := vs) rfl rfl y0 ?_
 refine lm (v := I ((k : Int))) rfl rfl rfl ?_
 refine lq rfl (q_indexRd (k := k) rfl Try.underlying22 el_Int_3_CardC1 rfl rfl (hS1.rdl 0 rfl) (by omega) (by omega)) ?_
 refine lq rfl (q_loadInt (k := k) rfl rfl el_Int_3_CardC1 (hS1.rdl 0 rfl) (by omega) (fun _ h => h)) ?_
 refine lo rfl ?_
 refine e_callF rfl rfl (arr1 (v0 := I (nth l k)) rfl) (hf _ (nth_mem (by omega)) _ hS1.frame) ?_
 rintro _ H3 ⟨hxx, rfl⟩
 have hS4 := hS1.ext hxx
 refine wpL_nil ?_
 refine wpF_cond rfl (fun hg => ?t7) (fun hg => ?e7)
 case e7 =>
  refine wpF_skip ?_
  refine wpF_region ?_
  refine lq rfl (q_add rfl y8 rfl (by constructor <;> omega)) ?_
  refine lm (v := I ((k : Int) + 1)) rfl rfl rfl ?_
  refine wpL_nil ?_
  refine ⟨_, ?_, k + 1, rfl, (by omega), (all_succ hno (by simpa using hg)), y0, y1, y7, (Eq.trans rfl (congrArg I (by omega))), hS4⟩
  omega
 refine wpF_seq ?_
 refine wpF_region ?_
 refine lm (v := I ((k : Int))) rfl rfl rfl ?_
 refine la (v := I ((k : Int))) rfl rfl rfl ?_
 refine wpL_nil ?_
 refine wpF_ret ?_
 refine ⟨_, resT rfl resN, hS4.frame, ?_⟩
 show (I ((k : Int))) = I (idxOf gp l)
 exact congrArg I (idxOf_at (by omega) hno (by simpa using hg)).symm
set_option maxRecDepth 100000 in
theorem ContainsFunc {H0 : Heap} (vs vf : Value) (l : List Int) (gp : Int → Bool) (rs : Rd NoB H0 vs l) (hf : ∀ x, x ∈ l → ∀ H, Ext NoB H0 H → FnH Try.prog vf #[I x] H (fun rv H' => Ext NoB H H' ∧ rv = B (gp x))) : CallsH Try.prog 78 #[vs, vf] H0 (fun rv_ H' => Ext NoB H0 H' ∧ rv_ = B (l.any gp)) := by
 have hS0 : St H0 NoB NoB [rdE vs l] H0 := St.arg (St.start (fun _ h => h.elim)) (Bl0.nil) rs (fun _ h => h)
 refine callsH_of_wpF (args := [vs, vf]) (rs := [.tmp 4]) Try.func78 rfl Try.ntmps78 Try.results78 (by kernel_rfl) (Nat.le_of_ble_eq_true rfl) ?_
 have y0 : argF [vs, vf] 0 = vs := rfl
 have y1 : argF [vs, vf] 1 = vf := rfl
 generalize argF [vs, vf] = f0 at *
 refine wpF_seq ?_
 refine wpF_region ?_
 refine la (v := B (false)) rfl rfl rfl ?_
 refine wpL_nil ?_
 refine wpF_seq ?_
 refine wpF_region ?_
 refine lm (v := vs) rfl rfl y0 ?_
 refine lm (v := vf) rfl rfl y1 ?_
 refine lo rfl ?_
 refine e_call rfl Try.call75 (arr2 (v0 := vs) (v1 := vf) rfl rfl) (IndexFunc vs vf l gp (hS0.rdN 0 rfl) (fun x hx H hE => hf x hx H (hS0.frame.trans hE))) ?_
 rintro _ H1 ⟨hxx, rfl⟩
 have hS2 := hS0.ext hxx
 refine lq rfl (q_geq rfl rfl rfl) ?_
 refine la (v := B (decide (0 ≤ (idxOf gp l)))) rfl rfl rfl ?_
 refine wpL_nil ?_
 refine wpF_ret ?_
 refine ⟨_, resT rfl resN, hS2.frame, ?_⟩
 show (B (decide (0 ≤ (idxOf gp l)))) = B (l.any gp)
 exact congrArg B (bool_congr_of idxOf_any.symm).symm
set_option maxRecDepth 100000 in
theorem Picked {H0 : Heap} (a n : Int) (hn : 1 ≤ n ∧ n ≤ 9223372036854775807) : CallsH Try.prog 5 #[I (a), I (n)] H0 (fun rv_ H' => Ext NoB H0 H' ∧ rv_ = I (pickI a n) ∧ (0 ≤ pickI a n ∧ pickI a n < n)) := by
 have htm := tmod_rng (a := a) hn.1
 have hS0 : St H0 NoB NoB [] H0 := St.start (fun _ h => h.elim)
 refine callsH_of_wpF (args := [I (a), I (n)]) (rs := [.tmp 4]) Try.func5 rfl Try.ntmps5 Try.results5 (by kernel_rfl) (Nat.le_of_ble_eq_true rfl) ?_
 have y0 : argF [I (a), I (n)] 0 = I (a) := rfl
 have y1 : argF [I (a), I (n)] 1 = I (n) := rfl
 generalize argF [I (a), I (n)] = f0 at *
 refine wpF_seq ?_
 refine wpF_region ?_
 refine la (v := I (0)) rfl rfl rfl ?_
 refine wpL_nil ?_
 refine wpF_seq ?_
 refine wpF_region ?_
 refine lm (v := I (a)) rfl rfl y0 ?_
 refine lm (v := I (n)) rfl rfl y1 ?_
 refine lq rfl (q_rem rfl rfl rfl (by omega)) ?_
 refine la (v := I (a.tmod n)) rfl rfl rfl ?_
 refine wpL_nil ?_
 refine wpF_seq ?_
 refine wpF_seq ?_
 refine wpF_region ?_
 refine lm (v := I (a.tmod n)) rfl rfl rfl ?_
 refine lq rfl (q_lss rfl rfl rfl) ?_
 refine wpL_nil ?_
 refine wpF_condP rfl (fun h9 => ?t2) (fun h9 => ?e2)
 case e2 =>
  refine wpF_skip ?_
  refine wpF_seq ?_
  refine wpF_region ?_
  refine lm (v := I (a.tmod n)) rfl rfl rfl ?_
  refine la (v := I (a.tmod n)) rfl rfl rfl ?_
  refine wpL_nil ?_
  refine wpF_ret ?_
  refine ⟨_, resT rfl resN, hS0.frame, ?_⟩
  show (I (a.tmod n)) = I (pickI a n) ∧ (0 ≤ pickI a n ∧ pickI a n < n)
  exact ⟨congrArg I (pickI_pos h9).symm, pickI_rng hn.1⟩
 refine wpF_seq ?_
 refine wpF_region ?_
 refine lm (v := I (a.tmod n)) rfl rfl rfl ?_
 refine lm (v := I (n)) rfl rfl y1 ?_
 refine lq rfl (q_add rfl rfl rfl (by constructor <;> omega)) ?_
 refine la (v := I ((a.tmod n) + n)) rfl rfl rfl ?_
 refine wpL_nil ?_
 refine wpF_ret ?_
 refine ⟨_, resT rfl resN, hS0.frame, ?_⟩
 show (I ((a.tmod n) + n)) = I (pickI a n) ∧ (0 ≤ pickI a n ∧ pickI a n < n)
 exact ⟨congrArg I (pickI_neg h9).symm, pickI_rng hn.1⟩
set_option maxRecDepth 100000 in
theorem Var_C {H0 : Heap} (l : Int) (hl : -120 ≤ l ∧ l ≤ 120) : CallsH Try.prog 32 #[I (l)] H0 (fun rv_ H' => Ext NoB H0 H' ∧ rv_ = I (varA l)) := by
 have hS0 : St H0 NoB NoB [] H0 := St.start (fun _ h => h.elim)
 refine callsH_of_wpF (args := [I (l)]) (rs := [.tmp 2]) Try.func32 rfl Try.ntmps32 Try.results32 (by kernel_rfl) (Nat.le_of_ble_eq_true rfl) ?_
 have y0 : argF [I (l)] 0 = I (l) := rfl
 generalize argF [I (l)] = f0 at *
 refine wpF_seq ?_
 refine wpF_region ?_
 refine la (v := I (0)) rfl rfl rfl ?_
 refine wpL_nil ?_
 refine wpF_seq ?_
 refine wpF_region ?_
 refine lm (v := I (l)) rfl rfl y0 ?_
 refine lm (v := I (l)) rfl rfl y0 ?_
 refine lq rfl (q_neg rfl rfl (by constructor <;> omega)) ?_
 refine lq rfl (q_max rfl rfl rfl) ?_
 refine la (v := I (max l (-l))) rfl rfl rfl ?_
 refine wpL_nil ?_
 refine wpF_ret ?_
 refine ⟨_, resT rfl resN, hS0.frame, ?_⟩
 show (I (max l (-l))) = I (varA l)
 rfl
set_option maxRecDepth 100000 in
theorem Bad_1 {H0 : Heap} (y x : Int) (gx : Nat) (hb : H0[gx]? = some (.cells #[I x] 3)) (hy : -120 ≤ y ∧ y ≤ 120) (hx : -120 ≤ x ∧ x ≤ 120) : CallsH Try.prog 79 #[I (y), PT gx 0] H0 (fun rv_ H' => Ext NoB H0 H' ∧ rv_ = B (decide (varA y = varA x))) := by
 have hS0 : St H0 NoB NoB [fixE gx (.cells #[I (x)] 3)] H0 := St.argFix (St.start (fun _ h => h.elim)) (Bl0.nil) hb (fun h => h)
 refine callsH_of_wpF (args := [I (y), PT gx 0]) (rs := [.tmp 3]) Try.func79 rfl Try.ntmps79 Try.results79 (by kernel_rfl) (Nat.le_of_ble_eq_true rfl) ?_
 have y0 : argF [I (y), PT gx 0] 0 = I (y) := rfl
 have y1 : argF [I (y), PT gx 0] 1 = PT gx 0 := rfl
 generalize argF [I (y), PT gx 0] = f0 at *
 refine wpF_seq ?_
 refine wpF_region ?_
 refine la (v := B (false)) rfl rfl rfl ?_
 refine wpL_nil ?_
 refine wpF_seq ?_
 refine wpF_drawn [] [] (fun _ _ => False) (by kernel_rfl) (by kernel_rfl) ?_
 refine rq 0 (by kernel_rfl) rfl rfl (q_move (v := I (y)) rfl y0) ?_
 refine rq 2 (by kernel_rfl) rfl rfl (q_loadBlk rfl y1 Try.isAgg3 (hS0.fixd 0 rfl) rfl (labU_not [] rfl (fe))) ?_
 refine wpR_n [1] (by kernel_rfl) ?_
 refine fa ?_ fe
 refine exE rfl rfl ?_
 refine e_call rfl Try.call32 (arr1 (v0 := I (y)) rfl) (Var_C y (by omega)) ?_
 rintro _ H1o1 ⟨hxx, rfl⟩
 have hS1o1 := hS0.ext hxx
 refine ⟨Ext.mono hxx (fun _ h => h.elim), ?_⟩
 refine wpR_n [3] (by kernel_rfl) ?_
 refine fa ?_ fe
 refine exE rfl rfl ?_
 refine e_call rfl Try.call32 (arr1 (v0 := I (x)) rfl) (Var_C x (by omega)) ?_
 rintro _ H1o3 ⟨hxx, rfl⟩
 have hS1o3 := hS1o1.ext hxx
 refine ⟨Ext.mono hxx (fun _ h => h.elim), ?_⟩
 refine rq 4 (by kernel_rfl) rfl rfl (q_eql rfl rfl rfl) ?_
 refine rq 5 (by kernel_rfl) rfl rfl (q_assign (v := B (decide ((varA y) = (varA x)))) rfl rfl) ?_
 refine wpR_end (by kernel_rfl) ?_
 skip
 refine wpF_ret ?_
 refine ⟨_, resT rfl resN, hS1o3.frame, ?_⟩
 show (B (decide ((varA y) = (varA x)))) = B (decide (varA y = varA x))
 rfl
set_option maxRecDepth 100000 in
theorem Bad_C {H0 : Heap} (vl : Value) (l : List Int) (vars : Int) (rl : Rd NoB H0 vl l) (hv : 0 ≤ vars ∧ vars ≤ 120) (hok : litsOk vars l) : CallsH Try.prog 64 #[vl, I (vars)] H0 (fun rv_ H' => Ext NoB H0 H' ∧ rv_ = Value.tuple #[I 0, I 0]) := by
 have hsm := (Rd.list.1 rl).small
 have hS0 : St H0 NoB NoB [rdE vl l] H0 := St.arg (St.start (fun _ h => h.elim)) (Bl0.nil) rl (fun _ h => h)
 refine callsH_of_wpF (args := [vl, I (vars)]) (rs := [.tmp 4, .tmp 5]) Try.func64 rfl Try.ntmps64 Try.results64 (by kernel_rfl) (Nat.le_of_ble_eq_true rfl) ?_
 have y0 : argF [vl, I (vars)] 0 = vl := rfl
 have y1 : argF [vl, I (vars)] 1 = I (vars) := rfl
 generalize argF [vl, I (vars)] = f0 at *
 refine wpF_seq ?_
 refine wpF_region ?_
 refine la (v := I (0)) rfl rfl rfl ?_
 refine la (v := I (0)) rfl rfl rfl ?_
 refine wpL_nil ?_
 refine wpF_seq ?_
 refine wpF_seq ?_
 refine wpF_region ?_
 refine lm (v := vl) rfl rfl y0 ?_
 refine lq rfl (q_lenRd rfl Try.underlying22 rfl (hS0.rdl 0 rfl)) ?_
 refine lm (v := I (0)) rfl rfl rfl ?_
 refine wpL_nil ?_
 refine wpF_block ?_
 refine wpF_loop (fun mz f H => ∃ (k : Nat), mz = l.length - k ∧ (k ≤ l.length) ∧ f 0 = vl ∧ f 1 = I (vars) ∧ f 8 = vl ∧ f 9 = I ((l.length : Int)) ∧ f 10 = I ((k : Int)) ∧ St H0 NoB NoB [rdE vl l] H) (l.length - 0) ?_ ?_
 ·exact ⟨0, rfl, Nat.zero_le _, y0, y1, rfl, rfl, (Eq.trans rfl (congrArg I (by omega))), hS0⟩
 intro m1 f1 H1 hI1
 clear y0 y1
 obtain ⟨k, hm1, hk, y0, y1, y8, y9, y10, hS1⟩ := hI1
 refine wpF_seq ?_
 refine wpF_region ?_
 refine lq rfl (q_lss rfl y10 y9) ?_
 refine wpL_nil ?_
 refine wpF_seq ?_
 refine wpF_condP rfl (fun hlt => ?t23) (fun hlt => ?e23)
 case e23 =>
  refine wpF_exit ?_
  refine atX_here ?_
  refine wpF_seq ?_
  refine wpF_region ?_
  refine la (v := I (0)) rfl rfl rfl ?_
  refine la (v := I (0)) rfl rfl rfl ?_
  refine wpL_nil ?_
  refine wpF_ret ?_
  refine ⟨_, resT rfl (resT rfl resN), hS1.frame, ?_⟩
  show (Value.tuple #[I (0), I (0)]) = Value.tuple #[I 0, I 0]
  rfl
 obtain ⟨a1, a2, a3, a4⟩ := hok k (by omega)
 have hxr : -120 ≤ nth l k ∧ nth l k ≤ 120 := by omega
 have htk : ∀ y ∈ l.take k, -120 ≤ y ∧ y ≤ 120 := fun y hy => by obtain ⟨j, hj, rfl⟩ := nth_of_mem (List.mem_of_mem_take hy); obtain ⟨b1, b2, b3, _⟩ := hok j hj; omega
 refine wpF_skip ?_
 refine wpF_seq ?_
 refine wpF_block ?_
 refine wpF_seq ?_
 refine wpF_region ?_
 refine lm (v := I ((k : Int))) rfl rfl y10 ?_
 refine lq rfl (q_indexRd (k := k) rfl Try.underlying22 el_Int_3_CardC1 y8 y10 (hS1.rdl 0 rfl) (by omega) (by omega)) ?_
 refine lq rfl (q_loadInt (k := k) rfl rfl el_Int_3_CardC1 (hS1.rdl 0 rfl) (by omega) (fun _ h => h)) ?_
 refine lo rfl ?_
 refine e_alloc rfl Try.zeroValue3 hS1 (fun g3 H4 hS5 hxx => ?_)
 refine la (v := I ((k : Int))) rfl rfl rfl ?_
 refine lo rfl ?_
 refine e_storeBlk (v := I (nth l k)) rfl rfl rfl rfl Try.sizeOf3 (by show _ < 1; decide) hS5 (fun H6 hS7 hxx => ?_)
 refine wpL_nil ?_
 refine wpF_block ?_
 refine fcr (fun f H => f 0 = vl ∧ f 1 = I (vars) ∧ f 6 = I ((k : Int)) ∧ f 7 = PT g3 0 ∧ f 8 = vl ∧ f 9 = I ((l.length : Int)) ∧ f 10 = I ((k : Int)) ∧ f 15 = B (decide ((((nth l k) = 0) ∨ ((nth l k) < (-vars))) ∨ (vars < (nth l k)))) ∧ H6 = H) ?_ ?_
 ·refine lq rfl (q_loadBlk rfl rfl Try.isAgg3 (hS7.blk 0 rfl) rfl (fun h => h)) ?_
  refine lq rfl (q_eql rfl rfl rfl) ?_
  refine lm (v := B (decide ((nth l k) = 0))) rfl rfl rfl ?_
  by_cases hg8 : (nth l k) = 0
  ·have hb9 := Eq.trans rfl (congrArg B (decide_eq_true hg8))
   refine wpL_gs rfl rfl rfl hb9 rfl ?_
   refine wpL_gs rfl rfl rfl hb9 rfl ?_
   refine wpL_gs rfl rfl rfl hb9 rfl ?_
   refine wpL_gs rfl rfl rfl hb9 rfl ?_
   refine lq rfl (q_pickT (v := B (true)) rfl hb9 rfl) ?_
   refine lm (v := B (true)) rfl rfl rfl ?_
   refine wpL_gs rfl rfl rfl rfl rfl ?_
   refine wpL_gs rfl rfl rfl rfl rfl ?_
   refine wpL_gs rfl rfl rfl rfl rfl ?_
   refine lq rfl (q_pickT (v := B (true)) rfl rfl rfl) ?_
   refine la (v := B (true)) rfl rfl rfl ?_
   exact ⟨y0, y1, rfl, rfl, y8, y9, y10, (Eq.trans rfl (congrArg B ((decide_eq_true (Or.inl (Or.inl hg8))).symm))), rfl⟩
  ·have hb10 := Eq.trans rfl (congrArg B (decide_eq_false hg8))
   refine gq rfl rfl rfl hb10 (q_loadBlk rfl rfl Try.isAgg3 (hS7.blk 0 rfl) rfl (fun h => h)) ?_
   refine gq rfl rfl rfl hb10 (q_move (v := I (vars)) rfl y1) ?_
   refine gq rfl rfl rfl hb10 (q_neg rfl rfl (by constructor <;> omega)) ?_
   refine gq rfl rfl rfl hb10 (q_lss rfl rfl rfl) ?_
   refine lq rfl (q_pickF (v := B (decide ((nth l k) < (-vars)))) rfl hb10 rfl) ?_
   refine lm (v := B (decide ((nth l k) < (-vars)))) rfl rfl rfl ?_
   by_cases hg11 : (nth l k) < (-vars)
   ·have hb12 := Eq.trans rfl (congrArg B (decide_eq_true hg11))
    refine wpL_gs rfl rfl rfl hb12 rfl ?_
    refine wpL_gs rfl rfl rfl hb12 rfl ?_
    refine wpL_gs rfl rfl rfl hb12 rfl ?_
    refine lq rfl (q_pickT (v := B (true)) rfl hb12 rfl) ?_
    refine la (v := B (true)) rfl rfl rfl ?_
    exact ⟨y0, y1, rfl, rfl, y8, y9, y10, (Eq.trans rfl (congrArg B ((decide_eq_true (Or.inl (Or.inr hg11))).symm))), rfl⟩
   ·have hb13 := Eq.trans rfl (congrArg B (decide_eq_false hg11))
    refine gq rfl rfl rfl hb13 (q_loadBlk rfl rfl Try.isAgg3 (hS7.blk 0 rfl) rfl (fun h => h)) ?_
    refine gq rfl rfl rfl hb13 (q_move (v := I (vars)) rfl y1) ?_
    refine gq rfl rfl rfl hb13 (q_gtr rfl rfl rfl) ?_
    refine lq rfl (q_pickF (v := B (decide (vars < (nth l k)))) rfl hb13 rfl) ?_
    refine la (v := B (decide (vars < (nth l k)))) rfl rfl rfl ?_
    exact ⟨y0, y1, rfl, rfl, y8, y9, y10, (Eq.trans rfl (congrArg B (decide_congr_of ((Iff.rfl).trans (((or_iff_right (not_or.2 ⟨hg8, hg11⟩)).trans Iff.rfl)).symm)))), rfl⟩
 clear y0 y1 y10 y8 y9
 rintro f14 _ ⟨y0, y1, y6, y7, y8, y9, y10, y15, rfl⟩
 refine wpF_condP y15 (fun h15 => ?t22) (fun h15 => ?e22)
 case t22 =>
  refine wpF_seq ?_
  refine wpF_region ?_
  refine lm (v := I ((k : Int))) rfl rfl y6 ?_
  refine la (v := I ((k : Int))) rfl rfl rfl ?_
  refine la (v := I (3)) rfl rfl rfl ?_
  refine wpL_nil ?_
  refine wpF_ret ?_
  refine ⟨_, resT rfl (resT rfl resN), hS7.frame, ?_⟩
  show (Value.tuple #[I ((k : Int)), I (3)]) = Value.tuple #[I 0, I 0]
  exact absurd h15 (by omega)
 refine wpF_seq ?_
 refine wpF_region ?_
 refine lm (v := vl) rfl rfl y0 ?_
 refine lm (v := I ((k : Int))) rfl rfl y6 ?_
 have hS16 : St H0 NoB NoB [rdE (sliceV 1 vl 0 k) (l.take k : List Int), bE g3 #[I (nth l k)] 3, rdE vl l] H6 := hS7.rd (Rd.list.2 (sliceV_hi (m := k) (Rd.list.1 (hS7.rdS 1 rfl)) (by omega)))
 refine lq rfl (q_sliceRd (k := 0) (m := k) rfl Try.underlying22 el_Int_3_CardC1 rfl (hS7.rdl 1 rfl) lo0 (lo1 rfl (by omega)) (by omega) (by omega)) ?_
 refine lq rfl (q_makeFunc (fi' := #[]) rfl (by simp) (arr1 (v0 := PT g3 0) y7)) ?_
 refine lo rfl ?_
 refine e_call rfl Try.call78 (arr2 (v0 := (sliceV 1 vl 0 k)) (v1 := Value.func (.func 79) #[] #[PT g3 0]) rfl rfl) (ContainsFunc ((sliceV 1 vl 0 k)) (Value.func (.func 79) #[] #[PT g3 0]) (l.take k) (fun y => decide (varA y = varA (nth l k))) (hS16.rdN 0 rfl) (fun y hy H hE => ⟨_, _, rfl, Try.call79, Bad_1 y (nth l k) g3 (hE.blk (hS16.blk 1 rfl)) (htk y hy) hxr⟩)) ?_
 rintro _ H17 ⟨hxx, rfl⟩
 have hS18 := hS16.ext hxx
 refine la (v := B ((l.take k).any (fun y => decide (varA y = varA (nth l k))))) rfl rfl rfl ?_
 refine wpL_nil ?_
 refine wpF_cond rfl (fun h30 => ?t21) (fun h30 => ?e21)
 case e21 =>
  refine wpF_skip ?_
  refine wpF_region ?_
  refine lq rfl (q_add rfl y10 rfl (by constructor <;> omega)) ?_
  refine lm (v := I ((k : Int) + 1)) rfl rfl rfl ?_
  refine wpL_nil ?_
  refine ⟨_, ?_, k + 1, rfl, (by omega), y0, y1, y8, y9, (Eq.trans rfl (congrArg I (by omega))), (hS18.drop (sn (sn (sk (List.Sublist.slnil)))))⟩
  omega
 refine wpF_seq ?_
 refine wpF_region ?_
 refine lm (v := I ((k : Int))) rfl rfl y6 ?_
 refine la (v := I ((k : Int))) rfl rfl rfl ?_
 refine la (v := I (7)) rfl rfl rfl ?_
 refine wpL_nil ?_
 refine wpF_ret ?_
 refine ⟨_, resT rfl (resT rfl resN), hS18.frame, ?_⟩
 show (Value.tuple #[I ((k : Int)), I (7)]) = Value.tuple #[I 0, I 0]
 exfalso
 obtain ⟨y, hy, hd⟩ := List.any_eq_true.1 h30
 exact a4 y hy (of_decide_eq_true hd)
set_option maxRecDepth 100000 in
theorem List_C {H0 : Heap} (vl : Value) (l : List Int) (vars : Int) (rl : Rd NoB H0 vl l) (hv : 0 ≤ vars ∧ vars ≤ 120) (hok : litsOk vars l) : CallsH Try.prog 47 #[vl, I (vars)] H0 (fun rv_ H' => Ext NoB H0 H' ∧ rv_ = Vg #[I (0), I (0)]) := by
 have hS0 : St H0 NoB NoB [rdE vl l] H0 := St.arg (St.start (fun _ h => h.elim)) (Bl0.nil) rl (fun _ h => h)
 refine callsH_of_wpF (args := [vl, I (vars)]) (rs := [.cell 4 28]) Try.func47 rfl Try.ntmps47 Try.results47 (by kernel_rfl) (Nat.le_of_ble_eq_true rfl) ?_
 have y0 : argF [vl, I (vars)] 0 = vl := rfl
 have y1 : argF [vl, I (vars)] 1 = I (vars) := rfl
 generalize argF [vl, I (vars)] = f0 at *
 refine wpF_seq ?_
 refine wpF_region ?_
 refine lo rfl ?_
 refine e_alloc rfl Try.zeroValue28 hS0 (fun g1 H2 hS3 hxx => ?_)
 refine wpL_nil ?_
 refine wpF_seq ?_
 refine wpF_seq ?_
 refine wpF_region ?_
 refine lm (v := vl) rfl rfl y0 ?_
 refine lm (v := I (vars)) rfl rfl y1 ?_
 refine lo rfl ?_
 refine e_call rfl Try.call64 (arr2 (v0 := vl) (v1 := I (vars)) rfl rfl) (Bad_C vl l vars (hS3.rdN 1 rfl) (by omega) hok) ?_
 rintro _ H4 ⟨hxx, rfl⟩
 have hS5 := hS3.ext hxx
 refine lm (v := Value.tuple #[I (0), I (0)]) rfl rfl rfl ?_
 refine lq rfl (q_extract (vs := #[I (0), I (0)]) (v := I (0)) rfl rfl rfl) ?_
 refine lq rfl (q_extract (vs := #[I (0), I (0)]) (v := I (0)) rfl rfl rfl) ?_
 refine la (v := I (0)) rfl rfl rfl ?_
 refine la (v := I (0)) rfl rfl rfl ?_
 refine wpL_nil ?_
 refine wpF_seq ?_
 refine wpF_region ?_
 refine lm (v := I (0)) rfl rfl rfl ?_
 refine lq rfl (q_neq rfl rfl rfl) ?_
 refine wpL_nil ?_
 refine wpF_condF (Eq.trans rfl (congrArg B (decide_eq_false (by decide)))) ?_
 refine wpF_skip ?_
 refine wpF_seq ?_
 refine wpF_region ?_
 refine lq rfl (q_build (v := Vg #[I (0), I (0)]) rfl par0 (fun w__ => by kernel_rfl)) ?_
 refine lo rfl ?_
 refine e_storeBlkA (cs' := #[I (0), I (0)]) rfl rfl rfl Try.sizeOf28 rfl rfl (fa rfl (fa rfl fe)) hS5 (fun H7 hS8 hxx => ?_)
 refine wpL_nil ?_
 refine wpF_ret ?_
 refine ⟨_, resC rfl (loadV_blkA Try.isAgg28 Try.sizeOf28 rfl (hS8.blk 0 rfl)) (resN), hS8.frame, ?_⟩
 show (Vg #[I (0), I (0)]) = Vg #[I (0), I (0)]
 rfl
set_option maxRecDepth 100000 in
theorem Check_C {H0 : Heap} (vC : Value) (C : List (List Int)) (vars : Int) (rC : Rd NoB H0 vC C) (hok : cnfOk vars C) : CallsH Try.prog 37 #[Vg #[I (vars), vC]] H0 (fun rv_ H' => Ext NoB H0 H' ∧ rv_ = Vg #[I (0), I (0)]) := by
 have hsm := (Rd.list.1 rC).small
 obtain ⟨hv1, hv2, hv3, hcs⟩ := hok
 have hS0 : St H0 NoB NoB [rdE vC C] H0 := St.arg (St.start (fun _ h => h.elim)) (Bl0.nil) rC (fun _ h => h)
 refine callsH_of_wpF (args := [Vg #[I (vars), vC]]) (rs := [.cell 2 28]) Try.func37 rfl Try.ntmps37 Try.results37 (by kernel_rfl) (Nat.le_of_ble_eq_true rfl) ?_
 have y0 : argF [Vg #[I (vars), vC]] 0 = Vg #[I (vars), vC] := rfl
 generalize argF [Vg #[I (vars), vC]] = f0 at *
 refine wpF_seq ?_
 refine wpF_region ?_
 refine lo rfl ?_
 refine e_box (v := Vg #[I (vars), vC]) rfl y0 hS0 (fun g1 H2 hS3 hxx => ?_)
 refine lo rfl ?_
 refine e_alloc rfl Try.zeroValue28 hS3 (fun g4 H5 hS6 hxx => ?_)
 refine wpL_nil ?_
 refine wpF_seq ?_
 refine wpF_block ?_
 refine fcr (fun f H => f 1 = PT g1 0 ∧ f 2 = PT g4 0 ∧ f 7 = B (decide ((vars < 0) ∨ (120 < vars))) ∧ H5 = H) ?_ ?_
 ·refine lq rfl (q_fieldAddr rfl Try.underlying26 rfl Try.sizeOf3 rfl) ?_
  refine lq rfl (q_loadBlk rfl rfl Try.isAgg3 (hS6.blk 1 rfl) rfl (fun h => h)) ?_
  refine lq rfl (q_lss rfl rfl rfl) ?_
  refine lm (v := B (decide (vars < 0))) rfl rfl rfl ?_
  by_cases hg7 : vars < 0
  ·have hb8 := Eq.trans rfl (congrArg B (decide_eq_true hg7))
   refine wpL_gs rfl rfl rfl hb8 rfl ?_
   refine wpL_gs rfl rfl rfl hb8 rfl ?_
   refine wpL_gs rfl rfl rfl hb8 rfl ?_
   refine lq rfl (q_pickT (v := B (true)) rfl hb8 rfl) ?_
   refine la (v := B (true)) rfl rfl rfl ?_
   exact ⟨rfl, rfl, (Eq.trans rfl (congrArg B ((decide_eq_true (Or.inl hg7)).symm))), rfl⟩
  ·have hb9 := Eq.trans rfl (congrArg B (decide_eq_false hg7))
   refine gq rfl rfl rfl hb9 (q_fieldAddr rfl Try.underlying26 rfl Try.sizeOf3 rfl) ?_
   refine gq rfl rfl rfl hb9 (q_loadBlk rfl rfl Try.isAgg3 (hS6.blk 1 rfl) rfl (fun h => h)) ?_
   refine gq rfl rfl rfl hb9 (q_gtr rfl rfl rfl) ?_
   refine lq rfl (q_pickF (v := B (decide (120 < vars))) rfl hb9 rfl) ?_
   refine la (v := B (decide (120 < vars))) rfl rfl rfl ?_
   exact ⟨rfl, rfl, (Eq.trans rfl (congrArg B (decide_congr_of ((Iff.rfl).trans (((or_iff_right hg7).trans Iff.rfl)).symm)))), rfl⟩
 rintro f10 _ ⟨y1, y2, y7, rfl⟩
 refine wpF_condP y7 (fun h7 => ?t32) (fun h7 => ?e32)
 case t32 =>
  refine wpF_seq ?_
  refine wpF_region ?_
  refine lq rfl (q_build (v := Vg #[I (3), I (0)]) rfl (par1 (v0 := I (3)) rfl) (fun w__ => by kernel_rfl)) ?_
  refine lo rfl ?_
  refine e_storeBlkA (cs' := #[I (3), I (0)]) rfl y2 rfl Try.sizeOf28 rfl rfl (fa rfl (fa rfl fe)) hS6 (fun H12 hS13 hxx => ?_)
  refine wpL_nil ?_
  refine wpF_ret ?_
  refine ⟨_, resC y2 (loadV_blkA Try.isAgg28 Try.sizeOf28 rfl (hS13.blk 0 rfl)) (resN), hS13.frame, ?_⟩
  show (Vg #[I (3), I (0)]) = Vg #[I (0), I (0)]
  exact absurd h7 (by omega)
 refine wpF_seq ?_
 refine wpF_region ?_
 refine lq rfl (q_fieldAddr rfl Try.underlying26 rfl Try.sizeOf24 y1) ?_
 refine lq rfl (q_loadBlk rfl rfl Try.isAgg24 (hS6.blk 1 rfl) rfl (fun h => h)) ?_
 refine lq rfl (q_lenRd rfl Try.underlying24 rfl (hS6.rdl 2 rfl)) ?_
 refine lq rfl (q_gtr rfl rfl rfl) ?_
 refine la (v := B (decide (400 < (C.length : Int)))) rfl rfl rfl ?_
 refine wpL_nil ?_
 refine wpF_condP rfl (fun h17 => ?t31) (fun h17 => ?e31)
 case t31 =>
  refine wpF_seq ?_
  refine wpF_region ?_
  refine lq rfl (q_build (v := Vg #[I (2), I (0)]) rfl (par1 (v0 := I (2)) rfl) (fun w__ => by kernel_rfl)) ?_
  refine lo rfl ?_
  refine e_storeBlkA (cs' := #[I (2), I (0)]) rfl y2 rfl Try.sizeOf28 rfl rfl (fa rfl (fa rfl fe)) hS6 (fun H15 hS16 hxx => ?_)
  refine wpL_nil ?_
  refine wpF_ret ?_
  refine ⟨_, resC y2 (loadV_blkA Try.isAgg28 Try.sizeOf28 rfl (hS16.blk 0 rfl)) (resN), hS16.frame, ?_⟩
  show (Vg #[I (2), I (0)]) = Vg #[I (0), I (0)]
  exact absurd h17 (by omega)
 refine wpF_skip ?_
 refine wpF_seq ?_
 refine wpF_seq ?_
 refine wpF_region ?_
 refine lq rfl (q_fieldAddr rfl Try.underlying26 rfl Try.sizeOf24 y1) ?_
 refine lq rfl (q_loadBlk rfl rfl Try.isAgg24 (hS6.blk 1 rfl) rfl (fun h => h)) ?_
 refine lq rfl (q_lenRd rfl Try.underlying24 rfl (hS6.rdl 2 rfl)) ?_
 refine lm (v := I (0)) rfl rfl rfl ?_
 refine wpL_nil ?_
 refine wpF_block ?_
 refine wpF_loop (fun mz f H => ∃ (k : Nat), mz = C.length - k ∧ (k ≤ C.length) ∧ f 1 = PT g1 0 ∧ f 2 = PT g4 0 ∧ f 24 = vC ∧ f 25 = I ((C.length : Int)) ∧ f 26 = I ((k : Int)) ∧ St H0 NoB NoB [bE g4 #[I (0), I (0)] 28, bE g1 #[I (vars), vC] 26, rdE vC C] H) (C.length - 0) ?_ ?_
 ·exact ⟨0, rfl, Nat.zero_le _, y1, y2, rfl, rfl, (Eq.trans rfl (congrArg I (by omega))), hS6⟩
 intro m17 f17 H17 hI17
 clear y1 y2
 obtain ⟨k, hm17, hk, y1, y2, y24, y25, y26, hS17⟩ := hI17
 refine wpF_seq ?_
 refine wpF_region ?_
 refine lq rfl (q_lss rfl y26 y25) ?_
 refine wpL_nil ?_
 refine wpF_seq ?_
 refine wpF_condP rfl (fun hlt => ?t30) (fun hlt => ?e30)
 case e30 =>
  refine wpF_exit ?_
  refine atX_here ?_
  refine wpF_seq ?_
  refine wpF_region ?_
  refine lq rfl (q_build (v := Vg #[I (0), I (0)]) rfl par0 (fun w__ => by kernel_rfl)) ?_
  refine lo rfl ?_
  refine e_storeBlkA (cs' := #[I (0), I (0)]) rfl y2 rfl Try.sizeOf28 rfl rfl (fa rfl (fa rfl fe)) hS17 (fun H28 hS29 hxx => ?_)
  refine wpL_nil ?_
  refine wpF_ret ?_
  refine ⟨_, resC y2 (loadV_blkA Try.isAgg28 Try.sizeOf28 rfl (hS29.blk 0 rfl)) (resN), hS29.frame, ?_⟩
  show (Vg #[I (0), I (0)]) = Vg #[I (0), I (0)]
  rfl
 obtain ⟨hcw, hcl⟩ := hcs (nth C k) (nth_mem (by omega))
 refine wpF_skip ?_
 refine wpF_seq ?_
 refine wpF_block ?_
 refine wpF_seq ?_
 obtain ⟨u19, huu19, hlu19⟩ := (Rd.list.1 (hS17.rdS 2 rfl)).elem k (by omega)
 have hS20 := hS17.rd huu19
 refine wpF_region ?_
 refine lm (v := I ((k : Int))) rfl rfl y26 ?_
 refine lq rfl (q_indexRd (k := k) rfl Try.underlying24 el_LInt_22_CardC1 y24 y26 (hS17.rdl 2 rfl) (by omega) (by omega)) ?_
 refine lq rfl (q_loadE rfl rfl (hlu19 Try.prog 22 _ el_LInt_22_CardC1 (fun _ h => False.elim h))) ?_
 refine la (v := I ((k : Int))) rfl rfl rfl ?_
 refine la (v := u19) rfl rfl rfl ?_
 refine wpL_nil ?_
 refine wpF_seq ?_
 refine wpF_seq ?_
 refine wpF_region ?_
 refine lm (v := u19) rfl rfl rfl ?_
 refine lq rfl (q_lenRd rfl Try.underlying22 rfl (hS20.rdl 0 rfl)) ?_
 refine lq rfl (q_gtr rfl rfl rfl) ?_
 refine wpL_nil ?_
 refine wpF_condP rfl (fun h33 => ?t27) (fun h33 => ?e27)
 case t27 =>
  refine wpF_seq ?_
  refine wpF_region ?_
  refine lm (v := I ((k : Int))) rfl rfl rfl ?_
  refine lq rfl (q_build (v := Vg #[I (2), I ((k : Int))]) rfl (par2 (v0 := I (2)) (v1 := I ((k : Int))) rfl rfl) (fun w__ => by kernel_rfl)) ?_
  refine lo rfl ?_
  refine e_storeBlkA (cs' := #[I (2), I ((k : Int))]) rfl y2 rfl Try.sizeOf28 rfl rfl (fa rfl (fa rfl fe)) (hS20.front 1 rfl) (fun H22 hS23 hxx => ?_)
  refine wpL_nil ?_
  refine wpF_ret ?_
  refine ⟨_, resC y2 (loadV_blkA Try.isAgg28 Try.sizeOf28 rfl (hS23.blk 0 rfl)) (resN), hS23.frame, ?_⟩
  show (Vg #[I (2), I ((k : Int))]) = Vg #[I (0), I (0)]
  exact absurd h33 (by omega)
 refine wpF_skip ?_
 refine wpF_seq ?_
 refine wpF_region ?_
 refine lm (v := u19) rfl rfl rfl ?_
 refine lq rfl (q_fieldAddr rfl Try.underlying26 rfl Try.sizeOf3 y1) ?_
 refine lq rfl (q_loadBlk rfl rfl Try.isAgg3 (hS20.blk 2 rfl) rfl (fun h => h)) ?_
 refine lo rfl ?_
 refine e_call rfl Try.call64 (arr2 (v0 := u19) (v1 := I (vars)) rfl rfl) (Bad_C u19 (nth C k) vars (hS20.rdN 0 rfl) (by omega) hcl) ?_
 rintro _ H24 ⟨hxx, rfl⟩
 have hS25 := hS20.ext hxx
 refine lm (v := Value.tuple #[I (0), I (0)]) rfl rfl rfl ?_
 refine lq rfl (q_extract (vs := #[I (0), I (0)]) (v := I (0)) rfl rfl rfl) ?_
 refine lq rfl (q_extract (vs := #[I (0), I (0)]) (v := I (0)) rfl rfl rfl) ?_
 refine la (v := I (0)) rfl rfl rfl ?_
 refine la (v := I (0)) rfl rfl rfl ?_
 refine wpL_nil ?_
 refine wpF_seq ?_
 refine wpF_region ?_
 refine lm (v := I (0)) rfl rfl rfl ?_
 refine lq rfl (q_neq rfl rfl rfl) ?_
 refine wpL_nil ?_
 refine wpF_condF (Eq.trans rfl (congrArg B (decide_eq_false (by decide)))) ?_
 refine wpF_skip ?_
 refine wpF_region ?_
 refine lq rfl (q_add rfl y26 rfl (by constructor <;> omega)) ?_
 refine lm (v := I ((k : Int) + 1)) rfl rfl rfl ?_
 refine wpL_nil ?_
 refine ⟨_, ?_, k + 1, rfl, (by omega), y1, y2, y24, y25, (Eq.trans rfl (congrArg I (by omega))), (hS25.drop (sn (sk (sk (sk (List.Sublist.slnil))))))⟩
 omega
set_option maxRecDepth 100000 in
theorem Both_C {H0 : Heap} (vC vl : Value) (C : List (List Int)) (l : List Int) (vars : Int) (rC : Rd NoB H0 vC C) (rl : Rd NoB H0 vl l) (hok : cnfOk vars C) (hlo : litsOk vars l) : CallsH Try.prog 22 #[Vg #[I (vars), vC], vl] H0 (fun rv_ H' => Ext NoB H0 H' ∧ rv_ = Vg #[I (0), I (0)]) := by
 have hv1 := hok.1
 have hv2 := hok.2.1
 have hS0 : St H0 NoB NoB [rdE vC C, rdE vl l] H0 := St.arg (St.arg (St.start (fun _ h => h.elim)) (Bl0.nil) rl (fun _ h => h)) (Bl0.cons (Bl0.nil)) rC (fun _ h => h)
 refine callsH_of_wpF (args := [Vg #[I (vars), vC], vl]) (rs := [.cell 4 28]) Try.func22 rfl Try.ntmps22 Try.results22 (by kernel_rfl) (Nat.le_of_ble_eq_true rfl) ?_
 have y0 : argF [Vg #[I (vars), vC], vl] 0 = Vg #[I (vars), vC] := rfl
 have y1 : argF [Vg #[I (vars), vC], vl] 1 = vl := rfl
 generalize argF [Vg #[I (vars), vC], vl] = f0 at *
 refine wpF_seq ?_
 refine wpF_region ?_
 refine lo rfl ?_
 refine e_box (v := Vg #[I (vars), vC]) rfl y0 hS0 (fun g1 H2 hS3 hxx => ?_)
 refine lo rfl ?_
 refine e_alloc rfl Try.zeroValue28 hS3 (fun g4 H5 hS6 hxx => ?_)
 refine wpL_nil ?_
 refine wpF_seq ?_
 refine wpF_seq ?_
 refine wpF_region ?_
 refine lq rfl (q_loadBlkA rfl rfl Try.isAgg26 Try.sizeOf26 rfl (hS6.blk 1 rfl) (fun h => h)) ?_
 refine lo rfl ?_
 refine e_call rfl Try.call37 (arr1 (v0 := Vg #[I (vars), vC]) rfl) (Check_C vC C vars (hS6.rdN 2 rfl) hok) ?_
 rintro _ H7 ⟨hxx, rfl⟩
 have hS8 := hS6.ext hxx
 refine lo rfl ?_
 refine e_alloc rfl Try.zeroValue28 hS8 (fun g10 H11 hS12 hxx => ?_)
 refine lo rfl ?_
 refine e_storeBlkA (cs' := #[I (0), I (0)]) rfl rfl rfl Try.sizeOf28 rfl rfl (fa rfl (fa rfl fe)) hS12 (fun H13 hS14 hxx => ?_)
 refine wpL_nil ?_
 refine wpF_seq ?_
 refine wpF_region ?_
 refine lq rfl (q_fieldAddr rfl Try.underlying28 rfl Try.sizeOf3 rfl) ?_
 refine lq rfl (q_loadBlk rfl rfl Try.isAgg3 (hS14.blk 0 rfl) rfl (fun h => h)) ?_
 refine lq rfl (q_neq rfl rfl rfl) ?_
 refine wpL_nil ?_
 refine wpF_condF (Eq.trans rfl (congrArg B (decide_eq_false (by decide)))) ?_
 refine wpF_skip ?_
 refine wpF_seq ?_
 refine wpF_region ?_
 refine lm (v := vl) rfl rfl y1 ?_
 refine lq rfl (q_fieldAddr rfl Try.underlying26 rfl Try.sizeOf3 rfl) ?_
 refine lq rfl (q_loadBlk rfl rfl Try.isAgg3 (hS14.blk 2 rfl) rfl (fun h => h)) ?_
 refine lo rfl ?_
 refine e_call rfl Try.call47 (arr2 (v0 := vl) (v1 := I (vars)) rfl rfl) (List_C vl l vars (hS14.rdN 4 rfl) (by omega) hlo) ?_
 rintro _ H15 ⟨hxx, rfl⟩
 have hS16 := hS14.ext hxx
 refine lo rfl ?_
 refine e_storeBlkA (cs' := #[I (0), I (0)]) rfl rfl rfl Try.sizeOf28 rfl rfl (fa rfl (fa rfl fe)) (hS16.front 1 rfl) (fun H18 hS19 hxx => ?_)
 refine wpL_nil ?_
 refine wpF_ret ?_
 refine ⟨_, resC rfl (loadV_blkA Try.isAgg28 Try.sizeOf28 rfl (hS19.blk 0 rfl)) (resN), hS19.frame, ?_⟩
 show (Vg #[I (0), I (0)]) = Vg #[I (0), I (0)]
 rfl
set_option maxRecDepth 100000 in
theorem Options_1 {H0 : Heap} (x m : Int)  : CallsH Try.prog 48 #[I (x), I (m)] H0 (fun rv_ H' => Ext NoB H0 H' ∧ rv_ = B (decide (0 ≤ x ∧ x ≤ m))) := by
 have hS0 : St H0 NoB NoB [] H0 := St.start (fun _ h => h.elim)
 refine callsH_of_wpF (args := [I (x), I (m)]) (rs := [.tmp 4]) Try.func48 rfl Try.ntmps48 Try.results48 (by kernel_rfl) (Nat.le_of_ble_eq_true rfl) ?_
 have y0 : argF [I (x), I (m)] 0 = I (x) := rfl
 have y1 : argF [I (x), I (m)] 1 = I (m) := rfl
 generalize argF [I (x), I (m)] = f0 at *
 refine wpF_seq ?_
 refine wpF_region ?_
 refine la (v := B (false)) rfl rfl rfl ?_
 refine wpL_nil ?_
 refine fcr (fun f H => f 4 = B (decide ((0 ≤ x) ∧ (x ≤ m))) ∧ H0 = H) ?_ ?_
 ·refine lm (v := I (x)) rfl rfl y0 ?_
  refine lq rfl (q_geq rfl rfl rfl) ?_
  refine lm (v := B (decide (0 ≤ x))) rfl rfl rfl ?_
  by_cases hg1 : 0 ≤ x
  ·have hb2 := Eq.trans rfl (congrArg B (decide_eq_true hg1))
   refine gq rfl rfl rfl hb2 (q_move (v := I (x)) rfl y0) ?_
   refine gq rfl rfl rfl hb2 (q_move (v := I (m)) rfl y1) ?_
   refine gq rfl rfl rfl hb2 (q_leq rfl rfl rfl) ?_
   refine lq rfl (q_pickT (v := B (decide (x ≤ m))) rfl hb2 rfl) ?_
   refine la (v := B (decide (x ≤ m))) rfl rfl rfl ?_
   exact ⟨(Eq.trans rfl (congrArg B (decide_congr_of ((Iff.rfl).trans (((and_iff_right hg1).trans Iff.rfl)).symm)))), rfl⟩
  ·have hb3 := Eq.trans rfl (congrArg B (decide_eq_false hg1))
   refine wpL_gs rfl rfl rfl hb3 rfl ?_
   refine wpL_gs rfl rfl rfl hb3 rfl ?_
   refine wpL_gs rfl rfl rfl hb3 rfl ?_
   refine lq rfl (q_pickF (v := B (false)) rfl hb3 rfl) ?_
   refine la (v := B (false)) rfl rfl rfl ?_
   exact ⟨(Eq.trans rfl (congrArg B ((decide_eq_false (fun h => hg1 h.1)).symm))), rfl⟩
 clear y0 y1
 rintro f4 _ ⟨y4, rfl⟩
 refine wpF_ret ?_
 refine ⟨_, resT y4 resN, hS0.frame, ?_⟩
 show (B (decide ((0 ≤ x) ∧ (x ≤ m)))) = B (decide (0 ≤ x ∧ x ≤ m))
 rfl
set_option maxRecDepth 100000 in
theorem Options_C {H0 : Heap} (s r q p u : Int) (hs : 0 ≤ s ∧ s ≤ 1000) (hr : 0 ≤ r ∧ r ≤ 1000000) (hk : 0 ≤ q ∧ q ≤ 1000000) (hp : 0 ≤ p ∧ p ≤ 2) (hf : 0 ≤ u ∧ u ≤ 2000) : CallsH Try.prog 23 #[Vg #[I (s), I (r), I (q), I (p)], I (u)] H0 (fun rv_ H' => Ext NoB H0 H' ∧ rv_ = Vg #[I (0), I (0)]) := by
 have hS0 : St H0 NoB NoB [] H0 := St.start (fun _ h => h.elim)
 refine callsH_of_wpF (args := [Vg #[I (s), I (r), I (q), I (p)], I (u)]) (rs := [.cell 4 28]) Try.func23 rfl Try.ntmps23 Try.results23 (by kernel_rfl) (Nat.le_of_ble_eq_true rfl) ?_
 have y0 : argF [Vg #[I (s), I (r), I (q), I (p)], I (u)] 0 = Vg #[I (s), I (r), I (q), I (p)] := rfl
 have y1 : argF [Vg #[I (s), I (r), I (q), I (p)], I (u)] 1 = I (u) := rfl
 generalize argF [Vg #[I (s), I (r), I (q), I (p)], I (u)] = f0 at *
 refine wpF_seq ?_
 refine wpF_region ?_
 refine lo rfl ?_
 refine e_box (v := Vg #[I (s), I (r), I (q), I (p)]) rfl y0 hS0 (fun g1 H2 hS3 hxx => ?_)
 refine lo rfl ?_
 refine e_alloc rfl Try.zeroValue28 hS3 (fun g4 H5 hS6 hxx => ?_)
 refine wpL_nil ?_
 refine wpF_seq ?_
 refine wpF_region ?_
 refine la (v := Value.func (.func 48) #[] #[]) rfl rfl rfl ?_
 refine wpL_nil ?_
 refine wpF_seq ?_
 refine fcr (fun f H => f 4 = PT g4 0 ∧ f 37 = B (decide (((((¬ (0 ≤ s ∧ s ≤ 1000)) ∨ (¬ (0 ≤ r ∧ r ≤ 1000000))) ∨ (¬ (0 ≤ q ∧ q ≤ 1000000))) ∨ (¬ (0 ≤ p ∧ p ≤ 2))) ∨ (¬ (0 ≤ u ∧ u ≤ 2000)))) ∧ St H0 NoB NoB [bE g4 #[I (0), I (0)] 28, bE g1 #[I (s), I (r), I (q), I (p)] 38] H) ?_ ?_
 ·refine lm (v := Value.func (.func 48) #[] #[]) rfl rfl rfl ?_
  refine lq rfl (q_fieldAddr rfl Try.underlying38 rfl Try.sizeOf3 rfl) ?_
  refine lq rfl (q_loadBlk rfl rfl Try.isAgg3 (hS6.blk 1 rfl) rfl (fun h => h)) ?_
  refine lo rfl ?_
  refine e_callV rfl rfl Try.call48 (arr2 (v0 := I (s)) (v1 := I (1000)) rfl rfl) (Options_1 s 1000) ?_
  rintro _ H7 ⟨hxx, rfl⟩
  have hS8 := hS6.ext hxx
  refine lq rfl (q_notP rfl rfl) ?_
  refine lm (v := B (decide (¬ (0 ≤ s ∧ s ≤ 1000)))) rfl rfl rfl ?_
  by_cases hg10 : ¬ (0 ≤ s ∧ s ≤ 1000)
  ·have hb11 := Eq.trans rfl (congrArg B (decide_eq_true hg10))
   refine wpL_gs rfl rfl rfl hb11 rfl ?_
   refine wpL_gs rfl rfl rfl hb11 rfl ?_
   refine wpL_gs rfl rfl rfl hb11 rfl ?_
   refine wpL_gs rfl rfl rfl hb11 rfl ?_
   refine wpL_gs rfl rfl rfl hb11 rfl ?_
   refine lq rfl (q_pickT (v := B (true)) rfl hb11 rfl) ?_
   refine lm (v := B (true)) rfl rfl rfl ?_
   refine wpL_gs rfl rfl rfl rfl rfl ?_
   refine wpL_gs rfl rfl rfl rfl rfl ?_
   refine wpL_gs rfl rfl rfl rfl rfl ?_
   refine wpL_gs rfl rfl rfl rfl rfl ?_
   refine wpL_gs rfl rfl rfl rfl rfl ?_
   refine lq rfl (q_pickT (v := B (true)) rfl rfl rfl) ?_
   refine lm (v := B (true)) rfl rfl rfl ?_
   refine wpL_gs rfl rfl rfl rfl rfl ?_
   refine wpL_gs rfl rfl rfl rfl rfl ?_
   refine wpL_gs rfl rfl rfl rfl rfl ?_
   refine wpL_gs rfl rfl rfl rfl rfl ?_
   refine wpL_gs rfl rfl rfl rfl rfl ?_
   refine lq rfl (q_pickT (v := B (true)) rfl rfl rfl) ?_
   refine lm (v := B (true)) rfl rfl rfl ?_
   refine wpL_gs rfl rfl rfl rfl rfl ?_
   refine wpL_gs rfl rfl rfl rfl rfl ?_
   refine wpL_gs rfl rfl rfl rfl rfl ?_
   refine wpL_gs rfl rfl rfl rfl rfl ?_
   refine lq rfl (q_pickT (v := B (true)) rfl rfl rfl) ?_
   exact ⟨rfl, (Eq.trans rfl (congrArg B ((decide_eq_true (Or.inl (Or.inl (Or.inl (Or.inl hg10))))).symm))), hS8⟩
  ·have hb12 := Eq.trans rfl (congrArg B (decide_eq_false hg10))
   refine gq rfl rfl rfl hb12 (q_move (v := Value.func (.func 48) #[] #[]) rfl rfl) ?_
   refine gq rfl rfl rfl hb12 (q_fieldAddr rfl Try.underlying38 rfl Try.sizeOf3 rfl) ?_
   refine gq rfl rfl rfl hb12 (q_loadBlk rfl rfl Try.isAgg3 (hS8.blk 1 rfl) rfl (fun h => h)) ?_
   refine wpL_go rfl rfl rfl hb12 ?_
   refine e_callV rfl rfl Try.call48 (arr2 (v0 := I (r)) (v1 := I (1000000)) rfl rfl) (Options_1 r 1000000) ?_
   rintro _ H13 ⟨hxx, rfl⟩
   have hS14 := hS8.ext hxx
   refine gq rfl rfl rfl hb12 (q_notP rfl rfl) ?_
   refine lq rfl (q_pickF (v := B (decide (¬ (0 ≤ r ∧ r ≤ 1000000)))) rfl hb12 rfl) ?_
   refine lm (v := B (decide (¬ (0 ≤ r ∧ r ≤ 1000000)))) rfl rfl rfl ?_
   by_cases hg16 : ¬ (0 ≤ r ∧ r ≤ 1000000)
   ·have hb17 := Eq.trans rfl (congrArg B (decide_eq_true hg16))
    refine wpL_gs rfl rfl rfl hb17 rfl ?_
    refine wpL_gs rfl rfl rfl hb17 rfl ?_
    refine wpL_gs rfl rfl rfl hb17 rfl ?_
    refine wpL_gs rfl rfl rfl hb17 rfl ?_
    refine wpL_gs rfl rfl rfl hb17 rfl ?_
    refine lq rfl (q_pickT (v := B (true)) rfl hb17 rfl) ?_
    refine lm (v := B (true)) rfl rfl rfl ?_
    refine wpL_gs rfl rfl rfl rfl rfl ?_
    refine wpL_gs rfl rfl rfl rfl rfl ?_
    refine wpL_gs rfl rfl rfl rfl rfl ?_
    refine wpL_gs rfl rfl rfl rfl rfl ?_
    refine wpL_gs rfl rfl rfl rfl rfl ?_
    refine lq rfl (q_pickT (v := B (true)) rfl rfl rfl) ?_
    refine lm (v := B (true)) rfl rfl rfl ?_
    refine wpL_gs rfl rfl rfl rfl rfl ?_
    refine wpL_gs rfl rfl rfl rfl rfl ?_
    refine wpL_gs rfl rfl rfl rfl rfl ?_
    refine wpL_gs rfl rfl rfl rfl rfl ?_
    refine lq rfl (q_pickT (v := B (true)) rfl rfl rfl) ?_
    exact ⟨rfl, (Eq.trans rfl (congrArg B ((decide_eq_true (Or.inl (Or.inl (Or.inl (Or.inr hg16))))).symm))), hS14⟩
   ·have hb18 := Eq.trans rfl (congrArg B (decide_eq_false hg16))
    refine gq rfl rfl rfl hb18 (q_move (v := Value.func (.func 48) #[] #[]) rfl rfl) ?_
    refine gq rfl rfl rfl hb18 (q_fieldAddr rfl Try.underlying38 rfl Try.sizeOf3 rfl) ?_
    refine gq rfl rfl rfl hb18 (q_loadBlk rfl rfl Try.isAgg3 (hS14.blk 1 rfl) rfl (fun h => h)) ?_
    refine wpL_go rfl rfl rfl hb18 ?_
    refine e_callV rfl rfl Try.call48 (arr2 (v0 := I (q)) (v1 := I (1000000)) rfl rfl) (Options_1 q 1000000) ?_
    rintro _ H19 ⟨hxx, rfl⟩
    have hS20 := hS14.ext hxx
    refine gq rfl rfl rfl hb18 (q_notP rfl rfl) ?_
    refine lq rfl (q_pickF (v := B (decide (¬ (0 ≤ q ∧ q ≤ 1000000)))) rfl hb18 rfl) ?_
    refine lm (v := B (decide (¬ (0 ≤ q ∧ q ≤ 1000000)))) rfl rfl rfl ?_
    by_cases hg22 : ¬ (0 ≤ q ∧ q ≤ 1000000)
    ·have hb23 := Eq.trans rfl (congrArg B (decide_eq_true hg22))
     refine wpL_gs rfl rfl rfl hb23 rfl ?_
     refine wpL_gs rfl rfl rfl hb23 rfl ?_
     refine wpL_gs rfl rfl rfl hb23 rfl ?_
     refine wpL_gs rfl rfl rfl hb23 rfl ?_
     refine wpL_gs rfl rfl rfl hb23 rfl ?_
     refine lq rfl (q_pickT (v := B (true)) rfl hb23 rfl) ?_
     refine lm (v := B (true)) rfl rfl rfl ?_
     refine wpL_gs rfl rfl rfl rfl rfl ?_
     refine wpL_gs rfl rfl rfl rfl rfl ?_
     refine wpL_gs rfl rfl rfl rfl rfl ?_
     refine wpL_gs rfl rfl rfl rfl rfl ?_
     refine lq rfl (q_pickT (v := B (true)) rfl rfl rfl) ?_
     exact ⟨rfl, (Eq.trans rfl (congrArg B ((decide_eq_true (Or.inl (Or.inl (Or.inr hg22)))).symm))), hS20⟩
    ·have hb24 := Eq.trans rfl (congrArg B (decide_eq_false hg22))
     refine gq rfl rfl rfl hb24 (q_move (v := Value.func (.func 48) #[] #[]) rfl rfl) ?_
     refine gq rfl rfl rfl hb24 (q_fieldAddr rfl Try.underlying38 rfl Try.sizeOf3 rfl) ?_
     refine gq rfl rfl rfl hb24 (q_loadBlk rfl rfl Try.isAgg3 (hS20.blk 1 rfl) rfl (fun h => h)) ?_
     refine wpL_go rfl rfl rfl hb24 ?_
     refine e_callV rfl rfl Try.call48 (arr2 (v0 := I (p)) (v1 := I (2)) rfl rfl) (Options_1 p 2) ?_
     rintro _ H25 ⟨hxx, rfl⟩
     have hS26 := hS20.ext hxx
     refine gq rfl rfl rfl hb24 (q_notP rfl rfl) ?_
     refine lq rfl (q_pickF (v := B (decide (¬ (0 ≤ p ∧ p ≤ 2)))) rfl hb24 rfl) ?_
     refine lm (v := B (decide (¬ (0 ≤ p ∧ p ≤ 2)))) rfl rfl rfl ?_
     by_cases hg28 : ¬ (0 ≤ p ∧ p ≤ 2)
     ·have hb29 := Eq.trans rfl (congrArg B (decide_eq_true hg28))
      refine wpL_gs rfl rfl rfl hb29 rfl ?_
      refine wpL_gs rfl rfl rfl hb29 rfl ?_
      refine wpL_gs rfl rfl rfl hb29 rfl ?_
      refine wpL_gs rfl rfl rfl hb29 rfl ?_
      refine lq rfl (q_pickT (v := B (true)) rfl hb29 rfl) ?_
      exact ⟨rfl, (Eq.trans rfl (congrArg B ((decide_eq_true (Or.inl (Or.inr hg28))).symm))), hS26⟩
     ·have hb30 := Eq.trans rfl (congrArg B (decide_eq_false hg28))
      refine gq rfl rfl rfl hb30 (q_move (v := Value.func (.func 48) #[] #[]) rfl rfl) ?_
      refine gq rfl rfl rfl hb30 (q_move (v := I (u)) rfl y1) ?_
      refine wpL_go rfl rfl rfl hb30 ?_
      refine e_callV rfl rfl Try.call48 (arr2 (v0 := I (u)) (v1 := I (2000)) rfl rfl) (Options_1 u 2000) ?_
      rintro _ H31 ⟨hxx, rfl⟩
      have hS32 := hS26.ext hxx
      refine gq rfl rfl rfl hb30 (q_notP rfl rfl) ?_
      refine lq rfl (q_pickF (v := B (decide (¬ (0 ≤ u ∧ u ≤ 2000)))) rfl hb30 rfl) ?_
      exact ⟨rfl, (Eq.trans rfl (congrArg B (decide_congr_of (((not_congr Iff.rfl)).trans (((or_iff_right (not_or.2 ⟨(not_or.2 ⟨(not_or.2 ⟨hg10, hg16⟩), hg22⟩), hg28⟩)).trans (not_congr Iff.rfl))).symm)))), hS32⟩
 clear y1
 rintro f34 H34 ⟨y4, y37, hS34⟩
 refine wpF_condP y37 (fun h37 => ?t40) (fun h37 => ?e40)
 case t40 =>
  refine wpF_seq ?_
  refine wpF_region ?_
  refine lq rfl (q_build (v := Vg #[I (3), I (-1)]) rfl (par2 (v0 := I (3)) (v1 := I (-1)) rfl rfl) (fun w__ => by kernel_rfl)) ?_
  refine lo rfl ?_
  refine e_storeBlkA (cs' := #[I (3), I (-1)]) rfl y4 rfl Try.sizeOf28 rfl rfl (fa rfl (fa rfl fe)) hS34 (fun H36 hS37 hxx => ?_)
  refine wpL_nil ?_
  refine wpF_ret ?_
  refine ⟨_, resC y4 (loadV_blkA Try.isAgg28 Try.sizeOf28 rfl (hS37.blk 0 rfl)) (resN), hS37.frame, ?_⟩
  show (Vg #[I (3), I (-1)]) = Vg #[I (0), I (0)]
  exact absurd h37 (by omega)
 refine wpF_skip ?_
 refine wpF_seq ?_
 refine wpF_region ?_
 refine lq rfl (q_build (v := Vg #[I (0), I (0)]) rfl par0 (fun w__ => by kernel_rfl)) ?_
 refine lo rfl ?_
 refine e_storeBlkA (cs' := #[I (0), I (0)]) rfl y4 rfl Try.sizeOf28 rfl rfl (fa rfl (fa rfl fe)) hS34 (fun H38 hS39 hxx => ?_)
 refine wpL_nil ?_
 refine wpF_ret ?_
 refine ⟨_, resC y4 (loadV_blkA Try.isAgg28 Try.sizeOf28 rfl (hS39.blk 0 rfl)) (resN), hS39.frame, ?_⟩
 show (Vg #[I (0), I (0)]) = Vg #[I (0), I (0)]
 rfl
end Go.Um
