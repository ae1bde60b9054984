import Derived.Test.YtbfgipgojdinoaaProg
import Derived.Test.YtbfgipgojdinoaaDiaC1
import Derived.Test.YtbfgipgojdinoaaUmTopCountsC
namespace Go.Um
open Go.Proofs
open GoT (sz ag rdc)
open KeyT (kv)
theorem el_Bool_4_DiaC3 : ElT Try.prog Bool 4 := ⟨Try.isAgg4, Try.sizeOf4⟩
theorem el_LInt_22_DiaC3 : ElT Try.prog (List Int) 22 := ⟨Try.isAgg22, Try.sizeOf22⟩
theorem em_Bool_4_DiaC3 : ElemOk Try.prog Bool 4 := ⟨Try.t4, (.bool false), by kernel_rfl, by kernel_rfl, by kernel_rfl, by kernel_rfl, by kernel_rfl⟩
set_option maxRecDepth 100000 in
theorem IndexFuncL {H0 : Heap} (vs vf : Value) (l : List (List Int)) (gp : (List Int) → Bool) (rs : Rd NoB H0 vs l) (hf : ∀ u x, x ∈ l → ∀ H, Ext NoB H0 H → Rd NoB H u x → FnH Try.prog vf #[u] H (fun rv H' => Ext NoB H H' ∧ rv = B (gp x))) : CallsH Try.prog 80 #[vs, vf] H0 (fun rv_ H' => Ext NoB H0 H' ∧ rv_ = I (idxOf gp l)) := by
 have hsm := (Rd.list.1 rs).small
 have hS0 : St H0 NoB NoB [rdE vs l] H0 := St.arg (St.start (fun _ h => h.elim)) (Bl0.nil) rs (fun _ h => h)
 refine callsH_of_wpF (args := [vs, vf]) (rs := [.tmp 4]) Try.func80 rfl Try.ntmps80 Try.results80 (by kernel_rfl) (Nat.le_of_ble_eq_true rfl) ?_
 have y0 : argF [vs, vf] 0 = vs := rfl
 have y1 : argF [vs, vf] 1 = vf := rfl
 generalize argF [vs, vf] = f0 at *
 refine wpF_seq ?_
 refine wpF_region ?_
 refine la (v := I (0)) rfl rfl rfl ?_
 refine wpL_nil ?_
 refine wpF_seq ?_
 refine wpF_seq ?_
 refine wpF_region ?_
 refine lm (v := vs) rfl rfl y0 ?_
 refine lq rfl (q_lenRd rfl Try.underlying24 rfl (hS0.rdl 0 rfl)) ?_
 refine lm (v := I (0)) rfl rfl rfl ?_
 refine wpL_nil ?_
 refine wpF_block ?_
 refine wpF_loop (fun mz f H => ∃ (k : Nat), mz = l.length - k ∧ (k ≤ l.length) ∧ (∀ j, j < k → gp (nth l j) = false) ∧ f 0 = vs ∧ f 1 = vf ∧ f 7 = I ((l.length : Int)) ∧ f 8 = I ((k : Int)) ∧ St H0 NoB NoB [rdE vs l] H) (l.length - 0) ?_ ?_
 ·exact ⟨0, rfl, Nat.zero_le _, (fun j hj => absurd hj (Nat.not_lt_zero j)), y0, y1, rfl, (Eq.trans rfl (congrArg I (by omega))), hS0⟩
 intro m1 f1 H1 hI1
 clear y0 y1
 obtain ⟨k, hm1, hk, hno, y0, y1, y7, y8, hS1⟩ := hI1
 refine wpF_seq ?_
 refine wpF_region ?_
 refine lq rfl (q_lss rfl y8 y7) ?_
 refine wpL_nil ?_
 refine wpF_seq ?_
 refine wpF_condP rfl (fun hlt => ?t10) (fun hlt => ?e10)
 case e10 =>
  refine wpF_exit ?_
  refine atX_here ?_
  refine wpF_seq ?_
  refine wpF_region ?_
  refine la (v := I (-1)) rfl rfl rfl ?_
  refine wpL_nil ?_
  refine wpF_ret ?_
  refine ⟨_, resT rfl resN, hS1.frame, ?_⟩
  show (I (-1)) = I (idxOf gp l)
  exact congrArg I (idxOf_no fun j hj => hno j (by omega)).symm
 refine wpF_skip ?_
 refine wpF_seq ?_
 refine wpF_block ?_
 refine wpF_seq ?_
 refine wpF_region ?_
 refine lm (v := I ((k : Int))) rfl rfl y8 ?_
 refine la (v := I ((k : Int))) rfl rfl rfl ?_
 refine wpL_nil ?_
 refine wpF_seq ?_
 obtain ⟨u3, huu3, hlu3⟩ := (Rd.list.1 (hS1.rdS 0 rfl)).elem k (by omega)
 have hS4 := hS1.rd huu3
 refine wpF_region ?_
 refine lm (v := vf) rfl rfl y1 ?_
 refine lm (v := vs) rfl rfl y0 ?_
 refine lm (v := I ((k : Int))) rfl rfl rfl ?_
 refine lq rfl (q_indexRd (k := k) rfl Try.underlying24 el_LInt_22_DiaC3 rfl rfl (hS1.rdl 0 rfl) (by omega) (by omega)) ?_
 refine lq rfl (q_loadE rfl rfl (hlu3 Try.prog 22 _ el_LInt_22_DiaC3 (fun _ h => False.elim h))) ?_
 refine lo rfl ?_
 refine e_callF rfl rfl (arr1 (v0 := u3) rfl) (hf _ _ (nth_mem (by omega)) _ hS4.frame (hS4.rdN 0 rfl)) ?_
 rintro _ H5 ⟨hxx, rfl⟩
 have hS6 := hS4.ext hxx
 refine wpL_nil ?_
 refine wpF_cond rfl (fun hg => ?t9) (fun hg => ?e9)
 case e9 =>
  refine wpF_skip ?_
  refine wpF_region ?_
  refine lq rfl (q_add rfl y8 rfl (by constructor <;> omega)) ?_
  refine lm (v := I ((k : Int) + 1)) rfl rfl rfl ?_
  refine wpL_nil ?_
  refine ⟨_, ?_, k + 1, rfl, (by omega), (all_succ hno (by simpa using hg)), y0, y1, y7, (Eq.trans rfl (congrArg I (by omega))), (hS6.drop (sn (sk (List.Sublist.slnil))))⟩
  omega
 refine wpF_seq ?_
 refine wpF_region ?_
 refine lm (v := I ((k : Int))) rfl rfl rfl ?_
 refine la (v := I ((k : Int))) rfl rfl rfl ?_
 refine wpL_nil ?_
 refine wpF_ret ?_
 refine ⟨_, resT rfl resN, hS6.frame, ?_⟩
 show (I ((k : Int))) = I (idxOf gp l)
 exact congrArg I (idxOf_at (by omega) hno (by simpa using hg)).symm
set_option maxRecDepth 100000 in
theorem ContainsFuncL {H0 : Heap} (vs vf : Value) (l : List (List Int)) (gp : (List Int) → Bool) (rs : Rd NoB H0 vs l) (hf : ∀ u x, x ∈ l → ∀ H, Ext NoB H0 H → Rd NoB H u x → FnH Try.prog vf #[u] H (fun rv H' => Ext NoB H H' ∧ rv = B (gp x))) : CallsH Try.prog 66 #[vs, vf] H0 (fun rv_ H' => Ext NoB H0 H' ∧ rv_ = B (l.any gp)) := by
 have hS0 : St H0 NoB NoB [rdE vs l] H0 := St.arg (St.start (fun _ h => h.elim)) (Bl0.nil) rs (fun _ h => h)
 refine callsH_of_wpF (args := [vs, vf]) (rs := [.tmp 4]) Try.func66 rfl Try.ntmps66 Try.results66 (by kernel_rfl) (Nat.le_of_ble_eq_true rfl) ?_
 have y0 : argF [vs, vf] 0 = vs := rfl
 have y1 : argF [vs, vf] 1 = vf := rfl
 generalize argF [vs, vf] = f0 at *
 refine wpF_seq ?_
 refine wpF_region ?_
 refine la (v := B (false)) rfl rfl rfl ?_
 refine wpL_nil ?_
 refine wpF_seq ?_
 refine wpF_region ?_
 refine lm (v := vs) rfl rfl y0 ?_
 refine lm (v := vf) rfl rfl y1 ?_
 refine lo rfl ?_
 refine e_call rfl Try.call80 (arr2 (v0 := vs) (v1 := vf) rfl rfl) (IndexFuncL vs vf l gp (hS0.rdN 0 rfl) (fun u x hx H hE hr => hf u x hx H (hS0.frame.trans hE) hr)) ?_
 rintro _ H1 ⟨hxx, rfl⟩
 have hS2 := hS0.ext hxx
 refine lq rfl (q_geq rfl rfl rfl) ?_
 refine la (v := B (decide (0 ≤ (idxOf gp l)))) rfl rfl rfl ?_
 refine wpL_nil ?_
 refine wpF_ret ?_
 refine ⟨_, resT rfl resN, hS2.frame, ?_⟩
 show (B (decide (0 ≤ (idxOf gp l)))) = B (l.any gp)
 exact congrArg B (bool_congr_of idxOf_any.symm).symm
set_option maxRecDepth 100000 in
theorem check_A {H0 : Heap} (vC : Value) (C : List (List Int)) (vars : Int) (rC : Rd NoB H0 vC C) (hok : cnfOk vars C) (hv : vars ≤ 16) : CallsH Try.prog 35 #[Vg #[I (vars), vC]] H0 (fun rv_ H' => Ext NoB H0 H' ∧ rv_ = Vg #[I (0), I (0)]) := by
 have hS0 : St H0 NoB NoB [rdE vC C] H0 := St.arg (St.start (fun _ h => h.elim)) (Bl0.nil) rC (fun _ h => h)
 refine callsH_of_wpF (args := [Vg #[I (vars), vC]]) (rs := [.cell 2 28]) Try.func35 rfl Try.ntmps35 Try.results35 (by kernel_rfl) (Nat.le_of_ble_eq_true rfl) ?_
 have y0 : argF [Vg #[I (vars), vC]] 0 = Vg #[I (vars), vC] := rfl
 generalize argF [Vg #[I (vars), vC]] = f0 at *
 refine wpF_seq ?_
 refine wpF_region ?_
 refine lo rfl ?_
 refine e_box (v := Vg #[I (vars), vC]) rfl y0 hS0 (fun g1 H2 hS3 hxx => ?_)
 refine lo rfl ?_
 refine e_alloc rfl Try.zeroValue28 hS3 (fun g4 H5 hS6 hxx => ?_)
 refine wpL_nil ?_
 refine wpF_seq ?_
 refine wpF_seq ?_
 refine wpF_region ?_
 refine lq rfl (q_loadBlkA rfl rfl Try.isAgg26 Try.sizeOf26 rfl (hS6.blk 1 rfl) (fun h => h)) ?_
 refine lo rfl ?_
 refine e_call rfl Try.call37 (arr1 (v0 := Vg #[I (vars), vC]) rfl) (Check_C vC C vars (hS6.rdN 2 rfl) hok) ?_
 rintro _ H7 ⟨hxx, rfl⟩
 have hS8 := hS6.ext hxx
 refine lo rfl ?_
 refine e_alloc rfl Try.zeroValue28 hS8 (fun g10 H11 hS12 hxx => ?_)
 refine lo rfl ?_
 refine e_storeBlkA (cs' := #[I (0), I (0)]) rfl rfl rfl Try.sizeOf28 rfl rfl (fa rfl (fa rfl fe)) hS12 (fun H13 hS14 hxx => ?_)
 refine wpL_nil ?_
 refine wpF_seq ?_
 refine wpF_region ?_
 refine lq rfl (q_fieldAddr rfl Try.underlying28 rfl Try.sizeOf3 rfl) ?_
 refine lq rfl (q_loadBlk rfl rfl Try.isAgg3 (hS14.blk 0 rfl) rfl (fun h => h)) ?_
 refine lq rfl (q_neq rfl rfl rfl) ?_
 refine wpL_nil ?_
 refine wpF_condF (Eq.trans rfl (congrArg B (decide_eq_false (by decide)))) ?_
 refine wpF_skip ?_
 refine wpF_seq ?_
 refine wpF_seq ?_
 refine wpF_region ?_
 refine lq rfl (q_fieldAddr rfl Try.underlying26 rfl Try.sizeOf3 rfl) ?_
 refine lq rfl (q_loadBlk rfl rfl Try.isAgg3 (hS14.blk 2 rfl) rfl (fun h => h)) ?_
 refine lq rfl (q_gtr rfl rfl rfl) ?_
 refine wpL_nil ?_
 refine wpF_condP rfl (fun h12 => ?t20) (fun h12 => ?e20)
 case t20 =>
  refine wpF_seq ?_
  refine wpF_region ?_
  refine lq rfl (q_build (v := Vg #[I (2), I (-1)]) rfl (par2 (v0 := I (2)) (v1 := I (-1)) rfl rfl) (fun w__ => by kernel_rfl)) ?_
  refine lo rfl ?_
  refine e_storeBlkA (cs' := #[I (2), I (-1)]) rfl rfl rfl Try.sizeOf28 rfl rfl (fa rfl (fa rfl fe)) (hS14.front 1 rfl) (fun H16 hS17 hxx => ?_)
  refine wpL_nil ?_
  refine wpF_ret ?_
  refine ⟨_, resC rfl (loadV_blkA Try.isAgg28 Try.sizeOf28 rfl (hS17.blk 0 rfl)) (resN), hS17.frame, ?_⟩
  show (Vg #[I (2), I (-1)]) = Vg #[I (0), I (0)]
  exact absurd h12 (by omega)
 refine wpF_skip ?_
 refine wpF_seq ?_
 refine wpF_region ?_
 refine lq rfl (q_build (v := Vg #[I (0), I (0)]) rfl par0 (fun w__ => by kernel_rfl)) ?_
 refine lo rfl ?_
 refine e_storeBlkA (cs' := #[I (0), I (0)]) rfl rfl rfl Try.sizeOf28 rfl rfl (fa rfl (fa rfl fe)) (hS14.front 1 rfl) (fun H18 hS19 hxx => ?_)
 refine wpL_nil ?_
 refine wpF_ret ?_
 refine ⟨_, resC rfl (loadV_blkA Try.isAgg28 Try.sizeOf28 rfl (hS19.blk 0 rfl)) (resN), hS19.frame, ?_⟩
 show (Vg #[I (0), I (0)]) = Vg #[I (0), I (0)]
 rfl
set_option maxRecDepth 100000 in
theorem Assignment_A {H0 : Heap} {S : Nat → Prop} (n k : Nat) (hn : n ≤ 16) (hk : k < 4611686018427387904) : CallsH Try.prog 44 #[I ((n : Int)), I ((k : Int))] H0 (fun rv_ H' => Ext NoB H0 H' ∧ Rd (SZ S H0) H' rv_ (asgL n k)) := by
 have hl0 := asgTo_len (n := n) (k := k) (i := 0)
 have hS0 : St H0 NoB (SZ S H0) [] H0 := St.start (fun _ h => h.2)
 refine callsH_of_wpF (args := [I ((n : Int)), I ((k : Int))]) (rs := [.tmp 4]) Try.func44 rfl Try.ntmps44 Try.results44 (by kernel_rfl) (Nat.le_of_ble_eq_true rfl) ?_
 have y0 : argF [I ((n : Int)), I ((k : Int))] 0 = I ((n : Int)) := rfl
 have y1 : argF [I ((n : Int)), I ((k : Int))] 1 = I ((k : Int)) := rfl
 generalize argF [I ((n : Int)), I ((k : Int))] = f0 at *
 refine wpF_seq ?_
 refine wpF_region ?_
 refine la (v := nS) rfl rfl rfl ?_
 refine wpL_nil ?_
 refine wpF_seq ?_
 refine wpF_region ?_
 refine lm (v := I ((n : Int))) rfl rfl y0 ?_
 refine lo rfl ?_
 refine e_makeSlice (n := n) (x0 := (false : Bool)) rfl Try.underlying31 Try.zeroValue4 em_Bool_4_DiaC3 Try.sizeOf4 rfl rfl (by omega) (fun _ _ => Rd.bool.2 rfl) hS0 (by have hb : GoT.bytes Bool = 1 := rfl; rw [hb]; omega) (by omega) (fun v1 H2 hS3 hxx => ?_)
 refine la (v := v1) rfl rfl rfl ?_
 refine wpL_nil ?_
 have hS4 : St H0 NoB (SZ S H0) [rowE 4 v1 (asgTo n k 0 : List Bool)] H2 := by have h__ := hS3; rw [← asgTo_zero (k := k)] at h__; exact h__
 refine wpF_seq ?_
 refine wpF_seq ?_
 refine wpF_region ?_
 refine lm (v := v1) rfl rfl rfl ?_
 refine lq rfl (q_lenRd rfl Try.underlying31 rfl (hS4.rowl 0 rfl)) ?_
 refine lm (v := I (0)) rfl rfl rfl ?_
 refine wpL_nil ?_
 refine wpF_block ?_
 refine wpF_loop (fun mz f H => ∃ (i : Nat), mz = n - i ∧ (i ≤ n) ∧ f 0 = I ((n : Int)) ∧ f 1 = I ((k : Int)) ∧ f 5 = v1 ∧ f 10 = I (((asgTo n k 0).length : Int)) ∧ f 11 = I ((i : Int)) ∧ St H0 NoB (SZ S H0) [rowE 4 v1 (asgTo n k i : List Bool)] H) (n - 0) ?_ ?_
 ·exact ⟨0, rfl, Nat.zero_le _, y0, y1, rfl, rfl, (Eq.trans rfl (congrArg I (by omega))), hS4⟩
 intro m5 f5 H5 hI5
 clear y0 y1
 obtain ⟨i, hm5, hi, y0, y1, y5, y10, y11, hS5⟩ := hI5
 refine wpF_seq ?_
 refine wpF_region ?_
 refine lq rfl (q_lss rfl y11 y10) ?_
 refine wpL_nil ?_
 refine wpF_seq ?_
 refine wpF_condP rfl (fun hlt => ?t12) (fun hlt => ?e12)
 case e12 =>
  have hS7 : St H0 NoB (SZ S H0) [rowE 4 v1 (asgL n k : List Bool)] H5 := by have h__ := hS5; rw [show i = n by omega, asgTo_end] at h__; exact h__
  refine wpF_exit ?_
  refine atX_here ?_
  refine wpF_seq ?_
  refine wpF_region ?_
  refine lm (v := v1) rfl rfl y5 ?_
  refine la (v := v1) rfl rfl rfl ?_
  refine wpL_nil ?_
  refine wpF_ret ?_
  refine ⟨_, resT rfl resN, hS7.frame, ?_⟩
  show Rd (SZ S H0) H5 v1 (asgL n k)
  have hS11 : St H0 NoB (SZ S H0) [rdE v1 (asgL n k)] H5 := St.fin hS7
  exact (hS11.result (hS11.rdS 0 rfl))
 have hli := asgTo_len (n := n) (k := k) (i := i)
 refine wpF_skip ?_
 refine wpF_seq ?_
 refine wpF_block ?_
 refine wpF_seq ?_
 refine wpF_region ?_
 refine lm (v := I ((i : Int))) rfl rfl y11 ?_
 refine la (v := I ((i : Int))) rfl rfl rfl ?_
 refine wpL_nil ?_
 refine wpF_region ?_
 refine lm (v := v1) rfl rfl y5 ?_
 refine lm (v := I ((i : Int))) rfl rfl rfl ?_
 refine lm (v := I ((k : Int))) rfl rfl y1 ?_
 refine lm (v := I ((n : Int))) rfl rfl y0 ?_
 refine lq rfl (q_sub rfl rfl rfl (by constructor <;> omega)) ?_
 refine lm (v := I ((i : Int))) rfl rfl rfl ?_
 refine lq rfl (q_sub rfl rfl rfl (by constructor <;> omega)) ?_
 refine lq rfl (q_shrN (a := k) rfl rfl rfl (by omega) (by omega)) ?_
 refine lq rfl (q_andN (a := k >>> ((((n : Int) - 1) - (i : Int)).toNat)) (b := 1) rfl rfl rfl (by first | omega | exact lt62_andNot (by omega) (by omega) | exact lt62_and (by omega) | exact shr_lt (by omega)) (by first | omega | exact lt62_andNot (by omega) (by omega) | exact lt62_and (by omega) | exact shr_lt (by omega))) ?_
 refine lq rfl (q_eql rfl rfl rfl) ?_
 refine lq rfl (q_indexRd (k := i) rfl Try.underlying31 el_Bool_4_DiaC3 rfl rfl (hS5.rowl 0 rfl) (by omega) (by omega)) ?_
 have hS8 := hS5
 refine lo rfl ?_
 refine e_rowSet (k := i) (u := B (decide ((((k >>> ((((n : Int) - 1) - (i : Int)).toNat)) &&& 1 : Nat) : Int) = 1))) rfl rfl rfl rfl Try.sizeOf4 (by first | (simp; omega) | omega) hS8 (Rd.bool.2 rfl) (fun H9 hS10 hxx => ?_)
 refine wpL_nil ?_
 refine wpF_region ?_
 refine lq rfl (q_add rfl y11 rfl (by constructor <;> omega)) ?_
 refine lm (v := I ((i : Int) + 1)) rfl rfl rfl ?_
 refine wpL_nil ?_
 refine ⟨_, ?_, i + 1, rfl, (by omega), y0, y1, y5, y10, (Eq.trans rfl (congrArg I (by omega))), (show St H0 NoB (SZ S H0) [rowE 4 v1 (asgTo n k (i + 1) : List Bool)] H9 from (by have h__ := hS10; rw [asgTo_step (by omega)] at h__; exact h__))⟩
 omega
set_option maxRecDepth 100000 in
theorem True_C {H0 : Heap} (va : Value) (a : List Bool) (l : Int) (ra : Rd NoB H0 va a) (hl : ¬ l = 0 ∧ -(a.length : Int) ≤ l ∧ l ≤ a.length) (hal : a.length ≤ 120) : CallsH Try.prog 82 #[I (l), va] H0 (fun rv_ H' => Ext NoB H0 H' ∧ rv_ = B (trueH a l)) := by
 have hvr := var_rng hl
 have hS0 : St H0 NoB NoB [rdE va a] H0 := St.arg (St.start (fun _ h => h.elim)) (Bl0.nil) ra (fun _ h => h)
 refine callsH_of_wpF (args := [I (l), va]) (rs := [.tmp 4]) Try.func82 rfl Try.ntmps82 Try.results82 (by kernel_rfl) (Nat.le_of_ble_eq_true rfl) ?_
 have y0 : argF [I (l), va] 0 = I (l) := rfl
 have y1 : argF [I (l), va] 1 = va := rfl
 generalize argF [I (l), va] = f0 at *
 refine wpF_seq ?_
 refine wpF_region ?_
 refine la (v := B (false)) rfl rfl rfl ?_
 refine wpL_nil ?_
 refine wpF_seq ?_
 refine wpF_region ?_
 refine lm (v := va) rfl rfl y1 ?_
 refine lm (v := I (l)) rfl rfl y0 ?_
 refine lo rfl ?_
 refine e_call rfl Try.call32 (arr1 (v0 := I (l)) rfl) (Var_C l (by omega)) ?_
 rintro _ H1 ⟨hxx, rfl⟩
 have hS2 := hS0.ext hxx
 refine lq rfl (q_sub rfl rfl rfl (by constructor <;> omega)) ?_
 refine lq rfl (q_indexRd (k := ((varA l) - 1).toNat) rfl Try.underlying31 el_Bool_4_DiaC3 rfl rfl (hS2.rdl 0 rfl) (by omega) (by omega)) ?_
 refine lq rfl (q_loadBool (k := ((varA l) - 1).toNat) rfl rfl el_Bool_4_DiaC3 (hS2.rdl 0 rfl) (by omega) (fun _ h => h)) ?_
 refine lm (v := I (l)) rfl rfl y0 ?_
 refine lq rfl (q_gtr rfl rfl rfl) ?_
 refine lq rfl (q_eqlB rfl Try.underlying4 rfl rfl) ?_
 refine la (v := B (decide ((nth a (((varA l) - 1).toNat)) = (decide (0 < l))))) rfl rfl rfl ?_
 refine wpL_nil ?_
 refine wpF_ret ?_
 refine ⟨_, resT rfl resN, hS2.frame, ?_⟩
 show (B (decide ((nth a (((varA l) - 1).toNat)) = (decide (0 < l))))) = B (trueH a l)
 rfl
set_option maxRecDepth 100000 in
theorem Sat_1 {H0 : Heap} (l : Int) (ga : Nat) (va : Value) (a : List Bool) (hb : H0[ga]? = some (.cells #[va] 31)) (ra : Rd NoB H0 va a) (hl : ¬ l = 0 ∧ -(a.length : Int) ≤ l ∧ l ≤ a.length) (hal : a.length ≤ 120) : CallsH Try.prog 81 #[I (l), PT ga 0] H0 (fun rv_ H' => Ext NoB H0 H' ∧ rv_ = B (trueH a l)) := by
 have hS0 : St H0 NoB NoB [fixE ga (.cells #[va] 31), rdE va a] H0 := St.argFix (St.arg (St.start (fun _ h => h.elim)) (Bl0.nil) ra (fun _ h => h)) (Bl0.cons (Bl0.nil)) hb (fun h => h)
 refine callsH_of_wpF (args := [I (l), PT ga 0]) (rs := [.tmp 3]) Try.func81 rfl Try.ntmps81 Try.results81 (by kernel_rfl) (Nat.le_of_ble_eq_true rfl) ?_
 have y0 : argF [I (l), PT ga 0] 0 = I (l) := rfl
 have y1 : argF [I (l), PT ga 0] 1 = PT ga 0 := rfl
 generalize argF [I (l), PT ga 0] = f0 at *
 refine wpF_seq ?_
 refine wpF_region ?_
 refine la (v := B (false)) rfl rfl rfl ?_
 refine wpL_nil ?_
 refine wpF_seq ?_
 refine wpF_region ?_
 refine lm (v := I (l)) rfl rfl y0 ?_
 refine lq rfl (q_loadBlk rfl y1 Try.isAgg31 (hS0.fixd 0 rfl) rfl (fun h => h)) ?_
 refine lo rfl ?_
 refine e_call rfl Try.call82 (arr2 (v0 := I (l)) (v1 := va) rfl rfl) (True_C va a l (hS0.rdN 1 rfl) hl hal) ?_
 rintro _ H1 ⟨hxx, rfl⟩
 have hS2 := hS0.ext hxx
 refine la (v := B (trueH a l)) rfl rfl rfl ?_
 refine wpL_nil ?_
 refine wpF_ret ?_
 refine ⟨_, resT rfl resN, hS2.frame, ?_⟩
 show (B (trueH a l)) = B (trueH a l)
 rfl
set_option maxRecDepth 100000 in
theorem Sat_C {H0 : Heap} (vc va : Value) (c : List Int) (a : List Bool) (rc : Rd NoB H0 vc c) (ra : Rd NoB H0 va a) (hfa : fitA a c) : CallsH Try.prog 68 #[vc, va] H0 (fun rv_ H' => Ext NoB H0 H' ∧ rv_ = B (c.any (trueH a))) := by
 have hS0 : St H0 NoB NoB [rdE vc c, rdE va a] H0 := St.arg (St.arg (St.start (fun _ h => h.elim)) (Bl0.nil) ra (fun _ h => h)) (Bl0.cons (Bl0.nil)) rc (fun _ h => h)
 refine callsH_of_wpF (args := [vc, va]) (rs := [.tmp 4]) Try.func68 rfl Try.ntmps68 Try.results68 (by kernel_rfl) (Nat.le_of_ble_eq_true rfl) ?_
 have y0 : argF [vc, va] 0 = vc := rfl
 have y1 : argF [vc, va] 1 = va := rfl
 generalize argF [vc, va] = f0 at *
 refine wpF_seq ?_
 refine wpF_region ?_
 refine lo rfl ?_
 refine e_box (v := va) rfl y1 hS0 (fun g1 H2 hS3 hxx => ?_)
 rw [cells_rdL (hS0.rdl 1 rfl)] at hS3
 refine la (v := B (false)) rfl rfl rfl ?_
 refine wpL_nil ?_
 refine wpF_seq ?_
 refine wpF_region ?_
 refine lm (v := vc) rfl rfl y0 ?_
 refine lq rfl (q_makeFunc (fi' := #[]) rfl (by simp) (arr1 (v0 := PT g1 0) rfl)) ?_
 refine lo rfl ?_
 refine e_call rfl Try.call78 (arr2 (v0 := vc) (v1 := Value.func (.func 81) #[] #[PT g1 0]) rfl rfl) (ContainsFunc vc (Value.func (.func 81) #[] #[PT g1 0]) c (trueH a) (hS3.rdN 1 rfl) (fun x hx H hE => ⟨_, _, rfl, Try.call81, Sat_1 x g1 va a (hE.blk (hS3.blk 0 rfl)) ((hS3.rdN 2 rfl).extN hE) (hfa.2 x hx) hfa.1⟩)) ?_
 rintro _ H4 ⟨hxx, rfl⟩
 have hS5 := hS3.ext hxx
 refine la (v := B (c.any (trueH a))) rfl rfl rfl ?_
 refine wpL_nil ?_
 refine wpF_ret ?_
 refine ⟨_, resT rfl resN, hS5.frame, ?_⟩
 show (B (c.any (trueH a))) = B (c.any (trueH a))
 rfl
set_option maxRecDepth 100000 in
theorem All_1 {H0 : Heap} (vc : Value) (c : List Int) (ga : Nat) (va : Value) (a : List Bool) (rc : Rd NoB H0 vc c) (hb : H0[ga]? = some (.cells #[va] 31)) (ra : Rd NoB H0 va a) (hfa : fitA a c) : CallsH Try.prog 67 #[vc, PT ga 0] H0 (fun rv_ H' => Ext NoB H0 H' ∧ rv_ = B (!c.any (trueH a))) := by
 have hS0 : St H0 NoB NoB [rdE vc c, fixE ga (.cells #[va] 31), rdE va a] H0 := St.arg (St.argFix (St.arg (St.start (fun _ h => h.elim)) (Bl0.nil) ra (fun _ h => h)) (Bl0.cons (Bl0.nil)) hb (fun h => h)) (Bl0.consF (Bl0.cons (Bl0.nil))) rc (fun _ h => h)
 refine callsH_of_wpF (args := [vc, PT ga 0]) (rs := [.tmp 3]) Try.func67 rfl Try.ntmps67 Try.results67 (by kernel_rfl) (Nat.le_of_ble_eq_true rfl) ?_
 have y0 : argF [vc, PT ga 0] 0 = vc := rfl
 have y1 : argF [vc, PT ga 0] 1 = PT ga 0 := rfl
 generalize argF [vc, PT ga 0] = f0 at *
 refine wpF_seq ?_
 refine wpF_region ?_
 refine la (v := B (false)) rfl rfl rfl ?_
 refine wpL_nil ?_
 refine wpF_seq ?_
 refine wpF_region ?_
 refine lm (v := vc) rfl rfl y0 ?_
 refine lq rfl (q_loadBlk rfl y1 Try.isAgg31 (hS0.fixd 1 rfl) rfl (fun h => h)) ?_
 refine lo rfl ?_
 refine e_call rfl Try.call68 (arr2 (v0 := vc) (v1 := va) rfl rfl) (Sat_C vc va c a (hS0.rdN 0 rfl) (hS0.rdN 2 rfl) hfa) ?_
 rintro _ H1 ⟨hxx, rfl⟩
 have hS2 := hS0.ext hxx
 refine lq rfl (q_not rfl rfl) ?_
 refine la (v := B (!(c.any (trueH a)))) rfl rfl rfl ?_
 refine wpL_nil ?_
 refine wpF_ret ?_
 refine ⟨_, resT rfl resN, hS2.frame, ?_⟩
 show (B (!(c.any (trueH a)))) = B (!c.any (trueH a))
 rfl
set_option maxRecDepth 100000 in
theorem All_C {H0 : Heap} (vC va : Value) (C : List (List Int)) (a : List Bool) (rC : Rd NoB H0 vC C) (ra : Rd NoB H0 va a) (hf : ∀ c ∈ C, fitA a c) : CallsH Try.prog 41 #[vC, va] H0 (fun rv_ H' => Ext NoB H0 H' ∧ rv_ = B (allH C a)) := by
 have hS0 : St H0 NoB NoB [rdE vC C, rdE va a] H0 := St.arg (St.arg (St.start (fun _ h => h.elim)) (Bl0.nil) ra (fun _ h => h)) (Bl0.cons (Bl0.nil)) rC (fun _ h => h)
 refine callsH_of_wpF (args := [vC, va]) (rs := [.tmp 4]) Try.func41 rfl Try.ntmps41 Try.results41 (by kernel_rfl) (Nat.le_of_ble_eq_true rfl) ?_
 have y0 : argF [vC, va] 0 = vC := rfl
 have y1 : argF [vC, va] 1 = va := rfl
 generalize argF [vC, va] = f0 at *
 refine wpF_seq ?_
 refine wpF_region ?_
 refine lo rfl ?_
 refine e_box (v := va) rfl y1 hS0 (fun g1 H2 hS3 hxx => ?_)
 rw [cells_rdL (hS0.rdl 1 rfl)] at hS3
 refine la (v := B (false)) rfl rfl rfl ?_
 refine wpL_nil ?_
 refine wpF_seq ?_
 refine wpF_region ?_
 refine lm (v := vC) rfl rfl y0 ?_
 refine lq rfl (q_makeFunc (fi' := #[]) rfl (by simp) (arr1 (v0 := PT g1 0) rfl)) ?_
 refine lo rfl ?_
 refine e_call rfl Try.call66 (arr2 (v0 := vC) (v1 := Value.func (.func 67) #[] #[PT g1 0]) rfl rfl) (ContainsFuncL vC (Value.func (.func 67) #[] #[PT g1 0]) C (fun c => !c.any (trueH a)) (hS3.rdN 1 rfl) (fun u x hx H hE hr => ⟨_, _, rfl, Try.call67, All_1 u x g1 va a hr (hE.blk (hS3.blk 0 rfl)) ((hS3.rdN 2 rfl).extN hE) (hf x hx)⟩)) ?_
 rintro _ H4 ⟨hxx, rfl⟩
 have hS5 := hS3.ext hxx
 refine lq rfl (q_not rfl rfl) ?_
 refine la (v := B (!(C.any (fun c => !c.any (trueH a))))) rfl rfl rfl ?_
 refine wpL_nil ?_
 refine wpF_ret ?_
 refine ⟨_, resT rfl resN, hS5.frame, ?_⟩
 show (B (!(C.any (fun c => !c.any (trueH a))))) = B (allH C a)
 rfl
set_option maxRecDepth 100000 in
theorem Bools_S {H0 : Heap} (va vb : Value) (a b : List Bool) (ra : Rd NoB H0 va a) (rb : Rd NoB H0 vb b) : CallsH Try.prog 18 #[va, vb] H0 (fun rv_ H' => Ext NoB H0 H' ∧ rv_ = B (decide (a = b))) := by
 have hsm := (Rd.list.1 ra).small
 have hS0 : St H0 NoB NoB [rdE va a, rdE vb b] H0 := St.arg (St.arg (St.start (fun _ h => h.elim)) (Bl0.nil) rb (fun _ h => h)) (Bl0.cons (Bl0.nil)) ra (fun _ h => h)
 refine callsH_of_wpF (args := [va, vb]) (rs := [.tmp 4]) Try.func18 rfl Try.ntmps18 Try.results18 (by kernel_rfl) (Nat.le_of_ble_eq_true rfl) ?_
 have y0 : argF [va, vb] 0 = va := rfl
 have y1 : argF [va, vb] 1 = vb := rfl
 generalize argF [va, vb] = f0 at *
 refine wpF_seq ?_
 refine wpF_region ?_
 refine la (v := B (false)) rfl rfl rfl ?_
 refine wpL_nil ?_
 refine wpF_seq ?_
 refine wpF_seq ?_
 refine wpF_region ?_
 refine lm (v := va) rfl rfl y0 ?_
 refine lq rfl (q_lenRd rfl Try.underlying31 rfl (hS0.rdl 0 rfl)) ?_
 refine lm (v := vb) rfl rfl y1 ?_
 refine lq rfl (q_lenRd rfl Try.underlying31 rfl (hS0.rdl 1 rfl)) ?_
 refine lq rfl (q_neq rfl rfl rfl) ?_
 refine wpL_nil ?_
 refine wpF_condP rfl (fun h10 => ?t8) (fun h10 => ?e8)
 case t8 =>
  refine wpF_seq ?_
  refine wpF_region ?_
  refine la (v := B (false)) rfl rfl rfl ?_
  refine wpL_nil ?_
  refine wpF_ret ?_
  refine ⟨_, resT rfl resN, hS0.frame, ?_⟩
  show (B (false)) = B (decide (a = b))
  exact congrArg B (decide_eq_false (fun e => h10 (by rw [e]))).symm
 refine wpF_skip ?_
 refine wpF_seq ?_
 refine wpF_seq ?_
 refine wpF_region ?_
 refine la (v := I (0)) rfl rfl rfl ?_
 refine wpL_nil ?_
 refine wpF_block ?_
 refine wpF_loop (fun mz f H => ∃ (i : Nat), mz = a.length - i ∧ (i ≤ a.length) ∧ (a.take i = b.take i) ∧ f 0 = va ∧ f 1 = vb ∧ f 5 = I ((i : Int)) ∧ St H0 NoB NoB [rdE va a, rdE vb b] H) (a.length - 0) ?_ ?_
 ·exact ⟨0, rfl, Nat.zero_le _, rfl, y0, y1, (Eq.trans rfl (congrArg I (by omega))), hS0⟩
 intro m2 f2 H2 hI2
 clear y0 y1
 obtain ⟨i, hm2, hi, hpre, y0, y1, y5, hS2⟩ := hI2
 refine wpF_seq ?_
 refine wpF_seq ?_
 refine wpF_region ?_
 refine lm (v := I ((i : Int))) rfl rfl y5 ?_
 refine lm (v := va) rfl rfl y0 ?_
 refine lq rfl (q_lenRd rfl Try.underlying31 rfl (hS2.rdl 0 rfl)) ?_
 refine lq rfl (q_lss rfl rfl rfl) ?_
 refine wpL_nil ?_
 refine wpF_condP rfl (fun hlt => ?t7) (fun hlt => ?e7)
 case e7 =>
  refine wpF_exit ?_
  refine atX_here ?_
  refine wpF_seq ?_
  refine wpF_region ?_
  refine la (v := B (true)) rfl rfl rfl ?_
  refine wpL_nil ?_
  refine wpF_ret ?_
  refine ⟨_, resT rfl resN, hS2.frame, ?_⟩
  show (B (true)) = B (decide (a = b))
  exact congrArg B (decide_eq_true (by rw [List.take_of_length_le (by omega), List.take_of_length_le (by omega)] at hpre; exact hpre)).symm
 refine wpF_skip ?_
 refine wpF_seq ?_
 refine wpF_block ?_
 refine wpF_seq ?_
 refine wpF_drawn [] [] (fun _ _ => False) (by kernel_rfl) (by kernel_rfl) ?_
 refine rq 0 (by kernel_rfl) rfl rfl (q_move (v := va) rfl y0) ?_
 refine rq 1 (by kernel_rfl) rfl rfl (q_move (v := I ((i : Int))) rfl y5) ?_
 refine rq 2 (by kernel_rfl) rfl rfl (q_indexRd (k := i) rfl Try.underlying31 el_Bool_4_DiaC3 rfl rfl (hS2.rdl 0 rfl) (by omega) (by omega)) ?_
 refine rq 3 (by kernel_rfl) rfl rfl (q_loadBool (k := i) rfl rfl el_Bool_4_DiaC3 (hS2.rdl 0 rfl) (by omega) (labU_sub [] rfl (fe))) ?_
 refine rq 4 (by kernel_rfl) rfl rfl (q_move (v := vb) rfl y1) ?_
 refine rq 5 (by kernel_rfl) rfl rfl (q_move (v := I ((i : Int))) rfl y5) ?_
 refine rq 6 (by kernel_rfl) rfl rfl (q_indexRd (k := i) rfl Try.underlying31 el_Bool_4_DiaC3 rfl rfl (hS2.rdl 1 rfl) (by omega) (by omega)) ?_
 refine rq 7 (by kernel_rfl) rfl rfl (q_loadBool (k := i) rfl rfl el_Bool_4_DiaC3 (hS2.rdl 1 rfl) (by omega) (labU_sub [] rfl (fe))) ?_
 refine rq 8 (by kernel_rfl) rfl rfl (q_neqB rfl Try.underlying4 rfl rfl) ?_
 refine wpR_end (by kernel_rfl) ?_
 skip
 refine wpF_condP rfl (fun h25 => ?t6) (fun h25 => ?e6)
 case t6 =>
  refine wpF_seq ?_
  refine wpF_region ?_
  refine la (v := B (false)) rfl rfl rfl ?_
  refine wpL_nil ?_
  refine wpF_ret ?_
  refine ⟨_, resT rfl resN, hS2.frame, ?_⟩
  show (B (false)) = B (decide (a = b))
  exact congrArg B (decide_eq_false (fun e => by rw [e] at h25; simp at h25)).symm
 refine wpF_skip ?_
 refine wpF_region ?_
 refine lm (v := I ((i : Int))) rfl rfl y5 ?_
 refine lq rfl (q_add rfl rfl rfl (by constructor <;> omega)) ?_
 refine la (v := I ((i : Int) + 1)) rfl rfl rfl ?_
 refine wpL_nil ?_
 refine ⟨_, ?_, i + 1, rfl, (by omega), (take_same hpre (by omega) (by omega) (by simpa using h25)), y0, y1, (Eq.trans rfl (congrArg I (by omega))), hS2⟩
 omega
end Go.Um
