import Derived.Test.YtbfgipgojdinoaaProg
import Derived.Test.YtbfgipgojdinoaaDiaC1
import Derived.Test.YtbfgipgojdinoaaUmTopCountsC
namespace Go.Um
open Go.Proofs
open GoT (sz ag rdc)
open KeyT (kv)
theorem el_Bool_4_DiaC2 : ElT Try.prog Bool 4 := ⟨Try.isAgg4, Try.sizeOf4⟩
theorem el_Int_3_DiaC2 : ElT Try.prog Int 3 := ⟨Try.isAgg3, Try.sizeOf3⟩
theorem el_LInt_22_DiaC2 : ElT Try.prog (List Int) 22 := ⟨Try.isAgg22, Try.sizeOf22⟩
theorem em_Bool_4_DiaC2 : ElemOk Try.prog Bool 4 := ⟨Try.t4, (.bool false), by kernel_rfl, by kernel_rfl, by kernel_rfl, by kernel_rfl, by kernel_rfl⟩
set_option maxRecDepth 100000 in
theorem bits_L {H0 : Heap} {S : Nat → Prop} (s n : Nat) (hs : s < 4611686018427387904) (hn : n ≤ 16) : CallsH Try.prog 34 #[I ((s : Int)), I ((n : Int))] H0 (fun rv_ H' => Ext NoB H0 H' ∧ Rd (SZ S H0) H' rv_ (bitsL s n)) := by
 have hS0 : St H0 NoB (SZ S H0) [] H0 := St.start (fun _ h => h.2)
 refine callsH_of_wpF (args := [I ((s : Int)), I ((n : Int))]) (rs := [.tmp 4]) Try.func34 rfl Try.ntmps34 Try.results34 (by kernel_rfl) (Nat.le_of_ble_eq_true rfl) ?_
 have y0 : argF [I ((s : Int)), I ((n : Int))] 0 = I ((s : Int)) := rfl
 have y1 : argF [I ((s : Int)), I ((n : Int))] 1 = I ((n : Int)) := rfl
 generalize argF [I ((s : Int)), I ((n : Int))] = f0 at *
 refine wpF_seq ?_
 refine wpF_region ?_
 refine la (v := nS) rfl rfl rfl ?_
 refine wpL_nil ?_
 refine wpF_seq ?_
 refine wpF_region ?_
 refine la (v := nS) rfl rfl rfl ?_
 refine wpL_nil ?_
 have hS1 : St H0 NoB (SZ S H0) [rowE 4 nS ([] : List Bool)] H0 := hS0.row0 4
 refine wpF_seq ?_
 refine wpF_seq ?_
 refine wpF_region ?_
 refine la (v := I (0)) rfl rfl rfl ?_
 refine wpL_nil ?_
 refine wpF_block ?_
 refine wpF_loop (fun mz f H => ∃ (i : Nat), ∃ (vo : Value), mz = n - i ∧ (i ≤ n) ∧ f 0 = I ((s : Int)) ∧ f 1 = I ((n : Int)) ∧ f 5 = vo ∧ f 6 = I ((i : Int)) ∧ St H0 NoB (SZ S H0) [rowE 4 vo (bitsL s i : List Bool)] H) (n - 0) ?_ ?_
 ·exact ⟨0, nS, rfl, Nat.zero_le _, y0, y1, rfl, (Eq.trans rfl (congrArg I (by omega))), (show St H0 NoB (SZ S H0) [rowE 4 nS (bitsL s 0 : List Bool)] H0 from hS1)⟩
 intro m2 f2 H2 hI2
 clear y0 y1
 obtain ⟨i, vo, hm2, hi, y0, y1, y5, y6, hS2⟩ := hI2
 refine wpF_seq ?_
 refine wpF_seq ?_
 refine wpF_region ?_
 refine lm (v := I ((i : Int))) rfl rfl y6 ?_
 refine lm (v := I ((n : Int))) rfl rfl y1 ?_
 refine lq rfl (q_lss rfl rfl rfl) ?_
 refine wpL_nil ?_
 refine wpF_condP rfl (fun hlt => ?t15) (fun hlt => ?e15)
 case e15 =>
  have hS4 : St H0 NoB (SZ S H0) [rowE 4 vo (bitsL s n : List Bool)] H2 := by have h__ := hS2; rw [show i = n by omega] at h__; exact h__
  refine wpF_exit ?_
  refine atX_here ?_
  refine wpF_seq ?_
  refine wpF_region ?_
  refine lm (v := vo) rfl rfl y5 ?_
  refine la (v := vo) rfl rfl rfl ?_
  refine wpL_nil ?_
  refine wpF_ret ?_
  refine ⟨_, resT rfl resN, hS4.frame, ?_⟩
  show Rd (SZ S H0) H2 vo (bitsL s n)
  have hS14 : St H0 NoB (SZ S H0) [rdE vo (bitsL s n)] H2 := St.fin hS4
  exact (hS14.result (hS14.rdS 0 rfl))
 refine wpF_skip ?_
 refine wpF_seq ?_
 refine wpF_block ?_
 refine wpF_region ?_
 refine lm (v := vo) rfl rfl y5 ?_
 refine lm (v := I ((s : Int))) rfl rfl y0 ?_
 refine lm (v := I ((i : Int))) rfl rfl y6 ?_
 refine lq rfl (q_shrN (a := s) rfl rfl rfl (by omega) (by omega)) ?_
 refine lq rfl (q_andN (a := s >>> i) (b := 1) rfl rfl rfl (by first | omega | exact lt62_andNot (by omega) (by omega) | exact lt62_and (by omega) | exact shr_lt (by omega)) (by first | omega | exact lt62_andNot (by omega) (by omega) | exact lt62_and (by omega) | exact shr_lt (by omega))) ?_
 refine lq rfl (q_eql rfl rfl rfl) ?_
 refine lo rfl ?_
 refine e_buildSlice (vs := [B (decide ((((s >>> i) &&& 1 : Nat) : Int) = 1))]) (xs := ([decide ((((s >>> i) &&& 1 : Nat) : Int) = 1)] : List Bool)) rfl Try.underlying31 Try.zeroValue4 rfl Try.sizeOf4 (par1 (v0 := B (decide ((((s >>> i) &&& 1 : Nat) : Int) = 1))) rfl) rfl hS2 (RdVs.cons (Rd.bool.2 rfl) (RdVs.nil)) (by decide) (by decide) (fun v5 H6 hS7 hxx hvv5 => ?_)
 have hS8 : St H0 NoB (SZ S H0) [rdE v5 ([decide ((((s >>> i) &&& 1 : Nat) : Int) = 1)] : List Bool), rowE 4 vo (bitsL s i : List Bool)] H6 := St.fin hS7
 have hS9 := (hS8.front 1 rfl)
 refine lo rfl ?_
 refine e_append rfl Try.underlying31 em_Bool_4_DiaC2 rfl rfl hS9 (hS9.rdS 1 rfl) (fun _ h => h) (by have hb : GoT.bytes Bool = 1 := rfl; have := bitsL_len (s := s) (n := i); simp [hb]; omega) (by decide) (fun v10 H11 hS12 hxx => ?_)
 have hS13 : St H0 NoB (SZ S H0) [rowE 4 v10 (bitsL s (i + 1) : List Bool), rdE v5 ([decide ((((s >>> i) &&& 1 : Nat) : Int) = 1)] : List Bool)] H11 := by rw [show (bitsL s (i + 1)) = ((bitsL s i) ++ ([decide ((((s >>> i) &&& 1 : Nat) : Int) = 1)])) from (by rw [bitsL_next, ← bit_one])]; exact hS12
 refine la (v := v10) rfl rfl rfl ?_
 refine wpL_nil ?_
 refine wpF_region ?_
 refine lm (v := I ((i : Int))) rfl rfl y6 ?_
 refine lq rfl (q_add rfl rfl rfl (by constructor <;> omega)) ?_
 refine la (v := I ((i : Int) + 1)) rfl rfl rfl ?_
 refine wpL_nil ?_
 refine ⟨_, ?_, i + 1, v10, rfl, (by omega), y0, y1, rfl, (Eq.trans rfl (congrArg I (by omega))), (hS13.drop (sk (sn (List.Sublist.slnil))))⟩
 omega
set_option maxRecDepth 100000 in
theorem LitHolds_R {H0 : Heap} (va : Value) (a : List Bool) (l : Int) (ra : Rd NoB H0 va a) (hl : ¬ l = 0 ∧ -(a.length : Int) ≤ l ∧ l ≤ a.length) (hal : a.length ≤ 120) : CallsH Try.prog 45 #[I (l), va] H0 (fun rv_ H' => Ext NoB H0 H' ∧ rv_ = B (litH a l)) := by
 have hS0 : St H0 NoB NoB [rdE va a] H0 := St.arg (St.start (fun _ h => h.elim)) (Bl0.nil) ra (fun _ h => h)
 refine callsH_of_wpF (args := [I (l), va]) (rs := [.tmp 4]) Try.func45 rfl Try.ntmps45 Try.results45 (by kernel_rfl) (Nat.le_of_ble_eq_true rfl) ?_
 have y0 : argF [I (l), va] 0 = I (l) := rfl
 have y1 : argF [I (l), va] 1 = va := rfl
 generalize argF [I (l), va] = f0 at *
 refine wpF_seq ?_
 refine wpF_region ?_
 refine la (v := B (false)) rfl rfl rfl ?_
 refine wpL_nil ?_
 refine wpF_seq ?_
 refine wpF_seq ?_
 refine wpF_region ?_
 refine lm (v := I (l)) rfl rfl y0 ?_
 refine lq rfl (q_lss rfl rfl rfl) ?_
 refine wpL_nil ?_
 refine wpF_condP rfl (fun h6 => ?t2) (fun h6 => ?e2)
 case e2 =>
  refine wpF_skip ?_
  refine wpF_seq ?_
  refine wpF_region ?_
  refine lm (v := va) rfl rfl y1 ?_
  refine lm (v := I (l)) rfl rfl y0 ?_
  refine lq rfl (q_sub rfl rfl rfl (by constructor <;> omega)) ?_
  refine lq rfl (q_indexRd (k := (l - 1).toNat) rfl Try.underlying31 el_Bool_4_DiaC2 rfl rfl (hS0.rdl 0 rfl) (by omega) (by omega)) ?_
  refine lq rfl (q_loadBool (k := (l - 1).toNat) rfl rfl el_Bool_4_DiaC2 (hS0.rdl 0 rfl) (by omega) (fun _ h => h)) ?_
  refine la (v := B (nth a ((l - 1).toNat))) rfl rfl rfl ?_
  refine wpL_nil ?_
  refine wpF_ret ?_
  refine ⟨_, resT rfl resN, hS0.frame, ?_⟩
  show (B (nth a ((l - 1).toNat))) = B (litH a l)
  exact congrArg B (if_neg h6).symm
 refine wpF_seq ?_
 refine wpF_region ?_
 refine lm (v := va) rfl rfl y1 ?_
 refine lm (v := I (l)) rfl rfl y0 ?_
 refine lq rfl (q_neg rfl rfl (by constructor <;> omega)) ?_
 refine lq rfl (q_sub rfl rfl rfl (by constructor <;> omega)) ?_
 refine lq rfl (q_indexRd (k := ((-l) - 1).toNat) rfl Try.underlying31 el_Bool_4_DiaC2 rfl rfl (hS0.rdl 0 rfl) (by omega) (by omega)) ?_
 refine lq rfl (q_loadBool (k := ((-l) - 1).toNat) rfl rfl el_Bool_4_DiaC2 (hS0.rdl 0 rfl) (by omega) (fun _ h => h)) ?_
 refine lq rfl (q_not rfl rfl) ?_
 refine la (v := B (!(nth a (((-l) - 1).toNat)))) rfl rfl rfl ?_
 refine wpL_nil ?_
 refine wpF_ret ?_
 refine ⟨_, resT rfl resN, hS0.frame, ?_⟩
 show (B (!(nth a (((-l) - 1).toNat)))) = B (litH a l)
 exact congrArg B (if_pos h6).symm
set_option maxHeartbeats 1000000 in
set_option maxRecDepth 100000 in
theorem ClausesHold_R {H0 : Heap} (vC va : Value) (C : List (List Int)) (a : List Bool) (rC : Rd NoB H0 vC C) (ra : Rd NoB H0 va a) (hf : ∀ c ∈ C, fitA a c) (hw : ∀ c ∈ C, c.length ≤ 24) : CallsH Try.prog 19 #[vC, va] H0 (fun rv_ H' => Ext NoB H0 H' ∧ rv_ = B (clausesH C a)) := by
 have hsm := (Rd.list.1 rC).small
 have hS0 : St H0 NoB NoB [rdE vC C, rdE va a] H0 := St.arg (St.arg (St.start (fun _ h => h.elim)) (Bl0.nil) ra (fun _ h => h)) (Bl0.cons (Bl0.nil)) rC (fun _ h => h)
 refine callsH_of_wpF (args := [vC, va]) (rs := [.tmp 4]) Try.func19 rfl Try.ntmps19 Try.results19 (by kernel_rfl) (Nat.le_of_ble_eq_true rfl) ?_
 have y0 : argF [vC, va] 0 = vC := rfl
 have y1 : argF [vC, va] 1 = va := rfl
 generalize argF [vC, va] = f0 at *
 refine wpF_seq ?_
 refine wpF_region ?_
 refine la (v := B (false)) rfl rfl rfl ?_
 refine wpL_nil ?_
 refine wpF_seq ?_
 refine wpF_seq ?_
 refine wpF_region ?_
 refine la (v := I (0)) rfl rfl rfl ?_
 refine wpL_nil ?_
 refine wpF_block ?_
 refine wpF_loop (fun mz f H => ∃ (i : Nat), mz = C.length - i ∧ (i ≤ C.length) ∧ (∀ j, j < i → (nth C j).any (litH a) = true) ∧ f 0 = vC ∧ f 1 = va ∧ f 5 = I ((i : Int)) ∧ St H0 NoB NoB [rdE vC C, rdE va a] H) (C.length - 0) ?_ ?_
 ·exact ⟨0, rfl, Nat.zero_le _, (fun j hj => absurd hj (Nat.not_lt_zero j)), y0, y1, (Eq.trans rfl (congrArg I (by omega))), hS0⟩
 intro m1 f1 H1 hI1
 clear y0 y1
 obtain ⟨i, hm1, hi, hgd, y0, y1, y5, hS1⟩ := hI1
 refine wpF_seq ?_
 refine wpF_seq ?_
 refine wpF_region ?_
 refine lm (v := I ((i : Int))) rfl rfl y5 ?_
 refine lm (v := vC) rfl rfl y0 ?_
 refine lq rfl (q_lenRd rfl Try.underlying24 rfl (hS1.rdl 0 rfl)) ?_
 refine lq rfl (q_lss rfl rfl rfl) ?_
 refine wpL_nil ?_
 refine wpF_condP rfl (fun hlt => ?t19) (fun hlt => ?e19)
 case e19 =>
  refine wpF_exit ?_
  refine atX_here ?_
  refine wpF_seq ?_
  refine wpF_region ?_
  refine la (v := B (true)) rfl rfl rfl ?_
  refine wpL_nil ?_
  refine wpF_ret ?_
  refine ⟨_, resT rfl resN, hS1.frame, ?_⟩
  show (B (true)) = B (clausesH C a)
  exact congrArg B (clausesH_yes (fun j hj => hgd j (by omega))).symm
 have hwi := hw _ (nth_mem (l := C) (k := i) (by omega))
 refine wpF_skip ?_
 refine wpF_seq ?_
 refine wpF_block ?_
 refine wpF_seq ?_
 refine wpF_region ?_
 refine la (v := B (false)) rfl rfl rfl ?_
 refine wpL_nil ?_
 refine wpF_seq ?_
 refine wpF_seq ?_
 refine wpF_region ?_
 refine la (v := I (0)) rfl rfl rfl ?_
 refine wpL_nil ?_
 refine wpF_block ?_
 refine wpF_loop (fun mz f H => ∃ (k : Nat), mz = (nth C i).length - k ∧ (k ≤ (nth C i).length) ∧ f 0 = vC ∧ f 1 = va ∧ f 5 = I ((i : Int)) ∧ f 6 = B (((nth C i).take k).any (litH a)) ∧ f 7 = I ((k : Int)) ∧ St H0 NoB NoB [rdE vC C, rdE va a] H) ((nth C i).length - 0) ?_ ?_
 ·exact ⟨0, rfl, Nat.zero_le _, y0, y1, y5, rfl, (Eq.trans rfl (congrArg I (by omega))), hS1⟩
 intro m3 f3 H3 hI3
 clear y0 y1 y5
 obtain ⟨k, hm3, hk, y0, y1, y5, y6, y7, hS3⟩ := hI3
 refine wpF_seq ?_
 refine wpF_seq ?_
 obtain ⟨u4, huu4, hlu4⟩ := (Rd.list.1 (hS3.rdS 0 rfl)).elem i (by omega)
 have hS5 := hS3.rd huu4
 refine wpF_region ?_
 refine lm (v := I ((k : Int))) rfl rfl y7 ?_
 refine lm (v := vC) rfl rfl y0 ?_
 refine lm (v := I ((i : Int))) rfl rfl y5 ?_
 refine lq rfl (q_indexRd (k := i) rfl Try.underlying24 el_LInt_22_DiaC2 rfl rfl (hS3.rdl 0 rfl) (by omega) (by omega)) ?_
 refine lq rfl (q_loadE rfl rfl (hlu4 Try.prog 22 _ el_LInt_22_DiaC2 (fun _ h => False.elim h))) ?_
 refine lq rfl (q_lenRd rfl Try.underlying22 rfl (hS5.rdl 0 rfl)) ?_
 refine lq rfl (q_lss rfl rfl rfl) ?_
 refine wpL_nil ?_
 refine wpF_condP rfl (fun hlt2 => ?t18) (fun hlt2 => ?e18)
 case e18 =>
  obtain rfl : k = (nth C i).length := by omega
  refine wpF_exit ?_
  refine atX_here ?_
  refine wpF_seq ?_
  refine wpF_region ?_
  refine lm (v := B (((nth C i).take (nth C i).length).any (litH a))) rfl rfl y6 ?_
  refine lq rfl (q_not rfl rfl) ?_
  refine wpL_nil ?_
  refine wpF_cond rfl (fun h36 => ?t17) (fun h36 => ?e17)
  case e17 =>
   refine wpF_skip ?_
   refine wpF_region ?_
   refine lm (v := I ((i : Int))) rfl rfl y5 ?_
   refine lq rfl (q_add rfl rfl rfl (by constructor <;> omega)) ?_
   refine la (v := I ((i : Int) + 1)) rfl rfl rfl ?_
   refine wpL_nil ?_
   refine ⟨_, ?_, i + 1, rfl, (by omega), (all_succ hgd (by rw [List.take_length] at h36; simpa using h36)), y0, y1, (Eq.trans rfl (congrArg I (by omega))), (hS5.drop (sn (sk (sk (List.Sublist.slnil)))))⟩
   omega
  refine wpF_seq ?_
  refine wpF_region ?_
  refine la (v := B (false)) rfl rfl rfl ?_
  refine wpL_nil ?_
  refine wpF_ret ?_
  refine ⟨_, resT rfl resN, hS5.frame, ?_⟩
  show (B (false)) = B (clausesH C a)
  rw [List.take_length] at h36
  exact congrArg B (clausesH_no (i := i) (by omega) (by simpa using h36)).symm
 refine wpF_skip ?_
 refine wpF_seq ?_
 refine wpF_block ?_
 refine wpF_cut (fun f H => f 0 = vC ∧ f 1 = va ∧ f 5 = I ((i : Int)) ∧ f 6 = B (decide (((((nth C i).take k).any (litH a)) = true) ∨ ((litH a (nth (nth C i) k)) = true))) ∧ f 7 = I ((k : Int)) ∧ St H0 NoB NoB [rdE vC C, rdE va a] H) ?_ ?_
 ·refine wpF_region ?_
  refine lm (v := B (((nth C i).take k).any (litH a))) rfl rfl y6 ?_
  refine lm (v := B (((nth C i).take k).any (litH a))) rfl rfl rfl ?_
  by_cases hg7 : (((nth C i).take k).any (litH a)) = true
  ·have hb8 := Eq.trans rfl (congrArg B hg7)
   refine wpL_gs rfl rfl rfl hb8 rfl ?_
   refine wpL_gs rfl rfl rfl hb8 rfl ?_
   refine wpL_gs rfl rfl rfl hb8 rfl ?_
   refine wpL_gs rfl rfl rfl hb8 rfl ?_
   refine wpL_gs rfl rfl rfl hb8 rfl ?_
   refine wpL_gs rfl rfl rfl hb8 rfl ?_
   refine wpL_gs rfl rfl rfl hb8 rfl ?_
   refine wpL_gs rfl rfl rfl hb8 rfl ?_
   refine wpL_gs rfl rfl rfl hb8 rfl ?_
   refine lq rfl (q_pickT (v := B (true)) rfl hb8 rfl) ?_
   refine la (v := B (true)) rfl rfl rfl ?_
   exact ⟨y0, y1, y5, (Eq.trans rfl (congrArg B ((decide_eq_true (Or.inl hg7)).symm))), y7, (hS5.drop (sn (sk (sk (List.Sublist.slnil)))))⟩
  ·have hb9 := Eq.trans rfl (congrArg B (Bool.eq_false_iff.2 hg7))
   refine gq rfl rfl rfl hb9 (q_move (v := vC) rfl y0) ?_
   refine gq rfl rfl rfl hb9 (q_move (v := I ((i : Int))) rfl y5) ?_
   refine gq rfl rfl rfl hb9 (q_indexRd (k := i) rfl Try.underlying24 el_LInt_22_DiaC2 rfl rfl (hS5.rdl 1 rfl) (by omega) (by omega)) ?_
   obtain ⟨u10, huu10, hlu10⟩ := (Rd.list.1 (hS5.rdS 1 rfl)).elem i (by omega)
   have hS11 := hS5.rd huu10
   refine gq rfl rfl rfl hb9 (q_loadE rfl rfl (hlu10 Try.prog 22 _ el_LInt_22_DiaC2 (fun _ h => False.elim h))) ?_
   refine gq rfl rfl rfl hb9 (q_move (v := I ((k : Int))) rfl y7) ?_
   refine gq rfl rfl rfl hb9 (q_indexRd (k := k) rfl Try.underlying22 el_Int_3_DiaC2 rfl rfl (hS11.rdl 0 rfl) (by omega) (by omega)) ?_
   refine gq rfl rfl rfl hb9 (q_loadInt (k := k) rfl rfl el_Int_3_DiaC2 (hS11.rdl 0 rfl) (by omega) (fun _ h => h)) ?_
   refine gq rfl rfl rfl hb9 (q_move (v := va) rfl y1) ?_
   refine wpL_go rfl rfl rfl hb9 ?_
   refine e_call rfl Try.call45 (arr2 (v0 := I (nth (nth C i) k)) (v1 := va) rfl rfl) (LitHolds_R va a (nth (nth C i) k) (hS11.rdN 3 rfl) ((hf _ (nth_mem (l := C) (k := i) (by omega))).2 _ (nth_mem (by omega))) (hf _ (nth_mem (l := C) (k := i) (by omega))).1) ?_
   rintro _ H12 ⟨hxx, rfl⟩
   have hS13 := hS11.ext hxx
   refine lq rfl (q_pickF (v := B (litH a (nth (nth C i) k))) rfl hb9 rfl) ?_
   refine la (v := B (litH a (nth (nth C i) k))) rfl rfl rfl ?_
   exact ⟨y0, y1, y5, (Eq.trans rfl (congrArg B (bool_congr_of ((Iff.rfl).trans (((or_iff_right hg7).trans Iff.rfl)).symm)))), y7, (hS13.drop (sn (sn (sk (sk (List.Sublist.slnil))))))⟩
 clear y0 y1 y5 y6 y7
 rintro f15 H15 ⟨y0, y1, y5, y6, y7, hS15⟩
 refine wpF_region ?_
 refine lm (v := I ((k : Int))) rfl rfl y7 ?_
 refine lq rfl (q_add rfl rfl rfl (by constructor <;> omega)) ?_
 refine la (v := I ((k : Int) + 1)) rfl rfl rfl ?_
 refine wpL_nil ?_
 refine ⟨_, ?_, k + 1, rfl, (by omega), y0, y1, y5, (Eq.trans y6 (congrArg B (by rw [any_next (by omega)]; cases ((nth C i).take k).any (litH a) <;> simp))), (Eq.trans rfl (congrArg I (by omega))), hS15⟩
 omega
set_option maxHeartbeats 1000000 in
set_option maxRecDepth 100000 in
theorem models_L {H0 : Heap} (vC : Value) (C : List (List Int)) (V : Nat) (rC : Rd NoB H0 vC C) (hV : V ≤ 16) (hok : ∀ c ∈ C, litsOk V c) (hw : ∀ c ∈ C, c.length ≤ 24) : CallsH Try.prog 12 #[Vg #[I ((V : Int)), vC]] H0 (fun rv_ H' => Ext NoB H0 H' ∧ rv_ = I (((modTo C V (2 ^ V) : Nat) : Int))) := by
 have h2V : 2 ^ V ≤ 65536 := Nat.le_trans (Nat.pow_le_pow_right (by decide) hV) (by decide)
 have hS0 : St H0 NoB NoB [rdE vC C] H0 := St.arg (St.start (fun _ h => h.elim)) (Bl0.nil) rC (fun _ h => h)
 refine callsH_of_wpF (args := [Vg #[I ((V : Int)), vC]]) (rs := [.tmp 2]) Try.func12 rfl Try.ntmps12 Try.results12 (by kernel_rfl) (Nat.le_of_ble_eq_true rfl) ?_
 have y0 : argF [Vg #[I ((V : Int)), vC]] 0 = Vg #[I ((V : Int)), vC] := rfl
 generalize argF [Vg #[I ((V : Int)), vC]] = f0 at *
 refine wpF_seq ?_
 refine wpF_region ?_
 refine lo rfl ?_
 refine e_box (v := Vg #[I ((V : Int)), vC]) rfl y0 hS0 (fun g1 H2 hS3 hxx => ?_)
 refine la (v := I (0)) rfl rfl rfl ?_
 refine wpL_nil ?_
 refine wpF_seq ?_
 refine wpF_region ?_
 refine la (v := I (0)) rfl rfl rfl ?_
 refine wpL_nil ?_
 refine wpF_seq ?_
 refine wpF_seq ?_
 refine wpF_region ?_
 refine la (v := I (0)) rfl rfl rfl ?_
 refine wpL_nil ?_
 refine wpF_block ?_
 refine wpF_loop (fun mz f H => ∃ (s : Nat), ∃ (mc : Int), mz = 2 ^ V - s ∧ (s ≤ 2 ^ V) ∧ (mc = ((modTo C V s : Nat) : Int)) ∧ f 1 = PT g1 0 ∧ f 3 = I (mc) ∧ f 4 = I ((s : Int)) ∧ St H0 NoB NoB [bE g1 #[I ((V : Int)), vC] 26, rdE vC C] H) (2 ^ V - 0) ?_ ?_
 ·exact ⟨0, 0, rfl, Nat.zero_le _, rfl, rfl, rfl, (Eq.trans rfl (congrArg I (by omega))), hS3⟩
 intro m4 f4 H4 hI4
 obtain ⟨s, mc, hm4, hs, hmc, y1, y3, y4, hS4⟩ := hI4
 refine wpF_seq ?_
 refine wpF_seq ?_
 refine wpF_region ?_
 refine lm (v := I ((s : Int))) rfl rfl y4 ?_
 refine lq rfl (q_fieldAddr rfl Try.underlying26 rfl Try.sizeOf3 y1) ?_
 refine lq rfl (q_loadBlk rfl rfl Try.isAgg3 (hS4.blk 0 rfl) rfl (fun h => h)) ?_
 refine lq rfl (q_shl1 rfl rfl rfl (by omega) (by omega)) ?_
 refine lq rfl (q_lss rfl rfl rfl) ?_
 refine wpL_nil ?_
 refine wpF_condP rfl (fun hlt => ?t9) (fun hlt => ?e9)
 case e9 =>
  rw [Int.toNat_natCast] at hlt
  obtain rfl : s = (2 ^ V) := by omega
  refine wpF_exit ?_
  refine atX_here ?_
  refine wpF_seq ?_
  refine wpF_region ?_
  refine lm (v := I (mc)) rfl rfl y3 ?_
  refine la (v := I (mc)) rfl rfl rfl ?_
  refine wpL_nil ?_
  refine wpF_ret ?_
  refine ⟨_, resT rfl resN, hS4.frame, ?_⟩
  show (I (mc)) = I (((modTo C V (2 ^ V) : Nat) : Int))
  exact congrArg I hmc
 rw [Int.toNat_natCast] at hlt
 have hmi := modTo_le (C := C) (V := V) (s := s)
 refine wpF_skip ?_
 refine wpF_seq ?_
 refine wpF_block ?_
 refine wpF_seq ?_
 refine wpF_drawn [] [] (fun _ _ => False) (by kernel_rfl) (by kernel_rfl) ?_
 refine rq 0 (by kernel_rfl) rfl rfl (q_fieldAddr rfl Try.underlying26 rfl Try.sizeOf24 y1) ?_
 refine rq 1 (by kernel_rfl) rfl rfl (q_loadBlk rfl rfl Try.isAgg24 (hS4.blk 0 rfl) rfl (labU_not [] rfl (fe))) ?_
 refine rq 2 (by kernel_rfl) rfl rfl (q_move (v := I ((s : Int))) rfl y4) ?_
 refine rq 3 (by kernel_rfl) rfl rfl (q_fieldAddr rfl Try.underlying26 rfl Try.sizeOf3 y1) ?_
 refine rq 4 (by kernel_rfl) rfl rfl (q_loadBlk rfl rfl Try.isAgg3 (hS4.blk 0 rfl) rfl (labU_not [] rfl (fe))) ?_
 refine wpR_n [5] (by kernel_rfl) ?_
 refine fa ?_ fe
 refine exE rfl rfl ?_
 refine e_call rfl Try.call34 (arr2 (v0 := I ((s : Int))) (v1 := I ((V : Int))) rfl rfl) (bits_L (S := SL NoB [bE g1 #[I ((V : Int)), vC] 26, rdE vC C]) s V (by omega) (by omega)) ?_
 rintro r6o5 H6o5 ⟨hxx, hrr6o5⟩
 have hS6o5 := hS4.res hxx hrr6o5
 refine ⟨Ext.mono hxx (fun _ h => h.elim), ?_⟩
 refine wpR_n [6] (by kernel_rfl) ?_
 refine fa ?_ fe
 refine exE rfl rfl ?_
 refine e_call rfl Try.call19 (arr2 (v0 := vC) (v1 := r6o5) rfl rfl) (ClausesHold_R vC r6o5 C (bitsL s V) (hS6o5.rdN 2 rfl) (hS6o5.rdN 0 rfl) (fun c hc => fit_of bitsL_len (by omega) (hok c hc)) hw) ?_
 rintro _ H6o6 ⟨hxx, rfl⟩
 have hS6o6 := hS6o5.ext hxx
 refine ⟨Ext.mono hxx (fun _ h => h.elim), ?_⟩
 refine wpR_end (by kernel_rfl) ?_
 skip
 refine wpF_cond rfl (fun h18 => ?t8) (fun h18 => ?e8)
 case e8 =>
  refine wpF_skip ?_
  refine wpF_region ?_
  refine lm (v := I ((s : Int))) rfl rfl y4 ?_
  refine lq rfl (q_add rfl rfl rfl (by constructor <;> omega)) ?_
  refine la (v := I ((s : Int) + 1)) rfl rfl rfl ?_
  refine wpL_nil ?_
  refine ⟨_, ?_, s + 1, mc, rfl, (by omega), (by rw [mod_no (by rw [h18]; exact Bool.false_ne_true), ← hmc]), y1, y3, (Eq.trans rfl (congrArg I (by omega))), (hS6o6.drop (sn (sk (sk (List.Sublist.slnil)))))⟩
  omega
 refine wpF_region ?_
 refine lm (v := I (mc)) rfl rfl y3 ?_
 refine lq rfl (q_add rfl rfl rfl (by constructor <;> omega)) ?_
 refine la (v := I (mc + 1)) rfl rfl rfl ?_
 refine wpL_nil ?_
 refine wpF_region ?_
 refine lm (v := I ((s : Int))) rfl rfl y4 ?_
 refine lq rfl (q_add rfl rfl rfl (by constructor <;> omega)) ?_
 refine la (v := I ((s : Int) + 1)) rfl rfl rfl ?_
 refine wpL_nil ?_
 refine ⟨_, ?_, s + 1, mc + 1, rfl, (by omega), (by rw [mod_yes h18, ← hmc]), y1, (Eq.trans rfl (congrArg I (by omega))), (Eq.trans rfl (congrArg I (by omega))), (hS6o6.drop (sn (sk (sk (List.Sublist.slnil)))))⟩
 omega
end Go.Um
