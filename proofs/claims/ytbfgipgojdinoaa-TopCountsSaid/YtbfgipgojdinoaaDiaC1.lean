import Derived.Test.YtbfgipgojdinoaaProg
import Derived.Test.YtbfgipgojdinoaaCardC1
import Derived.Test.YtbfgipgojdinoaaUmTopCountsC
namespace Go.Um
open Go.Proofs
open GoT (sz ag rdc)
open KeyT (kv)
theorem el_Int_3_DiaC1 : ElT Try.prog Int 3 := ⟨Try.isAgg3, Try.sizeOf3⟩
theorem em_Int_3_DiaC1 : ElemOk Try.prog Int 3 := ⟨Try.t3, (.int .i64 0), by kernel_rfl, by kernel_rfl, by kernel_rfl, by kernel_rfl, by kernel_rfl⟩
theorem em_LInt_22_DiaC1 : ElemOk Try.prog (List Int) 22 := ⟨Try.t22, (.slice none 0 0), by kernel_rfl, by kernel_rfl, by kernel_rfl, by kernel_rfl, by kernel_rfl⟩
set_option maxRecDepth 100000 in
theorem Var_K {H0 : Heap} (l : Int) (hl : -120 ≤ l ∧ l ≤ 120) : CallsH Try.prog 62 #[I (l)] H0 (fun rv_ H' => Ext NoB H0 H' ∧ rv_ = I (varA l)) := by
 have hS0 : St H0 NoB NoB [] H0 := St.start (fun _ h => h.elim)
 refine callsH_of_wpF (args := [I (l)]) (rs := [.tmp 2]) Try.func62 rfl Try.ntmps62 Try.results62 (by kernel_rfl) (Nat.le_of_ble_eq_true rfl) ?_
 have y0 : argF [I (l)] 0 = I (l) := rfl
 generalize argF [I (l)] = f0 at *
 refine wpF_seq ?_
 refine wpF_region ?_
 refine la (v := I (0)) rfl rfl rfl ?_
 refine wpL_nil ?_
 refine wpF_seq ?_
 refine wpF_seq ?_
 refine wpF_region ?_
 refine lm (v := I (l)) rfl rfl y0 ?_
 refine lq rfl (q_lss rfl rfl rfl) ?_
 refine wpL_nil ?_
 refine wpF_condP rfl (fun h4 => ?t2) (fun h4 => ?e2)
 case t2 =>
  refine wpF_seq ?_
  refine wpF_region ?_
  refine lm (v := I (l)) rfl rfl y0 ?_
  refine lq rfl (q_neg rfl rfl (by constructor <;> omega)) ?_
  refine la (v := I (-l)) rfl rfl rfl ?_
  refine wpL_nil ?_
  refine wpF_ret ?_
  refine ⟨_, resT rfl resN, hS0.frame, ?_⟩
  show (I (-l)) = I (varA l)
  exact congrArg I (by unfold varA; omega)
 refine wpF_skip ?_
 refine wpF_seq ?_
 refine wpF_region ?_
 refine lm (v := I (l)) rfl rfl y0 ?_
 refine la (v := I (l)) rfl rfl rfl ?_
 refine wpL_nil ?_
 refine wpF_ret ?_
 refine ⟨_, resT rfl resN, hS0.frame, ?_⟩
 show (I (l)) = I (varA l)
 exact congrArg I (by unfold varA; omega)
set_option maxHeartbeats 4000000 in
set_option maxRecDepth 100000 in
theorem ClauseOf_K {H0 : Heap} {S : Nat → Prop} (x : Int) (hx6 : In64 x) : CallsH Try.prog 33 #[I (x), I (6)] H0 (fun rv_ H' => Ext NoB H0 H' ∧ ∃ c_ : List Int, Rd (SZ S H0) H' rv_ c_ ∧ litsOk 6 c_ ∧ c_.length ≤ 3) := by
 have hS0 : St H0 NoB (SZ S H0) [] H0 := St.start (fun _ h => h.2)
 refine callsH_of_wpF (args := [I (x), I (6)]) (rs := [.tmp 4]) Try.func33 rfl Try.ntmps33 Try.results33 (by kernel_rfl) (Nat.le_of_ble_eq_true rfl) ?_
 have y0 : argF [I (x), I (6)] 0 = I (x) := rfl
 have y1 : argF [I (x), I (6)] 1 = I (6) := rfl
 generalize argF [I (x), I (6)] = f0 at *
 refine wpF_seq ?_
 refine wpF_region ?_
 refine la (v := nS) rfl rfl rfl ?_
 refine wpL_nil ?_
 refine wpF_seq ?_
 refine wpF_region ?_
 refine la (v := nS) rfl rfl rfl ?_
 refine wpL_nil ?_
 have hS1 : St H0 NoB (SZ S H0) [rowE 3 nS ([] : List Int)] H0 := hS0.row0 3
 refine wpF_seq ?_
 refine wpF_seq ?_
 refine wpF_region ?_
 refine la (v := I (0)) rfl rfl rfl ?_
 refine wpL_nil ?_
 refine wpF_block ?_
 refine wpF_loop (fun mz f H => ∃ (k : Nat), ∃ (xk : Int), ∃ (c : List Int), ∃ (vc : Value), mz = 3 - k ∧ (k ≤ 3) ∧ (In64 xk) ∧ (c.length ≤ k) ∧ (litSet 6 c) ∧ f 0 = I (xk) ∧ f 1 = I (6) ∧ f 5 = vc ∧ f 6 = I ((k : Int)) ∧ St H0 NoB (SZ S H0) [rowE 3 vc (c : List Int)] H) (3 - 0) ?_ ?_
 ·exact ⟨0, x, [], nS, rfl, Nat.zero_le _, hx6, (Nat.le_refl _), litSet_nil, y0, y1, rfl, (Eq.trans rfl (congrArg I (by omega))), (show St H0 NoB (SZ S H0) [rowE 3 nS (([]) : List Int)] H0 from hS1)⟩
 intro m2 f2 H2 hI2
 clear y0 y1
 obtain ⟨k, xk, c, vc, hm2, hk, hxk, hcl, hco, y0, y1, y5, y6, hS2⟩ := hI2
 refine wpF_seq ?_
 refine wpF_seq ?_
 refine wpF_region ?_
 refine lm (v := I ((k : Int))) rfl rfl y6 ?_
 refine lm (v := I (xk)) rfl rfl y0 ?_
 refine lo rfl ?_
 refine e_call rfl Try.call5 (arr2 (v0 := I (xk)) (v1 := I (3)) rfl rfl) (Picked xk 3 (by omega)) ?_
 rintro _ H4 ⟨hxx, rfl, pk3⟩
 have hS5 := hS2.ext hxx
 refine lq rfl (q_leq rfl rfl rfl) ?_
 refine wpL_nil ?_
 refine wpF_condP rfl (fun h15 => ?t55) (fun h15 => ?e55)
 case e55 =>
  refine wpF_exit ?_
  refine atX_here ?_
  refine wpF_seq ?_
  refine wpF_seq ?_
  refine wpF_region ?_
  refine la (v := I (1)) rfl rfl rfl ?_
  refine wpL_nil ?_
  refine wpF_block ?_
  refine wpF_loop (fun mz f H => ∃ (i : Nat), ∃ (cc : List Int), mz = c.length - i ∧ (cc.Perm c) ∧ (1 ≤ i) ∧ f 5 = vc ∧ f 10 = I ((i : Int)) ∧ St H0 NoB (SZ S H0) [rowE 3 vc (cc : List Int)] H) (c.length - 1) ?_ ?_
  ·exact ⟨1, c, rfl, (List.Perm.refl _), (Nat.le_refl _), y5, (Eq.trans rfl (congrArg I (by omega))), hS5⟩
  intro m42 f42 H42 hI42
  clear y5
  obtain ⟨i, cc, hm42, hpm, hi1, y5, y10, hS42⟩ := hI42
  refine wpF_seq ?_
  refine wpF_seq ?_
  refine wpF_region ?_
  refine lm (v := I ((i : Int))) rfl rfl y10 ?_
  refine lm (v := vc) rfl rfl y5 ?_
  refine lq rfl (q_lenRd rfl Try.underlying22 rfl (hS42.rowl 0 rfl)) ?_
  refine lq rfl (q_lss rfl rfl rfl) ?_
  refine wpL_nil ?_
  refine wpF_condP rfl (fun hlt4 => ?t54) (fun hlt4 => ?e54)
  case e54 =>
   refine wpF_exit ?_
   refine atX_here ?_
   refine wpF_seq ?_
   refine wpF_region ?_
   refine lm (v := vc) rfl rfl y5 ?_
   refine la (v := vc) rfl rfl rfl ?_
   refine wpL_nil ?_
   refine wpF_ret ?_
   refine ⟨_, resT rfl resN, hS42.frame, ?_⟩
   show ∃ c_ : List Int, Rd (SZ S H0) H42 vc c_ ∧ litsOk 6 c_ ∧ c_.length ≤ 3
   have hS53 : St H0 NoB (SZ S H0) [rdE vc cc] H42 := St.fin hS42
   exact ⟨_, (hS53.result (hS53.rdS 0 rfl)), litSet_ok (litSet_perm hpm hco), by rw [hpm.length_eq]; omega⟩
  have hcl4 := hpm.length_eq
  refine wpF_skip ?_
  refine wpF_seq ?_
  refine wpF_block ?_
  refine wpF_seq ?_
  refine wpF_region ?_
  refine lm (v := I ((i : Int))) rfl rfl y10 ?_
  refine la (v := I ((i : Int))) rfl rfl rfl ?_
  refine wpL_nil ?_
  refine wpF_block ?_
  refine wpF_loop (fun mz f H => ∃ (jj : Nat), ∃ (ce : List Int), mz = jj ∧ (ce.Perm c) ∧ (jj < c.length) ∧ f 5 = vc ∧ f 10 = I ((i : Int)) ∧ f 11 = I ((jj : Int)) ∧ St H0 NoB (SZ S H0) [rowE 3 vc (ce : List Int)] H) (i) ?_ ?_
  ·exact ⟨i, cc, rfl, hpm, (by omega), y5, y10, rfl, hS42⟩
  intro m44 f44 H44 hI44
  clear y10 y5
  obtain ⟨jj, ce, hm44, hpm2, hjj, y5, y10, y11, hS44⟩ := hI44
  refine wpF_seq ?_
  refine wpF_seq ?_
  have hcs := litSet_perm hpm2 hco
  have hel := hpm2.length_eq
  have hcc : ∀ m, m < ce.length → -120 ≤ nth ce m ∧ nth ce m ≤ 120 := fun m hm => by have := hcs.1 _ (nth_mem hm); omega
  have hcj := fun h : jj < ce.length => hcc jj h
  have hcj1 := fun h : ((jj : Int) - 1).toNat < ce.length => hcc _ h
  refine wpF_cut (fun f H => f 5 = vc ∧ f 10 = I ((i : Int)) ∧ f 11 = I ((jj : Int)) ∧ f 83 = B (decide ((0 < (jj : Int)) ∧ ((varA (nth ce jj)) < (varA (nth ce (((jj : Int) - 1).toNat)))))) ∧ St H0 NoB (SZ S H0) [rowE 3 vc (ce : List Int)] H) ?_ ?_
  ·refine wpF_drawn [] [] (fun _ _ => False) (by kernel_rfl) (by kernel_rfl) ?_
   refine rq 0 (by kernel_rfl) rfl rfl (q_move (v := I ((jj : Int))) rfl y11) ?_
   refine rq 1 (by kernel_rfl) rfl rfl (q_gtr rfl rfl rfl) ?_
   refine rq 2 (by kernel_rfl) rfl rfl (q_move (v := B (decide (0 < (jj : Int)))) rfl rfl) ?_
   by_cases hg46 : 0 < (jj : Int)
   ·have hb47 := Eq.trans rfl (congrArg B (decide_eq_true hg46))
    refine wpR_q 3 (by kernel_rfl) rfl (quietAt_g rfl rfl rfl rfl hb47 (q_move (v := vc) rfl y5)) ?_
    refine wpR_q 4 (by kernel_rfl) rfl (quietAt_g rfl rfl rfl rfl hb47 (q_move (v := I ((jj : Int))) rfl y11)) ?_
    refine wpR_q 5 (by kernel_rfl) rfl (quietAt_g rfl rfl rfl rfl hb47 (q_indexRd (k := jj) rfl Try.underlying22 el_Int_3_DiaC1 rfl rfl (hS44.rowl 0 rfl) (by omega) (by omega))) ?_
    refine wpR_q 6 (by kernel_rfl) rfl (quietAt_g rfl rfl rfl rfl hb47 (q_loadInt (k := jj) rfl rfl el_Int_3_DiaC1 (hS44.rowl 0 rfl) (by omega) (labU_sub [] rfl (fe)))) ?_
    refine wpR_q 8 (by kernel_rfl) rfl (quietAt_g rfl rfl rfl rfl hb47 (q_move (v := vc) rfl y5)) ?_
    refine wpR_q 9 (by kernel_rfl) rfl (quietAt_g rfl rfl rfl rfl hb47 (q_move (v := I ((jj : Int))) rfl y11)) ?_
    refine wpR_q 10 (by kernel_rfl) rfl (quietAt_g rfl rfl rfl rfl hb47 (q_sub rfl rfl rfl (by constructor <;> omega))) ?_
    refine wpR_q 11 (by kernel_rfl) rfl (quietAt_g rfl rfl rfl rfl hb47 (q_indexRd (k := ((jj : Int) - 1).toNat) rfl Try.underlying22 el_Int_3_DiaC1 rfl rfl (hS44.rowl 0 rfl) (by omega) (by omega))) ?_
    refine wpR_q 12 (by kernel_rfl) rfl (quietAt_g rfl rfl rfl rfl hb47 (q_loadInt (k := ((jj : Int) - 1).toNat) rfl rfl el_Int_3_DiaC1 (hS44.rowl 0 rfl) (by omega) (labU_sub [] rfl (fe)))) ?_
    refine wpR_n [7] (by kernel_rfl) ?_
    refine fa ?_ fe
    refine exE_g rfl rfl rfl rfl hb47 ?_
    refine e_call rfl Try.call62 (arr1 (v0 := I (nth ce jj)) rfl) (Var_K (nth ce jj) (by omega)) ?_
    rintro _ H45o7 ⟨hxx, rfl⟩
    have hS45o7 := hS44.ext hxx
    refine ⟨Ext.mono hxx (fun _ h => h.elim), ?_⟩
    refine wpR_n [13] (by kernel_rfl) ?_
    refine fa ?_ fe
    refine exE_g rfl rfl rfl rfl hb47 ?_
    refine e_call rfl Try.call62 (arr1 (v0 := I (nth ce (((jj : Int) - 1).toNat))) rfl) (Var_K (nth ce (((jj : Int) - 1).toNat)) (by omega)) ?_
    rintro _ H45o13 ⟨hxx, rfl⟩
    have hS45o13 := hS45o7.ext hxx
    refine ⟨Ext.mono hxx (fun _ h => h.elim), ?_⟩
    refine wpR_q 14 (by kernel_rfl) rfl (quietAt_g rfl rfl rfl rfl hb47 (q_lss rfl rfl rfl)) ?_
    refine rq 15 (by kernel_rfl) rfl rfl (q_pickT (v := B (decide ((varA (nth ce jj)) < (varA (nth ce (((jj : Int) - 1).toNat)))))) rfl hb47 rfl) ?_
    refine wpR_end (by kernel_rfl) ?_
    exact ⟨y5, y10, y11, (Eq.trans rfl (congrArg B (decide_congr_of ((Iff.rfl).trans (((and_iff_right hg46).trans Iff.rfl)).symm)))), hS45o13⟩
   ·have hb48 := Eq.trans rfl (congrArg B (decide_eq_false hg46))
    refine wpR_q 3 (by kernel_rfl) rfl (quietAt_s rfl rfl rfl rfl hb48 rfl) ?_
    refine wpR_q 4 (by kernel_rfl) rfl (quietAt_s rfl rfl rfl rfl hb48 rfl) ?_
    refine wpR_q 5 (by kernel_rfl) rfl (quietAt_s rfl rfl rfl rfl hb48 rfl) ?_
    refine wpR_q 6 (by kernel_rfl) rfl (quietAt_s rfl rfl rfl rfl hb48 rfl) ?_
    refine wpR_q 7 (by kernel_rfl) rfl (quietAt_s rfl rfl rfl rfl hb48 rfl) ?_
    refine wpR_q 8 (by kernel_rfl) rfl (quietAt_s rfl rfl rfl rfl hb48 rfl) ?_
    refine wpR_q 9 (by kernel_rfl) rfl (quietAt_s rfl rfl rfl rfl hb48 rfl) ?_
    refine wpR_q 10 (by kernel_rfl) rfl (quietAt_s rfl rfl rfl rfl hb48 rfl) ?_
    refine wpR_q 11 (by kernel_rfl) rfl (quietAt_s rfl rfl rfl rfl hb48 rfl) ?_
    refine wpR_q 12 (by kernel_rfl) rfl (quietAt_s rfl rfl rfl rfl hb48 rfl) ?_
    refine wpR_q 13 (by kernel_rfl) rfl (quietAt_s rfl rfl rfl rfl hb48 rfl) ?_
    refine wpR_q 14 (by kernel_rfl) rfl (quietAt_s rfl rfl rfl rfl hb48 rfl) ?_
    refine rq 15 (by kernel_rfl) rfl rfl (q_pickF (v := B (false)) rfl hb48 rfl) ?_
    refine wpR_end (by kernel_rfl) ?_
    exact ⟨y5, y10, y11, (Eq.trans rfl (congrArg B ((decide_eq_false (fun h => hg46 h.1)).symm))), hS44⟩
  clear y10 y11 y5
  rintro f49 H49 ⟨y5, y10, y11, y83, hS49⟩
  refine wpF_condP y83 (fun h83 => ?t52) (fun h83 => ?e52)
  case e52 =>
   refine wpF_exit ?_
   refine atX_here ?_
   refine wpF_region ?_
   refine lm (v := I ((i : Int))) rfl rfl y10 ?_
   refine lq rfl (q_add rfl rfl rfl (by constructor <;> omega)) ?_
   refine la (v := I ((i : Int) + 1)) rfl rfl rfl ?_
   refine wpL_nil ?_
   refine ⟨_, ?_, i + 1, ce, rfl, hpm2, (by omega), y5, (Eq.trans rfl (congrArg I (by omega))), hS49⟩
   omega
  have hj0 : 0 < jj := by omega
  refine wpF_skip ?_
  refine wpF_seq ?_
  refine wpF_block ?_
  refine wpF_drawn [none, none, none, none, none, none, none, none, none, none, none, none, none, none, none, some 0, none, some 1] [[], [], [0], [0], [0], [], [], [], [], [], [], [], [], [], [], [], [], []] (fun l b => match l with | 0 => rowB vc b | 1 => True | _ => False) (by kernel_rfl) (by kernel_rfl) ?_
  refine rq 0 (by kernel_rfl) rfl rfl (q_move (v := vc) rfl y5) ?_
  refine rq 1 (by kernel_rfl) rfl rfl (q_move (v := I ((jj : Int))) rfl y11) ?_
  refine rq 2 (by kernel_rfl) rfl rfl (q_move (v := vc) rfl y5) ?_
  refine rq 3 (by kernel_rfl) rfl rfl (q_move (v := I ((jj : Int))) rfl y11) ?_
  refine rq 4 (by kernel_rfl) rfl rfl (q_sub rfl rfl rfl (by constructor <;> omega)) ?_
  refine rq 5 (by kernel_rfl) rfl rfl (q_move (v := vc) rfl y5) ?_
  refine rq 6 (by kernel_rfl) rfl rfl (q_move (v := I ((jj : Int))) rfl y11) ?_
  refine rq 7 (by kernel_rfl) rfl rfl (q_sub rfl rfl rfl (by constructor <;> omega)) ?_
  refine rq 8 (by kernel_rfl) rfl rfl (q_indexRd (k := ((jj : Int) - 1).toNat) rfl Try.underlying22 el_Int_3_DiaC1 rfl rfl (hS49.rowl 0 rfl) (by omega) (by omega)) ?_
  refine rq 9 (by kernel_rfl) rfl rfl (q_loadInt (k := ((jj : Int) - 1).toNat) rfl rfl el_Int_3_DiaC1 (hS49.rowl 0 rfl) (by omega) (labU_sub [] rfl (fe))) ?_
  refine rq 10 (by kernel_rfl) rfl rfl (q_move (v := vc) rfl y5) ?_
  refine rq 11 (by kernel_rfl) rfl rfl (q_move (v := I ((jj : Int))) rfl y11) ?_
  refine rq 12 (by kernel_rfl) rfl rfl (q_indexRd (k := jj) rfl Try.underlying22 el_Int_3_DiaC1 rfl rfl (hS49.rowl 0 rfl) (by omega) (by omega)) ?_
  refine rq 13 (by kernel_rfl) rfl rfl (q_loadInt (k := jj) rfl rfl el_Int_3_DiaC1 (hS49.rowl 0 rfl) (by omega) (labU_sub [] rfl (fe))) ?_
  refine rq 14 (by kernel_rfl) rfl rfl (q_indexRd (k := jj) rfl Try.underlying22 el_Int_3_DiaC1 rfl rfl (hS49.rowl 0 rfl) (by omega) (by omega)) ?_
  refine wpR_n [15] (by kernel_rfl) ?_
  refine fa ?_ fe
  have hS51o15 := hS49
  refine exE rfl rfl ?_
  refine e_rowSet (k := jj) (u := I (nth ce (((jj : Int) - 1).toNat))) rfl rfl rfl rfl Try.sizeOf3 (by first | (simp; omega) | omega) hS51o15 (Rd.int.2 ⟨rfl, by first | assumption | (constructor <;> omega) | exact tdiv_in (by assumption) (by decide) | exact tdiv_in (tdiv_in (by assumption) (by decide)) (by decide)⟩) (fun H51o15 hS51o15x2 hxx => ?_)
  refine ⟨Ext.mono hxx (labS_of 0 rfl (fun b hb => hb)), ?_⟩
  refine rq 16 (by kernel_rfl) rfl rfl (q_indexRd (k := ((jj : Int) - 1).toNat) rfl Try.underlying22 el_Int_3_DiaC1 rfl rfl (hS51o15x2.rowl 0 rfl) (by omega) (by first | omega | (simp only [List.length_set]; omega))) ?_
  refine wpR_n [17] (by kernel_rfl) ?_
  refine fa ?_ fe
  have hS51o17 := hS51o15x2
  refine exE rfl rfl ?_
  refine e_rowSet (k := ((jj : Int) - 1).toNat) (u := I (nth ce jj)) rfl rfl rfl rfl Try.sizeOf3 (by first | (simp; omega) | omega) hS51o17 (Rd.int.2 ⟨rfl, by first | assumption | (constructor <;> omega) | exact tdiv_in (by assumption) (by decide) | exact tdiv_in (tdiv_in (by assumption) (by decide)) (by decide)⟩) (fun H51o17 hS51o17x2 hxx => ?_)
  refine ⟨Ext.mono hxx (labS_of 1 rfl (fun _ _ => trivial)), ?_⟩
  refine wpR_end (by kernel_rfl) ?_
  skip
  refine wpF_region ?_
  refine lm (v := I ((jj : Int))) rfl rfl y11 ?_
  refine lq rfl (q_sub rfl rfl rfl (by constructor <;> omega)) ?_
  refine la (v := I ((jj : Int) - 1)) rfl rfl rfl ?_
  refine wpL_nil ?_
  refine ⟨_, ?_, jj - 1, (ce.set jj (nth ce (((jj : Int) - 1).toNat))).set (((jj : Int) - 1).toNat) (nth ce jj), rfl, ((swap_perm (by omega) (by omega)).trans hpm2), (by omega), y5, y10, (Eq.trans rfl (congrArg I (by omega))), (show St H0 NoB (SZ S H0) [rowE 3 vc (((ce.set jj (nth ce (((jj : Int) - 1).toNat))).set (((jj : Int) - 1).toNat) (nth ce jj)) : List Int)] H51o17 from hS51o17x2)⟩
  omega
 have hk2 : k ≤ 2 := by omega
 refine wpF_skip ?_
 refine wpF_seq ?_
 refine wpF_block ?_
 refine wpF_seq ?_
 refine wpF_region ?_
 refine lm (v := I (xk)) rfl rfl y0 ?_
 refine lq rfl (q_quo rfl rfl rfl (by first | assumption | decide) (by first | assumption | decide)) ?_
 refine la (v := I (xk.tdiv 3)) rfl rfl rfl ?_
 refine wpL_nil ?_
 refine wpF_seq ?_
 refine wpF_region ?_
 refine lm (v := I (xk.tdiv 3)) rfl rfl rfl ?_
 refine lm (v := I (6)) rfl rfl y1 ?_
 refine lo rfl ?_
 refine e_call rfl Try.call5 (arr2 (v0 := I (xk.tdiv 3)) (v1 := I (6)) rfl rfl) (Picked (xk.tdiv 3) 6 (by omega)) ?_
 rintro _ H9 ⟨hxx, rfl, pk8⟩
 have hS10 := hS5.ext hxx
 refine lq rfl (q_add rfl rfl rfl (by constructor <;> omega)) ?_
 refine la (v := I (1 + (pickI (xk.tdiv 3) 6))) rfl rfl rfl ?_
 refine wpL_nil ?_
 have hd6 : In64 (xk.tdiv 3) := tdiv_in hxk (by decide)
 refine wpF_seq ?_
 refine wpF_region ?_
 refine lm (v := I (xk.tdiv 3)) rfl rfl rfl ?_
 refine lm (v := I (6)) rfl rfl y1 ?_
 refine lq rfl (q_quo rfl rfl rfl (by first | exact tdiv_in (by assumption) (by decide) | decide) (by first | exact tdiv_in (by assumption) (by decide) | decide)) ?_
 refine la (v := I ((xk.tdiv 3).tdiv 6)) rfl rfl rfl ?_
 refine wpL_nil ?_
 refine wpF_seq ?_
 refine wpF_region ?_
 refine la (v := B (false)) rfl rfl rfl ?_
 refine wpL_nil ?_
 refine wpF_seq ?_
 refine wpF_seq ?_
 refine wpF_region ?_
 refine la (v := I (0)) rfl rfl rfl ?_
 refine wpL_nil ?_
 refine wpF_block ?_
 refine wpF_loop (fun mz f H => ∃ (i : Nat), mz = c.length - i ∧ (i ≤ c.length) ∧ f 0 = I ((xk.tdiv 3).tdiv 6) ∧ f 1 = I (6) ∧ f 5 = vc ∧ f 6 = I ((k : Int)) ∧ f 7 = I (1 + (pickI (xk.tdiv 3) 6)) ∧ f 8 = B (hadB c (1 + pickI (xk.tdiv 3) 6) i) ∧ f 9 = I ((i : Int)) ∧ St H0 NoB (SZ S H0) [rowE 3 vc (c : List Int)] H) (c.length - 0) ?_ ?_
 ·exact ⟨0, rfl, Nat.zero_le _, rfl, y1, y5, y6, rfl, rfl, (Eq.trans rfl (congrArg I (by omega))), hS10⟩
 intro m12 f12 H12 hI12
 clear y1 y5 y6
 obtain ⟨i, hm12, hi, y0, y1, y5, y6, y7, y8, y9, hS12⟩ := hI12
 refine wpF_seq ?_
 refine wpF_seq ?_
 refine wpF_region ?_
 refine lm (v := I ((i : Int))) rfl rfl y9 ?_
 refine lm (v := vc) rfl rfl y5 ?_
 refine lq rfl (q_lenRd rfl Try.underlying22 rfl (hS12.rowl 0 rfl)) ?_
 refine lq rfl (q_lss rfl rfl rfl) ?_
 refine wpL_nil ?_
 refine wpF_condP rfl (fun hlt => ?t41) (fun hlt => ?e41)
 case t41 =>
  refine wpF_skip ?_
  refine wpF_seq ?_
  refine wpF_block ?_
  have hci := (hco.1 _ (nth_mem (l := c) (k := i) (by omega)))
  refine wpF_cut (fun f H => f 0 = I ((xk.tdiv 3).tdiv 6) ∧ f 1 = I (6) ∧ f 5 = vc ∧ f 6 = I ((k : Int)) ∧ f 7 = I (1 + (pickI (xk.tdiv 3) 6)) ∧ f 8 = B (decide ((((hadB c (1 + pickI (xk.tdiv 3) 6) i) = true) ∨ ((nth c i) = (1 + (pickI (xk.tdiv 3) 6)))) ∨ ((nth c i) = (-(1 + (pickI (xk.tdiv 3) 6)))))) ∧ f 9 = I ((i : Int)) ∧ H12 = H) ?_ ?_
  ·refine wpF_region ?_
   refine lm (v := B (hadB c (1 + pickI (xk.tdiv 3) 6) i)) rfl rfl y8 ?_
   refine lm (v := B (hadB c (1 + pickI (xk.tdiv 3) 6) i)) rfl rfl rfl ?_
   by_cases hg14 : (hadB c (1 + pickI (xk.tdiv 3) 6) i) = true
   ·have hb15 := Eq.trans rfl (congrArg B hg14)
    refine wpL_gs rfl rfl rfl hb15 rfl ?_
    refine wpL_gs rfl rfl rfl hb15 rfl ?_
    refine wpL_gs rfl rfl rfl hb15 rfl ?_
    refine wpL_gs rfl rfl rfl hb15 rfl ?_
    refine wpL_gs rfl rfl rfl hb15 rfl ?_
    refine wpL_gs rfl rfl rfl hb15 rfl ?_
    refine lq rfl (q_pickT (v := B (true)) rfl hb15 rfl) ?_
    refine lm (v := B (true)) rfl rfl rfl ?_
    refine wpL_gs rfl rfl rfl rfl rfl ?_
    refine wpL_gs rfl rfl rfl rfl rfl ?_
    refine wpL_gs rfl rfl rfl rfl rfl ?_
    refine wpL_gs rfl rfl rfl rfl rfl ?_
    refine wpL_gs rfl rfl rfl rfl rfl ?_
    refine wpL_gs rfl rfl rfl rfl rfl ?_
    refine wpL_gs rfl rfl rfl rfl rfl ?_
    refine lq rfl (q_pickT (v := B (true)) rfl rfl rfl) ?_
    refine la (v := B (true)) rfl rfl rfl ?_
    exact ⟨y0, y1, y5, y6, y7, (Eq.trans rfl (congrArg B ((decide_eq_true (Or.inl (Or.inl hg14))).symm))), y9, rfl⟩
   ·have hb16 := Eq.trans rfl (congrArg B (Bool.eq_false_iff.2 hg14))
    refine gq rfl rfl rfl hb16 (q_move (v := vc) rfl y5) ?_
    refine gq rfl rfl rfl hb16 (q_move (v := I ((i : Int))) rfl y9) ?_
    refine gq rfl rfl rfl hb16 (q_indexRd (k := i) rfl Try.underlying22 el_Int_3_DiaC1 rfl rfl (hS12.rowl 0 rfl) (by omega) (by omega)) ?_
    refine gq rfl rfl rfl hb16 (q_loadInt (k := i) rfl rfl el_Int_3_DiaC1 (hS12.rowl 0 rfl) (by omega) (fun _ h => h)) ?_
    refine gq rfl rfl rfl hb16 (q_move (v := I (1 + (pickI (xk.tdiv 3) 6))) rfl y7) ?_
    refine gq rfl rfl rfl hb16 (q_eql rfl rfl rfl) ?_
    refine lq rfl (q_pickF (v := B (decide ((nth c i) = (1 + (pickI (xk.tdiv 3) 6))))) rfl hb16 rfl) ?_
    refine lm (v := B (decide ((nth c i) = (1 + (pickI (xk.tdiv 3) 6))))) rfl rfl rfl ?_
    by_cases hg17 : (nth c i) = (1 + (pickI (xk.tdiv 3) 6))
    ·have hb18 := Eq.trans rfl (congrArg B (decide_eq_true hg17))
     refine wpL_gs rfl rfl rfl hb18 rfl ?_
     refine wpL_gs rfl rfl rfl hb18 rfl ?_
     refine wpL_gs rfl rfl rfl hb18 rfl ?_
     refine wpL_gs rfl rfl rfl hb18 rfl ?_
     refine wpL_gs rfl rfl rfl hb18 rfl ?_
     refine wpL_gs rfl rfl rfl hb18 rfl ?_
     refine wpL_gs rfl rfl rfl hb18 rfl ?_
     refine lq rfl (q_pickT (v := B (true)) rfl hb18 rfl) ?_
     refine la (v := B (true)) rfl rfl rfl ?_
     exact ⟨y0, y1, y5, y6, y7, (Eq.trans rfl (congrArg B ((decide_eq_true (Or.inl (Or.inr hg17))).symm))), y9, rfl⟩
    ·have hb19 := Eq.trans rfl (congrArg B (decide_eq_false hg17))
     refine gq rfl rfl rfl hb19 (q_move (v := vc) rfl y5) ?_
     refine gq rfl rfl rfl hb19 (q_move (v := I ((i : Int))) rfl y9) ?_
     refine gq rfl rfl rfl hb19 (q_indexRd (k := i) rfl Try.underlying22 el_Int_3_DiaC1 rfl rfl (hS12.rowl 0 rfl) (by omega) (by omega)) ?_
     refine gq rfl rfl rfl hb19 (q_loadInt (k := i) rfl rfl el_Int_3_DiaC1 (hS12.rowl 0 rfl) (by omega) (fun _ h => h)) ?_
     refine gq rfl rfl rfl hb19 (q_move (v := I (1 + (pickI (xk.tdiv 3) 6))) rfl y7) ?_
     refine gq rfl rfl rfl hb19 (q_neg rfl rfl (by constructor <;> omega)) ?_
     refine gq rfl rfl rfl hb19 (q_eql rfl rfl rfl) ?_
     refine lq rfl (q_pickF (v := B (decide ((nth c i) = (-(1 + (pickI (xk.tdiv 3) 6)))))) rfl hb19 rfl) ?_
     refine la (v := B (decide ((nth c i) = (-(1 + (pickI (xk.tdiv 3) 6)))))) rfl rfl rfl ?_
     exact ⟨y0, y1, y5, y6, y7, (Eq.trans rfl (congrArg B (decide_congr_of ((Iff.rfl).trans (((or_iff_right (not_or.2 ⟨hg14, hg17⟩)).trans Iff.rfl)).symm)))), y9, rfl⟩
  clear y0 y1 y5 y6 y7 y8 y9
  rintro f20 _ ⟨y0, y1, y5, y6, y7, y8, y9, rfl⟩
  refine wpF_region ?_
  refine lm (v := I ((i : Int))) rfl rfl y9 ?_
  refine lq rfl (q_add rfl rfl rfl (by constructor <;> omega)) ?_
  refine la (v := I ((i : Int) + 1)) rfl rfl rfl ?_
  refine wpL_nil ?_
  refine ⟨_, ?_, i + 1, rfl, (by omega), y0, y1, y5, y6, y7, (Eq.trans y8 (congrArg B (by rw [hadB_next (by omega)]; cases hadB c (1 + pickI (xk.tdiv 3) 6) i <;> simp))), (Eq.trans rfl (congrArg I (by omega))), hS12⟩
  omega
 obtain rfl : i = c.length := by omega
 refine wpF_exit ?_
 refine atX_here ?_
 refine wpF_seq ?_
 refine wpF_seq ?_
 refine wpF_region ?_
 refine lm (v := B (hadB c (1 + pickI (xk.tdiv 3) 6) c.length)) rfl rfl y8 ?_
 refine wpL_nil ?_
 refine wpF_cond rfl (fun h51 => ?t40) (fun h51 => ?e40)
 case t40 =>
  refine wpF_exit ?_
  refine atX_here ?_
  refine wpF_region ?_
  refine lm (v := I ((k : Int))) rfl rfl y6 ?_
  refine lq rfl (q_add rfl rfl rfl (by constructor <;> omega)) ?_
  refine la (v := I ((k : Int) + 1)) rfl rfl rfl ?_
  refine wpL_nil ?_
  refine ⟨_, ?_, k + 1, (xk.tdiv 3).tdiv 6, c, vc, rfl, (by omega), (tdiv_in hd6 (by decide)), (by first | omega | (simp only [List.length_append, List.length_singleton]; omega)), hco, (Eq.trans y0 (congrArg I (by omega))), y1, y5, (Eq.trans rfl (congrArg I (by omega))), hS12⟩
  omega
 obtain ⟨hn1, hn2⟩ := litSet_app hco (v := (1 + pickI (xk.tdiv 3) 6)) (by omega) (hadB_no (by simpa using h51))
 refine wpF_skip ?_
 refine wpF_seq ?_
 refine wpF_seq ?_
 refine wpF_region ?_
 refine lm (v := I ((xk.tdiv 3).tdiv 6)) rfl rfl y0 ?_
 refine lq rfl (q_rem rfl rfl rfl (by omega)) ?_
 refine lq rfl (q_neq rfl rfl rfl) ?_
 refine wpL_nil ?_
 refine wpF_condP rfl (fun h54 => ?t39) (fun h54 => ?e39)
 case e39 =>
  refine wpF_skip ?_
  refine wpF_region ?_
  refine lm (v := vc) rfl rfl y5 ?_
  refine lm (v := I (1 + (pickI (xk.tdiv 3) 6))) rfl rfl y7 ?_
  refine lo rfl ?_
  refine e_buildSlice (vs := [I (1 + (pickI (xk.tdiv 3) 6))]) (xs := ([1 + (pickI (xk.tdiv 3) 6)] : List Int)) rfl Try.underlying22 Try.zeroValue3 rfl Try.sizeOf3 (par1 (v0 := I (1 + (pickI (xk.tdiv 3) 6))) rfl) rfl hS12 (RdVs.cons (Rd.int.2 ⟨rfl, by first | assumption | (constructor <;> omega) | exact tdiv_in (by assumption) (by decide) | exact tdiv_in (tdiv_in (by assumption) (by decide)) (by decide)⟩) (RdVs.nil)) (by decide) (by decide) (fun v31 H32 hS33 hxx hvv31 => ?_)
  have hS34 : St H0 NoB (SZ S H0) [rdE v31 ([1 + (pickI (xk.tdiv 3) 6)] : List Int), rowE 3 vc (c : List Int)] H32 := St.fin hS33
  have hS35 := (hS34.front 1 rfl)
  refine lo rfl ?_
  refine e_append rfl Try.underlying22 em_Int_3_DiaC1 rfl rfl hS35 (hS35.rdS 1 rfl) (fun _ h => h) (by have hb8 : GoT.bytes Int = 8 := rfl; simp [hb8]; omega) (by decide) (fun v36 H37 hS38 hxx => ?_)
  refine la (v := v36) rfl rfl rfl ?_
  refine wpL_nil ?_
  refine wpF_region ?_
  refine lm (v := I ((k : Int))) rfl rfl y6 ?_
  refine lq rfl (q_add rfl rfl rfl (by constructor <;> omega)) ?_
  refine la (v := I ((k : Int) + 1)) rfl rfl rfl ?_
  refine wpL_nil ?_
  refine ⟨_, ?_, k + 1, (xk.tdiv 3).tdiv 6, c ++ ([1 + (pickI (xk.tdiv 3) 6)]), v36, rfl, (by omega), (tdiv_in hd6 (by decide)), (by first | omega | (simp only [List.length_append, List.length_singleton]; omega)), hn1, (Eq.trans y0 (congrArg I (by omega))), y1, rfl, (Eq.trans rfl (congrArg I (by omega))), (show St H0 NoB (SZ S H0) [rowE 3 v36 ((c ++ ([1 + (pickI (xk.tdiv 3) 6)])) : List Int)] H37 from (hS38.drop (sk (sn (List.Sublist.slnil)))))⟩
  omega
 refine wpF_region ?_
 refine lm (v := I (1 + (pickI (xk.tdiv 3) 6))) rfl rfl y7 ?_
 refine lq rfl (q_neg rfl rfl (by constructor <;> omega)) ?_
 refine la (v := I (-(1 + (pickI (xk.tdiv 3) 6)))) rfl rfl rfl ?_
 refine wpL_nil ?_
 refine wpF_region ?_
 refine lm (v := vc) rfl rfl y5 ?_
 refine lm (v := I (-(1 + (pickI (xk.tdiv 3) 6)))) rfl rfl rfl ?_
 refine lo rfl ?_
 refine e_buildSlice (vs := [I (-(1 + (pickI (xk.tdiv 3) 6)))]) (xs := ([-(1 + (pickI (xk.tdiv 3) 6))] : List Int)) rfl Try.underlying22 Try.zeroValue3 rfl Try.sizeOf3 (par1 (v0 := I (-(1 + (pickI (xk.tdiv 3) 6)))) rfl) rfl hS12 (RdVs.cons (Rd.int.2 ⟨rfl, by first | assumption | (constructor <;> omega) | exact tdiv_in (by assumption) (by decide) | exact tdiv_in (tdiv_in (by assumption) (by decide)) (by decide)⟩) (RdVs.nil)) (by decide) (by decide) (fun v23 H24 hS25 hxx hvv23 => ?_)
 have hS26 : St H0 NoB (SZ S H0) [rdE v23 ([-(1 + (pickI (xk.tdiv 3) 6))] : List Int), rowE 3 vc (c : List Int)] H24 := St.fin hS25
 have hS27 := (hS26.front 1 rfl)
 refine lo rfl ?_
 refine e_append rfl Try.underlying22 em_Int_3_DiaC1 rfl rfl hS27 (hS27.rdS 1 rfl) (fun _ h => h) (by have hb8 : GoT.bytes Int = 8 := rfl; simp [hb8]; omega) (by decide) (fun v28 H29 hS30 hxx => ?_)
 refine la (v := v28) rfl rfl rfl ?_
 refine wpL_nil ?_
 refine wpF_region ?_
 refine lm (v := I ((k : Int))) rfl rfl y6 ?_
 refine lq rfl (q_add rfl rfl rfl (by constructor <;> omega)) ?_
 refine la (v := I ((k : Int) + 1)) rfl rfl rfl ?_
 refine wpL_nil ?_
 refine ⟨_, ?_, k + 1, (xk.tdiv 3).tdiv 6, c ++ ([-(1 + (pickI (xk.tdiv 3) 6))]), v28, rfl, (by omega), (tdiv_in hd6 (by decide)), (by first | omega | (simp only [List.length_append, List.length_singleton]; omega)), hn2, (Eq.trans y0 (congrArg I (by omega))), y1, rfl, (Eq.trans rfl (congrArg I (by omega))), (show St H0 NoB (SZ S H0) [rowE 3 v28 ((c ++ ([-(1 + (pickI (xk.tdiv 3) 6))])) : List Int)] H29 from (hS30.drop (sk (sn (List.Sublist.slnil)))))⟩
 omega
set_option maxHeartbeats 1000000 in
set_option maxRecDepth 100000 in
theorem CnfOf_K {H0 : Heap} {S : Nat → Prop} (vl : Value) (l : List Int) (rl : Rd S H0 vl l) : CallsH Try.prog 11 #[vl, I (6), I (10)] H0 (fun rv_ H' => Ext NoB H0 H' ∧ ∃ (w_ : Value) (C_ : List (List Int)), rv_ = Vg #[I 6, w_] ∧ Rd (SZ S H0) H' w_ C_ ∧ C_.length ≤ 10 ∧ ∀ c ∈ C_, litsOk 6 c ∧ c.length ≤ 3) := by
 have hsm := (Rd.list.1 rl).small
 have hS0 : St H0 NoB (SZ S H0) [rdE vl l] H0 := St.arg (St.start (fun _ h => h.2)) (Bl0.nil) rl (fun _ h => h.1)
 refine callsH_of_wpF (args := [vl, I (6), I (10)]) (rs := [.cell 6 26]) Try.func11 rfl Try.ntmps11 Try.results11 (by kernel_rfl) (Nat.le_of_ble_eq_true rfl) ?_
 have y0 : argF [vl, I (6), I (10)] 0 = vl := rfl
 have y1 : argF [vl, I (6), I (10)] 1 = I (6) := rfl
 have y2 : argF [vl, I (6), I (10)] 2 = I (10) := rfl
 generalize argF [vl, I (6), I (10)] = f0 at *
 refine wpF_seq ?_
 refine wpF_region ?_
 refine lo rfl ?_
 refine e_alloc rfl Try.zeroValue26 hS0 (fun g1 H2 hS3 hxx => ?_)
 refine wpL_nil ?_
 refine wpF_seq ?_
 refine wpF_region ?_
 refine lm (v := I (6)) rfl rfl y1 ?_
 refine lq rfl (q_build (v := Vg #[I (6), nS]) rfl (par1 (v0 := I (6)) rfl) (fun w__ => by kernel_rfl)) ?_
 refine lo rfl ?_
 refine e_alloc rfl Try.zeroValue26 hS3 (fun g4 H5 hS6 hxx => ?_)
 refine lo rfl ?_
 refine e_storeBlkA (cs' := #[I (6), nS]) rfl rfl rfl Try.sizeOf26 rfl rfl (fa rfl (fa rfl fe)) hS6 (fun H7 hS8 hxx => ?_)
 refine wpL_nil ?_
 have hS9 : St H0 NoB (SZ S H0) [rowE 22 nS ([] : List (List Int)), bE g4 #[I (6), nS] 26, bE g1 #[I (0), nS] 26, rdE vl l] H7 := hS8.row0 22
 refine wpF_seq ?_
 refine wpF_seq ?_
 refine wpF_region ?_
 refine la (v := I (0)) rfl rfl rfl ?_
 refine wpL_nil ?_
 refine wpF_block ?_
 refine wpF_loop (fun mz f H => ∃ (i : Nat), ∃ (vo : Value), ∃ (Co : List (List Int)), mz = l.length - i ∧ (i ≤ 10) ∧ (Co.length ≤ i) ∧ (∀ c ∈ Co, litsOk 6 c ∧ c.length ≤ 3) ∧ f 0 = vl ∧ f 1 = I (6) ∧ f 2 = I (10) ∧ f 6 = PT g1 0 ∧ f 7 = PT g4 0 ∧ f 8 = I ((i : Int)) ∧ St H0 NoB (SZ S H0) [rowE 22 vo (Co : List (List Int)), bE g4 #[I (6), vo] 26, bE g1 #[I (0), nS] 26, rdE vl l] H) (l.length - 0) ?_ ?_
 ·exact ⟨0, nS, [], rfl, (by omega), (Nat.le_refl _), (fun c h => absurd h List.not_mem_nil), y0, y1, y2, rfl, rfl, (Eq.trans rfl (congrArg I (by omega))), (show St H0 NoB (SZ S H0) [rowE 22 nS (([]) : List (List Int)), bE g4 #[I (6), nS] 26, bE g1 #[I (0), nS] 26, rdE vl l] H7 from hS9)⟩
 intro m10 f10 H10 hI10
 clear y0 y1 y2
 obtain ⟨i, vo, Co, hm10, hil, hCl, hCo, y0, y1, y2, y6, y7, y8, hS10⟩ := hI10
 refine wpF_seq ?_
 refine fcr (fun f H => f 0 = vl ∧ f 1 = I (6) ∧ f 2 = I (10) ∧ f 6 = PT g1 0 ∧ f 7 = PT g4 0 ∧ f 8 = I ((i : Int)) ∧ f 19 = B (decide (((i : Int) < (l.length : Int)) ∧ ((i : Int) < 10))) ∧ H10 = H) ?_ ?_
 ·refine lm (v := I ((i : Int))) rfl rfl y8 ?_
  refine lm (v := vl) rfl rfl y0 ?_
  refine lq rfl (q_lenRd rfl Try.underlying22 rfl (hS10.rdl 3 rfl)) ?_
  refine lq rfl (q_lss rfl rfl rfl) ?_
  refine lm (v := B (decide ((i : Int) < (l.length : Int)))) rfl rfl rfl ?_
  by_cases hg11 : (i : Int) < (l.length : Int)
  ·have hb12 := Eq.trans rfl (congrArg B (decide_eq_true hg11))
   refine gq rfl rfl rfl hb12 (q_move (v := I ((i : Int))) rfl y8) ?_
   refine gq rfl rfl rfl hb12 (q_move (v := I (10)) rfl y2) ?_
   refine gq rfl rfl rfl hb12 (q_lss rfl rfl rfl) ?_
   refine lq rfl (q_pickT (v := B (decide ((i : Int) < 10))) rfl hb12 rfl) ?_
   exact ⟨y0, y1, y2, y6, y7, y8, (Eq.trans rfl (congrArg B (decide_congr_of ((Iff.rfl).trans (((and_iff_right hg11).trans Iff.rfl)).symm)))), rfl⟩
  ·have hb13 := Eq.trans rfl (congrArg B (decide_eq_false hg11))
   refine wpL_gs rfl rfl rfl hb13 rfl ?_
   refine wpL_gs rfl rfl rfl hb13 rfl ?_
   refine wpL_gs rfl rfl rfl hb13 rfl ?_
   refine lq rfl (q_pickF (v := B (false)) rfl hb13 rfl) ?_
   exact ⟨y0, y1, y2, y6, y7, y8, (Eq.trans rfl (congrArg B ((decide_eq_false (fun h => hg11 h.1)).symm))), rfl⟩
 clear y0 y1 y2 y6 y7 y8
 rintro f14 _ ⟨y0, y1, y2, y6, y7, y8, y19, rfl⟩
 refine wpF_condP y19 (fun h19 => ?t21) (fun h19 => ?e21)
 case e21 =>
  refine wpF_exit ?_
  refine atX_here ?_
  refine wpF_seq ?_
  refine wpF_region ?_
  refine lq rfl (q_loadBlkA rfl y7 Try.isAgg26 Try.sizeOf26 rfl (hS10.blk 1 rfl) (fun h => h)) ?_
  refine lo rfl ?_
  refine e_storeBlkA (cs' := #[I (6), vo]) rfl y6 rfl Try.sizeOf26 rfl rfl (fa rfl (fa ((oneCell_rdL (hS10.rowl 0 rfl))) fe)) (hS10.front 2 rfl) (fun H18 hS19 hxx => ?_)
  refine wpL_nil ?_
  refine wpF_ret ?_
  refine ⟨_, resC y6 (loadV_blkA Try.isAgg26 Try.sizeOf26 rfl (hS19.blk 0 rfl)) (resN), hS19.frame, ?_⟩
  show ∃ (w_ : Value) (C_ : List (List Int)), (Vg #[I (6), vo]) = Vg #[I 6, w_] ∧ Rd (SZ S H0) H18 w_ C_ ∧ C_.length ≤ 10 ∧ ∀ c ∈ C_, litsOk 6 c ∧ c.length ≤ 3
  have hS20 : St H0 NoB (SZ S H0) [rdE vo Co, bE g1 #[I (6), vo] 26, bE g4 #[I (6), vo] 26, rdE vl l] H18 := St.fin (hS19.front 1 rfl)
  exact ⟨_, Co, rfl, (hS20.result (hS20.rdS 0 rfl)), by omega, hCo⟩
 refine wpF_skip ?_
 refine wpF_seq ?_
 refine wpF_block ?_
 refine wpF_drawn [none, none, none, none, none, none, none, none, none, some 0, none, some 1] [[], [], [], [], [], [], [], [], [], [], [], []] (fun l b => match l with | 0 => True | 1 => True | _ => False) (by kernel_rfl) (by kernel_rfl) ?_
 refine rq 0 (by kernel_rfl) rfl rfl (q_fieldAddr rfl Try.underlying26 rfl Try.sizeOf24 y7) ?_
 refine rq 1 (by kernel_rfl) rfl rfl (q_loadBlk rfl rfl Try.isAgg24 (hS10.blk 1 rfl) rfl (labU_not [] rfl (fe))) ?_
 refine rq 2 (by kernel_rfl) rfl rfl (q_move (v := vl) rfl y0) ?_
 refine rq 3 (by kernel_rfl) rfl rfl (q_move (v := I ((i : Int))) rfl y8) ?_
 refine rq 4 (by kernel_rfl) rfl rfl (q_indexRd (k := i) rfl Try.underlying22 el_Int_3_DiaC1 rfl rfl (hS10.rdl 3 rfl) (by omega) (by omega)) ?_
 refine rq 5 (by kernel_rfl) rfl rfl (q_loadInt (k := i) rfl rfl el_Int_3_DiaC1 (hS10.rdl 3 rfl) (by omega) (labU_sub [] rfl (fe))) ?_
 refine rq 6 (by kernel_rfl) rfl rfl (q_move (v := I (6)) rfl y1) ?_
 refine wpR_n [7] (by kernel_rfl) ?_
 refine fa ?_ fe
 refine exE rfl rfl ?_
 refine e_call rfl Try.call33 (arr2 (v0 := I (nth l i)) (v1 := I (6)) rfl rfl) (ClauseOf_K (S := SL (SZ S H0) [rowE 22 vo (Co : List (List Int)), bE g4 #[I (6), vo] 26, bE g1 #[I (0), nS] 26, rdE vl l]) (nth l i) ((Rd.list.1 rl).in64 (k := i) (by omega))) ?_
 rintro r16o7 H16o7 ⟨hxx, c17, hrr16o7, hokc17, hl3c17⟩
 have hS16o7 := hS10.res hxx hrr16o7
 refine ⟨Ext.mono hxx (fun _ h => h.elim), ?_⟩
 refine wpR_n [8] (by kernel_rfl) ?_
 refine fa ?_ fe
 refine exE rfl rfl ?_
 refine e_buildSlice (vs := [r16o7]) (xs := ([c17] : List (List Int))) rfl Try.underlying24 Try.zeroValue22 rfl Try.sizeOf22 (par1 (v0 := r16o7) rfl) rfl hS16o7 (RdVs.cons (hS16o7.rdS 0 rfl) (RdVs.nil)) (by decide) (by decide) (fun v16o8 H16o8 hS16o8 hxx hvv16o8 => ?_)
 refine ⟨Ext.mono hxx (fun _ h => h.elim), ?_⟩
 refine wpR_n [9] (by kernel_rfl) ?_
 refine fa ?_ fe
 have hS16o9 : St H0 NoB (SZ S H0) [rdE v16o8 ([c17] : List (List Int)), rdE r16o7 c17, rowE 22 vo (Co : List (List Int)), bE g4 #[I (6), vo] 26, bE g1 #[I (0), nS] 26, rdE vl l] H16o8 := St.fin hS16o8
 have hS16o9x2 := (hS16o9.front 2 rfl)
 refine exE rfl rfl ?_
 refine e_append rfl Try.underlying24 em_LInt_22_DiaC1 rfl rfl hS16o9x2 (hS16o9x2.rdS 1 rfl) (fun _ h => h) (by have hb : GoT.bytes (List Int) = 24 := rfl; simp [hb]; omega) (by decide) (fun v16o9 H16o9 hS16o9x3 hxx => ?_)
 refine ⟨Ext.mono hxx (labS_of 0 rfl (fun _ _ => trivial)), ?_⟩
 refine rq 10 (by kernel_rfl) rfl rfl (q_fieldAddr rfl Try.underlying26 rfl Try.sizeOf24 y7) ?_
 refine wpR_n [11] (by kernel_rfl) ?_
 refine fa ?_ fe
 refine exE rfl rfl ?_
 refine e_storeBlk (v := v16o9) rfl rfl rfl (oneCell_rdL (hS16o9x3.rowl 0 rfl)) Try.sizeOf24 (by show _ < 2; decide) (hS16o9x3.front 3 rfl) (fun H16o11 hS16o11 hxx => ?_)
 refine ⟨Ext.mono hxx (labS_of 1 rfl (fun _ _ => trivial)), ?_⟩
 refine wpR_end (by kernel_rfl) ?_
 skip
 refine wpF_region ?_
 refine lm (v := I ((i : Int))) rfl rfl y8 ?_
 refine lq rfl (q_add rfl rfl rfl (by constructor <;> omega)) ?_
 refine la (v := I ((i : Int) + 1)) rfl rfl rfl ?_
 refine wpL_nil ?_
 refine ⟨_, ?_, i + 1, v16o9, Co ++ ([c17]), rfl, (by omega), (by simp only [List.length_append, List.length_singleton]; omega), (fun c h => (List.mem_append.1 h).elim (hCo c) (fun h => by rw [List.mem_singleton.1 h]; exact ⟨hokc17, hl3c17⟩)), y0, y1, y2, y6, y7, (Eq.trans rfl (congrArg I (by omega))), (show St H0 NoB (SZ S H0) [rowE 22 v16o9 ((Co ++ ([c17])) : List (List Int)), bE g4 #[I (6), v16o9] 26, bE g1 #[I (0), nS] 26, rdE vl l] H16o11 from (St.drop (show St H0 NoB (SZ S H0) [rowE 22 v16o9 (Co ++ ([c17]) : List (List Int)), bE g4 #[I (6), v16o9] 26, rdE v16o8 ([c17] : List (List Int)), rdE r16o7 c17, bE g1 #[I (0), nS] 26, rdE vl l] H16o11 from (hS16o11.front 1 rfl)) (sk (sk (sn (sn (sk (sk (List.Sublist.slnil)))))))))⟩
 omega
end Go.Um
