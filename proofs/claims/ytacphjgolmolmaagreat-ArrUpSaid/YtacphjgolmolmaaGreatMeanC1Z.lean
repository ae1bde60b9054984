import Derived.Test.YtacphjgolmolmaaGreatProg
import Derived.Test.YtacphjgolmolmaaGreatAskC3Z
import Derived.Test.YtacphjgolmolmaaGreatUmArrUpC
namespace Go.Um
open Go.Proofs
open GoT (sz ag rdc)
open KeyT (kv)
theorem el_Frac_57_MeanC1 : ElT Tryz.prog Frac 57 := ⟨Tryz.isAgg57, Tryz.sizeOf57⟩
theorem el_Int_3_MeanC1 : ElT Tryz.prog Int 3 := ⟨Tryz.isAgg3, Tryz.sizeOf3⟩
set_option maxRecDepth 100000 in
theorem size_L {H0 : Heap} (x : Int) (h6 : In64 x) : CallsH Tryz.prog 95 #[I (x)] H0 (fun rv_ H' => Ext NoB H0 H' ∧ rv_ = U64 ((x.natAbs : Nat) : Int)) := by
 have hS0 : St H0 NoB NoB [] H0 := St.start (fun _ h => h.elim)
 refine callsH_of_wpF (args := [I (x)]) (rs := [.tmp 2]) Tryz.func95 rfl Tryz.ntmps95 Tryz.results95 (by kernel_rfl) (Nat.le_of_ble_eq_true rfl) ?_
 have y0 : argF [I (x)] 0 = I (x) := rfl
 generalize argF [I (x)] = f0 at *
 refine wpF_seq ?_
 refine wpF_region ?_
 refine la (v := U64 (((0 : Nat) : Int))) rfl rfl rfl ?_
 refine wpL_nil ?_
 refine wpF_seq ?_
 refine wpF_seq ?_
 refine wpF_region ?_
 refine lm (v := I (x)) rfl rfl y0 ?_
 refine lq rfl (q_lss rfl rfl rfl) ?_
 refine wpL_nil ?_
 refine wpF_condP rfl (fun hp => ?t2) (fun hp => ?e2)
 case t2 =>
  refine wpF_seq ?_
  refine wpF_region ?_
  refine lm (v := I (x)) rfl rfl y0 ?_
  refine lq rfl (q_convU rfl Tryz.underlying3 Tryz.underlying110 rfl) ?_
  refine lq rfl (q_negU rfl rfl) ?_
  refine la (v := U64 (IntKind.u64.wrap (0 - (IntKind.u64.wrap x)))) rfl rfl rfl ?_
  refine wpL_nil ?_
  refine wpF_ret ?_
  refine ⟨_, resT rfl resN, hS0.frame, ?_⟩
  show (U64 (IntKind.u64.wrap (0 - (IntKind.u64.wrap x)))) = U64 ((x.natAbs : Nat) : Int)
  exact congrArg U64 (sizeU_neg h6 hp)
 refine wpF_skip ?_
 refine wpF_seq ?_
 refine wpF_region ?_
 refine lm (v := I (x)) rfl rfl y0 ?_
 refine lq rfl (q_convU rfl Tryz.underlying3 Tryz.underlying110 rfl) ?_
 refine la (v := U64 (IntKind.u64.wrap x)) rfl rfl rfl ?_
 refine wpL_nil ?_
 refine wpF_ret ?_
 refine ⟨_, resT rfl resN, hS0.frame, ?_⟩
 show (U64 (IntKind.u64.wrap x)) = U64 ((x.natAbs : Nat) : Int)
 exact congrArg U64 (sizeU_pos h6 hp)
set_option maxRecDepth 100000 in
theorem gcdU_L {H0 : Heap} (a b : Nat)  : CallsH Tryz.prog 94 #[U64 (((a : Nat) : Int)), U64 (((b : Nat) : Int))] H0 (fun rv_ H' => Ext NoB H0 H' ∧ rv_ = U64 ((Nat.gcd a b : Nat) : Int)) := by
 have hS0 : St H0 NoB NoB [] H0 := St.start (fun _ h => h.elim)
 refine callsH_of_wpF (args := [U64 (((a : Nat) : Int)), U64 (((b : Nat) : Int))]) (rs := [.tmp 4]) Tryz.func94 rfl Tryz.ntmps94 Tryz.results94 (by kernel_rfl) (Nat.le_of_ble_eq_true rfl) ?_
 have y0 : argF [U64 (((a : Nat) : Int)), U64 (((b : Nat) : Int))] 0 = U64 (((a : Nat) : Int)) := rfl
 have y1 : argF [U64 (((a : Nat) : Int)), U64 (((b : Nat) : Int))] 1 = U64 (((b : Nat) : Int)) := rfl
 generalize argF [U64 (((a : Nat) : Int)), U64 (((b : Nat) : Int))] = f0 at *
 refine wpF_seq ?_
 refine wpF_region ?_
 refine la (v := U64 (((0 : Nat) : Int))) rfl rfl rfl ?_
 refine wpL_nil ?_
 refine wpF_seq ?_
 refine wpF_block ?_
 refine wpF_loop (fun mz f H => ∃ (x : Nat), ∃ (y : Nat), mz = y ∧ (Nat.gcd a b = Nat.gcd x y) ∧ f 0 = U64 (((x : Nat) : Int)) ∧ f 1 = U64 (((y : Nat) : Int)) ∧ H0 = H) (b) ?_ ?_
 ·exact ⟨a, b, rfl, rfl, y0, y1, rfl⟩
 intro m1 f1 H1 hI1
 clear y0 y1
 obtain ⟨x, y, hm1, hg, y0, y1, rfl⟩ := hI1
 refine wpF_seq ?_
 refine wpF_seq ?_
 refine wpF_region ?_
 refine lm (v := U64 (((y : Nat) : Int))) rfl rfl y1 ?_
 refine lq rfl (q_neqU rfl rfl rfl) ?_
 refine wpL_nil ?_
 refine wpF_condP rfl (fun hz => ?t4) (fun hz => ?e4)
 case e4 =>
  refine wpF_exit ?_
  refine atX_here ?_
  refine wpF_seq ?_
  refine wpF_region ?_
  refine lm (v := U64 (((x : Nat) : Int))) rfl rfl y0 ?_
  refine la (v := U64 (((x : Nat) : Int))) rfl rfl rfl ?_
  refine wpL_nil ?_
  refine wpF_ret ?_
  refine ⟨_, resT rfl resN, hS0.frame, ?_⟩
  show (U64 (((x : Nat) : Int))) = U64 ((Nat.gcd a b : Nat) : Int)
  rw [hg, gcd_zero (show y = 0 by omega)]
 refine wpF_skip ?_
 refine wpF_block ?_
 refine wpF_drawn [] [] (fun _ _ => False) (by kernel_rfl) (by kernel_rfl) ?_
 refine rq 0 (by kernel_rfl) rfl rfl (q_move (v := U64 (((y : Nat) : Int))) rfl y1) ?_
 refine rq 1 (by kernel_rfl) rfl rfl (q_move (v := U64 (((x : Nat) : Int))) rfl y0) ?_
 refine rq 2 (by kernel_rfl) rfl rfl (q_move (v := U64 (((y : Nat) : Int))) rfl y1) ?_
 refine rq 3 (by kernel_rfl) rfl rfl (q_remU (a := x) (b := y) rfl rfl rfl (by omega)) ?_
 refine rq 4 (by kernel_rfl) rfl rfl (q_assign (v := U64 (((y : Nat) : Int))) rfl rfl) ?_
 refine rq 5 (by kernel_rfl) rfl rfl (q_assign (v := U64 ((((x % y) : Nat) : Int))) rfl rfl) ?_
 refine wpR_end (by kernel_rfl) ?_
 skip
 refine ⟨_, ?_, y, (x % y), rfl, (hg.trans gcd_step), rfl, rfl, rfl⟩
 have hmz := Nat.mod_lt x (show 0 < y by omega); omega
set_option maxRecDepth 100000 in
theorem Check_F {H0 : Heap} (q : Frac) (h6nq : In64 q.Num) (h6dq : In64 q.Den) : CallsH Tryz.prog 67 #[Vg #[I (q.Num), I (q.Den)]] H0 (fun rv_ H' => Ext NoB H0 H' ∧ rv_ = Vg #[I ((checkFr q)).1, I ((checkFr q)).2]) := by
 have hS0 : St H0 NoB NoB [] H0 := St.start (fun _ h => h.elim)
 refine callsH_of_wpF (args := [Vg #[I (q.Num), I (q.Den)]]) (rs := [.cell 2 32]) Tryz.func67 rfl Tryz.ntmps67 Tryz.results67 (by kernel_rfl) (Nat.le_of_ble_eq_true rfl) ?_
 have y0 : argF [Vg #[I (q.Num), I (q.Den)]] 0 = Vg #[I (q.Num), I (q.Den)] := rfl
 generalize argF [Vg #[I (q.Num), I (q.Den)]] = f0 at *
 refine wpF_seq ?_
 refine wpF_region ?_
 refine lo rfl ?_
 refine e_box (v := Vg #[I (q.Num), I (q.Den)]) rfl y0 hS0 (fun g1 H2 hS3 hxx => ?_)
 refine lo rfl ?_
 refine e_alloc rfl Tryz.zeroValue32 hS3 (fun g4 H5 hS6 hxx => ?_)
 refine wpL_nil ?_
 refine wpF_seq ?_
 refine sc (fun f H => f 2 = PT g4 0 ∧ f 30 = B (decide (((((q.Den < 1) ∨ (1073741824 < q.Den)) ∨ (q.Num < (-1073741824))) ∨ (1073741824 < q.Num)) ∨ (¬ ((Nat.gcd q.Num.natAbs q.Den.natAbs : Nat) : Int) = ((1 : Nat) : Int)))) ∧ St H0 NoB NoB [bE g4 #[I (0), I (0)] 32, bE g1 #[I (q.Num), I (q.Den)] 57] H) ?_ ?_
 ·refine wpF_drawn [] [] (fun _ _ => False) (by kernel_rfl) (by kernel_rfl) ?_
  refine rq 0 (by kernel_rfl) rfl rfl (q_fieldAddr rfl Tryz.underlying57 rfl Tryz.sizeOf3 rfl) ?_
  refine rq 1 (by kernel_rfl) rfl rfl (q_loadBlk rfl rfl Tryz.isAgg3 (hS6.blk 1 rfl) rfl (labU_not [] rfl (fe))) ?_
  refine rq 2 (by kernel_rfl) rfl rfl (q_lss rfl rfl rfl) ?_
  refine rq 3 (by kernel_rfl) rfl rfl (q_move (v := B (decide (q.Den < 1))) rfl rfl) ?_
  by_cases hg8 : q.Den < 1
  ·have hb9 := Eq.trans rfl (congrArg B (decide_eq_true hg8))
   refine wpR_q 4 (by kernel_rfl) rfl (quietAt_s rfl rfl rfl rfl hb9 rfl) ?_
   refine wpR_q 5 (by kernel_rfl) rfl (quietAt_s rfl rfl rfl rfl hb9 rfl) ?_
   refine wpR_q 6 (by kernel_rfl) rfl (quietAt_s rfl rfl rfl rfl hb9 rfl) ?_
   refine rq 7 (by kernel_rfl) rfl rfl (q_pickT (v := B (true)) rfl hb9 rfl) ?_
   refine rq 8 (by kernel_rfl) rfl rfl (q_move (v := B (true)) rfl rfl) ?_
   refine wpR_q 9 (by kernel_rfl) rfl (quietAt_s rfl rfl rfl rfl rfl rfl) ?_
   refine wpR_q 10 (by kernel_rfl) rfl (quietAt_s rfl rfl rfl rfl rfl rfl) ?_
   refine wpR_q 11 (by kernel_rfl) rfl (quietAt_s rfl rfl rfl rfl rfl rfl) ?_
   refine rq 12 (by kernel_rfl) rfl rfl (q_pickT (v := B (true)) rfl rfl rfl) ?_
   refine rq 13 (by kernel_rfl) rfl rfl (q_move (v := B (true)) rfl rfl) ?_
   refine wpR_q 14 (by kernel_rfl) rfl (quietAt_s rfl rfl rfl rfl rfl rfl) ?_
   refine wpR_q 15 (by kernel_rfl) rfl (quietAt_s rfl rfl rfl rfl rfl rfl) ?_
   refine wpR_q 16 (by kernel_rfl) rfl (quietAt_s rfl rfl rfl rfl rfl rfl) ?_
   refine rq 17 (by kernel_rfl) rfl rfl (q_pickT (v := B (true)) rfl rfl rfl) ?_
   refine rq 18 (by kernel_rfl) rfl rfl (q_move (v := B (true)) rfl rfl) ?_
   refine wpR_q 19 (by kernel_rfl) rfl (quietAt_s rfl rfl rfl rfl rfl rfl) ?_
   refine wpR_q 20 (by kernel_rfl) rfl (quietAt_s rfl rfl rfl rfl rfl rfl) ?_
   refine wpR_q 21 (by kernel_rfl) rfl (quietAt_s rfl rfl rfl rfl rfl rfl) ?_
   refine wpR_q 22 (by kernel_rfl) rfl (quietAt_s rfl rfl rfl rfl rfl rfl) ?_
   refine wpR_q 23 (by kernel_rfl) rfl (quietAt_s rfl rfl rfl rfl rfl rfl) ?_
   refine wpR_q 24 (by kernel_rfl) rfl (quietAt_s rfl rfl rfl rfl rfl rfl) ?_
   refine wpR_q 25 (by kernel_rfl) rfl (quietAt_s rfl rfl rfl rfl rfl rfl) ?_
   refine wpR_q 26 (by kernel_rfl) rfl (quietAt_s rfl rfl rfl rfl rfl rfl) ?_
   refine rq 27 (by kernel_rfl) rfl rfl (q_pickT (v := B (true)) rfl rfl rfl) ?_
   refine wpR_end (by kernel_rfl) ?_
   exact ⟨rfl, (Eq.trans rfl (congrArg B ((decide_eq_true (Or.inl (Or.inl (Or.inl (Or.inl hg8))))).symm))), hS6⟩
  ·have hb10 := Eq.trans rfl (congrArg B (decide_eq_false hg8))
   refine wpR_q 4 (by kernel_rfl) rfl (quietAt_g rfl rfl rfl rfl hb10 (q_fieldAddr rfl Tryz.underlying57 rfl Tryz.sizeOf3 rfl)) ?_
   refine wpR_q 5 (by kernel_rfl) rfl (quietAt_g rfl rfl rfl rfl hb10 (q_loadBlk rfl rfl Tryz.isAgg3 (hS6.blk 1 rfl) rfl (labU_not [] rfl (fe)))) ?_
   refine wpR_q 6 (by kernel_rfl) rfl (quietAt_g rfl rfl rfl rfl hb10 (q_gtr rfl rfl rfl)) ?_
   refine rq 7 (by kernel_rfl) rfl rfl (q_pickF (v := B (decide (1073741824 < q.Den))) rfl hb10 rfl) ?_
   refine rq 8 (by kernel_rfl) rfl rfl (q_move (v := B (decide (1073741824 < q.Den))) rfl rfl) ?_
   by_cases hg11 : 1073741824 < q.Den
   ·have hb12 := Eq.trans rfl (congrArg B (decide_eq_true hg11))
    refine wpR_q 9 (by kernel_rfl) rfl (quietAt_s rfl rfl rfl rfl hb12 rfl) ?_
    refine wpR_q 10 (by kernel_rfl) rfl (quietAt_s rfl rfl rfl rfl hb12 rfl) ?_
    refine wpR_q 11 (by kernel_rfl) rfl (quietAt_s rfl rfl rfl rfl hb12 rfl) ?_
    refine rq 12 (by kernel_rfl) rfl rfl (q_pickT (v := B (true)) rfl hb12 rfl) ?_
    refine rq 13 (by kernel_rfl) rfl rfl (q_move (v := B (true)) rfl rfl) ?_
    refine wpR_q 14 (by kernel_rfl) rfl (quietAt_s rfl rfl rfl rfl rfl rfl) ?_
    refine wpR_q 15 (by kernel_rfl) rfl (quietAt_s rfl rfl rfl rfl rfl rfl) ?_
    refine wpR_q 16 (by kernel_rfl) rfl (quietAt_s rfl rfl rfl rfl rfl rfl) ?_
    refine rq 17 (by kernel_rfl) rfl rfl (q_pickT (v := B (true)) rfl rfl rfl) ?_
    refine rq 18 (by kernel_rfl) rfl rfl (q_move (v := B (true)) rfl rfl) ?_
    refine wpR_q 19 (by kernel_rfl) rfl (quietAt_s rfl rfl rfl rfl rfl rfl) ?_
    refine wpR_q 20 (by kernel_rfl) rfl (quietAt_s rfl rfl rfl rfl rfl rfl) ?_
    refine wpR_q 21 (by kernel_rfl) rfl (quietAt_s rfl rfl rfl rfl rfl rfl) ?_
    refine wpR_q 22 (by kernel_rfl) rfl (quietAt_s rfl rfl rfl rfl rfl rfl) ?_
    refine wpR_q 23 (by kernel_rfl) rfl (quietAt_s rfl rfl rfl rfl rfl rfl) ?_
    refine wpR_q 24 (by kernel_rfl) rfl (quietAt_s rfl rfl rfl rfl rfl rfl) ?_
    refine wpR_q 25 (by kernel_rfl) rfl (quietAt_s rfl rfl rfl rfl rfl rfl) ?_
    refine wpR_q 26 (by kernel_rfl) rfl (quietAt_s rfl rfl rfl rfl rfl rfl) ?_
    refine rq 27 (by kernel_rfl) rfl rfl (q_pickT (v := B (true)) rfl rfl rfl) ?_
    refine wpR_end (by kernel_rfl) ?_
    exact ⟨rfl, (Eq.trans rfl (congrArg B ((decide_eq_true (Or.inl (Or.inl (Or.inl (Or.inr hg11))))).symm))), hS6⟩
   ·have hb13 := Eq.trans rfl (congrArg B (decide_eq_false hg11))
    refine wpR_q 9 (by kernel_rfl) rfl (quietAt_g rfl rfl rfl rfl hb13 (q_fieldAddr rfl Tryz.underlying57 rfl Tryz.sizeOf3 rfl)) ?_
    refine wpR_q 10 (by kernel_rfl) rfl (quietAt_g rfl rfl rfl rfl hb13 (q_loadBlk rfl rfl Tryz.isAgg3 (hS6.blk 1 rfl) rfl (labU_not [] rfl (fe)))) ?_
    refine wpR_q 11 (by kernel_rfl) rfl (quietAt_g rfl rfl rfl rfl hb13 (q_lss rfl rfl rfl)) ?_
    refine rq 12 (by kernel_rfl) rfl rfl (q_pickF (v := B (decide (q.Num < (-1073741824)))) rfl hb13 rfl) ?_
    refine rq 13 (by kernel_rfl) rfl rfl (q_move (v := B (decide (q.Num < (-1073741824)))) rfl rfl) ?_
    by_cases hg14 : q.Num < (-1073741824)
    ·have hb15 := Eq.trans rfl (congrArg B (decide_eq_true hg14))
     refine wpR_q 14 (by kernel_rfl) rfl (quietAt_s rfl rfl rfl rfl hb15 rfl) ?_
     refine wpR_q 15 (by kernel_rfl) rfl (quietAt_s rfl rfl rfl rfl hb15 rfl) ?_
     refine wpR_q 16 (by kernel_rfl) rfl (quietAt_s rfl rfl rfl rfl hb15 rfl) ?_
     refine rq 17 (by kernel_rfl) rfl rfl (q_pickT (v := B (true)) rfl hb15 rfl) ?_
     refine rq 18 (by kernel_rfl) rfl rfl (q_move (v := B (true)) rfl rfl) ?_
     refine wpR_q 19 (by kernel_rfl) rfl (quietAt_s rfl rfl rfl rfl rfl rfl) ?_
     refine wpR_q 20 (by kernel_rfl) rfl (quietAt_s rfl rfl rfl rfl rfl rfl) ?_
     refine wpR_q 21 (by kernel_rfl) rfl (quietAt_s rfl rfl rfl rfl rfl rfl) ?_
     refine wpR_q 22 (by kernel_rfl) rfl (quietAt_s rfl rfl rfl rfl rfl rfl) ?_
     refine wpR_q 23 (by kernel_rfl) rfl (quietAt_s rfl rfl rfl rfl rfl rfl) ?_
     refine wpR_q 24 (by kernel_rfl) rfl (quietAt_s rfl rfl rfl rfl rfl rfl) ?_
     refine wpR_q 25 (by kernel_rfl) rfl (quietAt_s rfl rfl rfl rfl rfl rfl) ?_
     refine wpR_q 26 (by kernel_rfl) rfl (quietAt_s rfl rfl rfl rfl rfl rfl) ?_
     refine rq 27 (by kernel_rfl) rfl rfl (q_pickT (v := B (true)) rfl rfl rfl) ?_
     refine wpR_end (by kernel_rfl) ?_
     exact ⟨rfl, (Eq.trans rfl (congrArg B ((decide_eq_true (Or.inl (Or.inl (Or.inr hg14)))).symm))), hS6⟩
    ·have hb16 := Eq.trans rfl (congrArg B (decide_eq_false hg14))
     refine wpR_q 14 (by kernel_rfl) rfl (quietAt_g rfl rfl rfl rfl hb16 (q_fieldAddr rfl Tryz.underlying57 rfl Tryz.sizeOf3 rfl)) ?_
     refine wpR_q 15 (by kernel_rfl) rfl (quietAt_g rfl rfl rfl rfl hb16 (q_loadBlk rfl rfl Tryz.isAgg3 (hS6.blk 1 rfl) rfl (labU_not [] rfl (fe)))) ?_
     refine wpR_q 16 (by kernel_rfl) rfl (quietAt_g rfl rfl rfl rfl hb16 (q_gtr rfl rfl rfl)) ?_
     refine rq 17 (by kernel_rfl) rfl rfl (q_pickF (v := B (decide (1073741824 < q.Num))) rfl hb16 rfl) ?_
     refine rq 18 (by kernel_rfl) rfl rfl (q_move (v := B (decide (1073741824 < q.Num))) rfl rfl) ?_
     by_cases hg17 : 1073741824 < q.Num
     ·have hb18 := Eq.trans rfl (congrArg B (decide_eq_true hg17))
      refine wpR_q 19 (by kernel_rfl) rfl (quietAt_s rfl rfl rfl rfl hb18 rfl) ?_
      refine wpR_q 20 (by kernel_rfl) rfl (quietAt_s rfl rfl rfl rfl hb18 rfl) ?_
      refine wpR_q 21 (by kernel_rfl) rfl (quietAt_s rfl rfl rfl rfl hb18 rfl) ?_
      refine wpR_q 22 (by kernel_rfl) rfl (quietAt_s rfl rfl rfl rfl hb18 rfl) ?_
      refine wpR_q 23 (by kernel_rfl) rfl (quietAt_s rfl rfl rfl rfl hb18 rfl) ?_
      refine wpR_q 24 (by kernel_rfl) rfl (quietAt_s rfl rfl rfl rfl hb18 rfl) ?_
      refine wpR_q 25 (by kernel_rfl) rfl (quietAt_s rfl rfl rfl rfl hb18 rfl) ?_
      refine wpR_q 26 (by kernel_rfl) rfl (quietAt_s rfl rfl rfl rfl hb18 rfl) ?_
      refine rq 27 (by kernel_rfl) rfl rfl (q_pickT (v := B (true)) rfl hb18 rfl) ?_
      refine wpR_end (by kernel_rfl) ?_
      exact ⟨rfl, (Eq.trans rfl (congrArg B ((decide_eq_true (Or.inl (Or.inr hg17))).symm))), hS6⟩
     ·have hb19 := Eq.trans rfl (congrArg B (decide_eq_false hg17))
      refine wpR_q 19 (by kernel_rfl) rfl (quietAt_g rfl rfl rfl rfl hb19 (q_fieldAddr rfl Tryz.underlying57 rfl Tryz.sizeOf3 rfl)) ?_
      refine wpR_q 20 (by kernel_rfl) rfl (quietAt_g rfl rfl rfl rfl hb19 (q_loadBlk rfl rfl Tryz.isAgg3 (hS6.blk 1 rfl) rfl (labU_not [] rfl (fe)))) ?_
      refine wpR_q 22 (by kernel_rfl) rfl (quietAt_g rfl rfl rfl rfl hb19 (q_fieldAddr rfl Tryz.underlying57 rfl Tryz.sizeOf3 rfl)) ?_
      refine wpR_q 23 (by kernel_rfl) rfl (quietAt_g rfl rfl rfl rfl hb19 (q_loadBlk rfl rfl Tryz.isAgg3 (hS6.blk 1 rfl) rfl (labU_not [] rfl (fe)))) ?_
      refine wpR_n [21] (by kernel_rfl) ?_
      refine fa ?_ fe
      refine exE_g rfl rfl rfl rfl hb19 ?_
      refine e_call rfl Tryz.call95 (arr1 (v0 := I (q.Num)) rfl) (size_L q.Num (by first | assumption | (constructor <;> (try dsimp only) <;> omega))) ?_
      rintro _ H7o21 ⟨hxx, rfl⟩
      have hS7o21 := hS6.ext hxx
      refine ⟨Ext.mono hxx (fun _ h => h.elim), ?_⟩
      refine wpR_n [24] (by kernel_rfl) ?_
      refine fa ?_ fe
      refine exE_g rfl rfl rfl rfl hb19 ?_
      refine e_call rfl Tryz.call95 (arr1 (v0 := I (q.Den)) rfl) (size_L q.Den (by first | assumption | (constructor <;> (try dsimp only) <;> omega))) ?_
      rintro _ H7o24 ⟨hxx, rfl⟩
      have hS7o24 := hS7o21.ext hxx
      refine ⟨Ext.mono hxx (fun _ h => h.elim), ?_⟩
      refine wpR_n [25] (by kernel_rfl) ?_
      refine fa ?_ fe
      refine exE_g rfl rfl rfl rfl hb19 ?_
      refine e_call rfl Tryz.call94 (arr2 (v0 := U64 (((q.Num.natAbs : Nat) : Int))) (v1 := U64 (((q.Den.natAbs : Nat) : Int))) rfl rfl) (gcdU_L q.Num.natAbs q.Den.natAbs) ?_
      rintro _ H7o25 ⟨hxx, rfl⟩
      have hS7o25 := hS7o24.ext hxx
      refine ⟨Ext.mono hxx (fun _ h => h.elim), ?_⟩
      refine wpR_q 26 (by kernel_rfl) rfl (quietAt_g rfl rfl rfl rfl hb19 (q_neqU rfl rfl rfl)) ?_
      refine rq 27 (by kernel_rfl) rfl rfl (q_pickF (v := B (decide (¬ ((Nat.gcd q.Num.natAbs q.Den.natAbs : Nat) : Int) = ((1 : Nat) : Int)))) rfl hb19 rfl) ?_
      refine wpR_end (by kernel_rfl) ?_
      exact ⟨rfl, (Eq.trans rfl (congrArg B (decide_congr_of ((Iff.rfl).trans (((or_iff_right (not_or.2 ⟨(not_or.2 ⟨(not_or.2 ⟨hg8, hg11⟩), hg14⟩), hg17⟩)).trans Iff.rfl)).symm)))), hS7o25⟩
 rintro f20 H20 ⟨y2, y30, hS20⟩
 refine wpF_condP y30 (fun hb => ?t26) (fun hb => ?e26)
 case t26 =>
  refine wpF_seq ?_
  refine wpF_region ?_
  refine lq rfl (q_build (v := Vg #[I (3), I (0)]) rfl (par1 (v0 := I (3)) rfl) (fun w__ => by kernel_rfl)) ?_
  refine lo rfl ?_
  refine e_storeBlkA (cs' := #[I (3), I (0)]) rfl y2 rfl Tryz.sizeOf32 rfl rfl (fa rfl (fa rfl fe)) hS20 (fun H22 hS23 hxx => ?_)
  refine wpL_nil ?_
  refine wpF_ret ?_
  refine ⟨_, resC y2 (loadV_blkA Tryz.isAgg32 Tryz.sizeOf32 rfl (hS23.blk 0 rfl)) (resN), hS23.frame, ?_⟩
  show (Vg #[I (3), I (0)]) = Vg #[I ((checkFr q)).1, I ((checkFr q)).2]
  have hq := (show checkFr q = (3, 0) from if_pos hb)
  rw [hq]
 refine wpF_skip ?_
 refine wpF_seq ?_
 refine wpF_region ?_
 refine lq rfl (q_build (v := Vg #[I (0), I (0)]) rfl par0 (fun w__ => by kernel_rfl)) ?_
 refine lo rfl ?_
 refine e_storeBlkA (cs' := #[I (0), I (0)]) rfl y2 rfl Tryz.sizeOf32 rfl rfl (fa rfl (fa rfl fe)) hS20 (fun H24 hS25 hxx => ?_)
 refine wpL_nil ?_
 refine wpF_ret ?_
 refine ⟨_, resC y2 (loadV_blkA Tryz.isAgg32 Tryz.sizeOf32 rfl (hS25.blk 0 rfl)) (resN), hS25.frame, ?_⟩
 show (Vg #[I (0), I (0)]) = Vg #[I ((checkFr q)).1, I ((checkFr q)).2]
 have hq := (show checkFr q = (0, 0) from if_neg hb)
 rw [hq]
set_option maxRecDepth 100000 in
theorem checked_F {H0 : Heap} (vl : Value) (l : List Frac) (rl : Rd NoB H0 vl l) : CallsH Tryz.prog 99 #[vl] H0 (fun rv_ H' => Ext NoB H0 H' ∧ rv_ = Vg #[I ((frsF l)).1, I ((frsF l)).2]) := by
 have hsm : l.length * 16 ≤ 140737488355328 := (Rd.list.1 rl).bound
 have hS0 : St H0 NoB NoB [rdE vl l] H0 := St.arg (St.start (fun _ h => h.elim)) (Bl0.nil) rl (fun _ h => h)
 refine callsH_of_wpF (args := [vl]) (rs := [.cell 2 32]) Tryz.func99 rfl Tryz.ntmps99 Tryz.results99 (by kernel_rfl) (Nat.le_of_ble_eq_true rfl) ?_
 have y0 : argF [vl] 0 = vl := rfl
 generalize argF [vl] = f0 at *
 refine wpF_seq ?_
 refine wpF_region ?_
 refine lo rfl ?_
 refine e_alloc rfl Tryz.zeroValue32 hS0 (fun g1 H2 hS3 hxx => ?_)
 refine wpL_nil ?_
 refine wpF_seq ?_
 refine wpF_seq ?_
 refine wpF_region ?_
 refine lm (v := vl) rfl rfl y0 ?_
 refine lq rfl (q_lenRd rfl Tryz.underlying144 rfl (hS3.rdl 1 rfl)) ?_
 refine lm (v := I (0)) rfl rfl rfl ?_
 refine wpL_nil ?_
 refine wpF_block ?_
 refine wpF_loop (fun mz f H => ∃ (k : Nat), mz = l.length - k ∧ (k ≤ l.length) ∧ (∀ j, j < k → ¬ frBad (nth l j)) ∧ f 2 = PT g1 0 ∧ f 5 = vl ∧ f 6 = I ((l.length : Int)) ∧ f 7 = I ((k : Int)) ∧ St H0 NoB NoB [bE g1 #[I (0), I (0)] 32, rdE vl l] H) (l.length - 0) ?_ ?_
 ·exact ⟨0, rfl, Nat.zero_le _, (fun j hj => absurd hj (Nat.not_lt_zero j)), rfl, rfl, rfl, (Eq.trans rfl (congrArg I (by omega))), hS3⟩
 intro m4 f4 H4 hI4
 obtain ⟨k, hm4, hk, hp, y2, y5, y6, y7, hS4⟩ := hI4
 refine wpF_seq ?_
 refine wpF_region ?_
 refine lq rfl (q_lss rfl y7 y6) ?_
 refine wpL_nil ?_
 refine wpF_seq ?_
 refine wpF_condP rfl (fun hlt => ?t21) (fun hlt => ?e21)
 case e21 =>
  refine wpF_exit ?_
  refine atX_here ?_
  refine wpF_seq ?_
  refine wpF_region ?_
  refine lq rfl (q_build (v := Vg #[I (0), I (0)]) rfl par0 (fun w__ => by kernel_rfl)) ?_
  refine lo rfl ?_
  refine e_storeBlkA (cs' := #[I (0), I (0)]) rfl y2 rfl Tryz.sizeOf32 rfl rfl (fa rfl (fa rfl fe)) hS4 (fun H19 hS20 hxx => ?_)
  refine wpL_nil ?_
  refine wpF_ret ?_
  refine ⟨_, resC y2 (loadV_blkA Tryz.isAgg32 Tryz.sizeOf32 rfl (hS20.blk 0 rfl)) (resN), hS20.frame, ?_⟩
  show (Vg #[I (0), I (0)]) = Vg #[I ((frsF l)).1, I ((frsF l)).2]
  have hq := frsF_no fun j hj => hp j (by omega)
  rw [hq]
 refine wpF_skip ?_
 refine wpF_seq ?_
 refine wpF_block ?_
 refine wpF_seq ?_
 refine wpF_region ?_
 refine lm (v := I ((k : Int))) rfl rfl y7 ?_
 refine lq rfl (q_indexRd (k := k) rfl Tryz.underlying144 el_Frac_57_MeanC1 y5 y7 (hS4.rdl 1 rfl) (by omega) (by omega)) ?_
 obtain ⟨u6, huu6, hlu6⟩ := (Rd.list.1 (hS4.rdS 1 rfl)).elem k (by omega)
 obtain ⟨rfl, hu60, hu61⟩ := Rd.frac.1 huu6
 refine lq rfl (q_loadE rfl rfl (hlu6 Tryz.prog 57 _ el_Frac_57_MeanC1 (fun _ h => False.elim h))) ?_
 refine lo rfl ?_
 refine e_alloc rfl Tryz.zeroValue57 hS4 (fun g7 H8 hS9 hxx => ?_)
 refine la (v := I ((k : Int))) rfl rfl rfl ?_
 refine lo rfl ?_
 refine e_storeBlkA (cs' := #[I ((nth l k).Num), I ((nth l k).Den)]) rfl rfl rfl Tryz.sizeOf57 rfl rfl (fa rfl (fa rfl fe)) hS9 (fun H10 hS11 hxx => ?_)
 refine wpL_nil ?_
 refine wpF_seq ?_
 refine wpF_region ?_
 refine lq rfl (q_loadBlkA rfl rfl Tryz.isAgg57 Tryz.sizeOf57 rfl (hS11.blk 0 rfl) (fun h => h)) ?_
 refine lo rfl ?_
 refine e_call rfl Tryz.call67 (arr1 (v0 := Vg #[I ((nth l k).Num), I ((nth l k).Den)]) rfl) (Check_F  (nth l k) (by first | assumption | (constructor <;> omega)) (by first | assumption | (constructor <;> omega)) ) ?_
 rintro _ H12 ⟨hxx, rfl⟩
 have hS13 := hS11.ext hxx
 refine lq rfl (q_field (cs := #[I (((checkFr (nth l k))).1), I (((checkFr (nth l k))).2)]) (v := I (((checkFr (nth l k))).1)) rfl Tryz.underlying32 rfl Tryz.isAgg3 rfl rfl) ?_
 refine lq rfl (q_neq rfl rfl rfl) ?_
 refine wpL_nil ?_
 refine wpF_condP rfl (fun hb => ?t18) (fun hb => ?e18)
 case e18 =>
  refine wpF_skip ?_
  refine wpF_region ?_
  refine lq rfl (q_add rfl y7 rfl (by constructor <;> omega)) ?_
  refine lm (v := I ((k : Int) + 1)) rfl rfl rfl ?_
  refine wpL_nil ?_
  refine ⟨_, ?_, k + 1, rfl, (by omega), (all_succ hp fun h => hb (chk_ne.2 h)), y2, y5, y6, (Eq.trans rfl (congrArg I (by omega))), (hS13.drop (sn (sk (sk (List.Sublist.slnil)))))⟩
  omega
 refine wpF_seq ?_
 refine wpF_region ?_
 refine lm (v := I ((k : Int))) rfl rfl rfl ?_
 refine lq rfl (q_build (v := Vg #[I (3), I ((k : Int))]) rfl (par2 (v0 := I (3)) (v1 := I ((k : Int))) rfl rfl) (fun w__ => by kernel_rfl)) ?_
 refine lo rfl ?_
 refine e_storeBlkA (cs' := #[I (3), I ((k : Int))]) rfl y2 rfl Tryz.sizeOf32 rfl rfl (fa rfl (fa rfl fe)) (hS13.front 1 rfl) (fun H16 hS17 hxx => ?_)
 refine wpL_nil ?_
 refine wpF_ret ?_
 refine ⟨_, resC y2 (loadV_blkA Tryz.isAgg32 Tryz.sizeOf32 rfl (hS17.blk 0 rfl)) (resN), hS17.frame, ?_⟩
 show (Vg #[I (3), I ((k : Int))]) = Vg #[I ((frsF l)).1, I ((frsF l)).2]
 have hq := frsF_at (by omega) hp (chk_ne.1 hb)
 rw [hq]
set_option maxHeartbeats 1000000 in
set_option maxRecDepth 100000 in
theorem Make_F {H0 : Heap} (n d : Int) (h6n : In64 n) (h6d : In64 d) : CallsH Tryz.prog 109 #[I (n), I (d)] H0 (fun rv_ H' => Ext NoB H0 H' ∧ rv_ = Value.tuple #[Vg #[I (makeF n d).1.Num, I (makeF n d).1.Den], Vg #[I (makeF n d).2.1, I (makeF n d).2.2]]) := by
 have hS0 : St H0 NoB NoB [] H0 := St.start (fun _ h => h.elim)
 refine callsH_of_wpF (args := [I (n), I (d)]) (rs := [.cell 4 57, .cell 5 32]) Tryz.func109 rfl Tryz.ntmps109 Tryz.results109 (by kernel_rfl) (Nat.le_of_ble_eq_true rfl) ?_
 have y0 : argF [I (n), I (d)] 0 = I (n) := rfl
 have y1 : argF [I (n), I (d)] 1 = I (d) := rfl
 generalize argF [I (n), I (d)] = f0 at *
 refine wpF_seq ?_
 refine wpF_region ?_
 refine lo rfl ?_
 refine e_alloc rfl Tryz.zeroValue57 hS0 (fun g1 H2 hS3 hxx => ?_)
 refine lo rfl ?_
 refine e_alloc rfl Tryz.zeroValue32 hS3 (fun g4 H5 hS6 hxx => ?_)
 refine wpL_nil ?_
 refine wpF_seq ?_
 refine wpF_seq ?_
 refine wpF_region ?_
 refine lm (v := I (d)) rfl rfl y1 ?_
 refine lq rfl (q_eql rfl rfl rfl) ?_
 refine wpL_nil ?_
 refine wpF_condP rfl (fun h11 => ?t46) (fun h11 => ?e46)
 case t46 =>
  refine wpF_seq ?_
  refine wpF_region ?_
  refine lq rfl (q_build (v := Vg #[I (0), I (0)]) rfl par0 (fun w__ => by kernel_rfl)) ?_
  refine lq rfl (q_build (v := Vg #[I (6), I (0)]) rfl (par1 (v0 := I (6)) rfl) (fun w__ => by kernel_rfl)) ?_
  refine lo rfl ?_
  refine e_storeBlkA (cs' := #[I (0), I (0)]) rfl rfl rfl Tryz.sizeOf57 rfl rfl (fa rfl (fa rfl fe)) (hS6.front 1 rfl) (fun H8 hS9 hxx => ?_)
  refine lo rfl ?_
  refine e_storeBlkA (cs' := #[I (6), I (0)]) rfl rfl rfl Tryz.sizeOf32 rfl rfl (fa rfl (fa rfl fe)) (hS9.front 1 rfl) (fun H10 hS11 hxx => ?_)
  refine wpL_nil ?_
  refine wpF_ret ?_
  refine ⟨_, resC rfl (loadV_blkA Tryz.isAgg57 Tryz.sizeOf57 rfl (hS11.blk 1 rfl)) (resC rfl (loadV_blkA Tryz.isAgg32 Tryz.sizeOf32 rfl (hS11.blk 0 rfl)) (resN)), hS11.frame, ?_⟩
  show (Value.tuple #[Vg #[I (0), I (0)], Vg #[I (6), I (0)]]) = Value.tuple #[Vg #[I (makeF n d).1.Num, I (makeF n d).1.Den], Vg #[I (makeF n d).2.1, I (makeF n d).2.2]]
  have hq_ : makeF n d = _ := makeF_zero h11
  rw [hq_]
 have hg0 : ¬ Nat.gcd n.natAbs d.natAbs = 0 := fun e => h11 (by have := Nat.eq_zero_of_gcd_eq_zero_right e; omega)
 have hna : n.natAbs ≤ 9223372036854775808 := by have := h6n.1; have := h6n.2; omega
 have hda : d.natAbs ≤ 9223372036854775808 := by have := h6d.1; have := h6d.2; omega
 have hqn : (0 : Int) ≤ ((n.natAbs / Nat.gcd n.natAbs d.natAbs : Nat) : Int) := Int.natCast_nonneg _
 have hqd : (0 : Int) ≤ ((d.natAbs / Nat.gcd n.natAbs d.natAbs : Nat) : Int) := Int.natCast_nonneg _
 refine wpF_skip ?_
 refine wpF_seq ?_
 refine wpF_region ?_
 refine lm (v := I (n)) rfl rfl y0 ?_
 refine lo rfl ?_
 refine e_call rfl Tryz.call95 (arr1 (v0 := I (n)) rfl) (size_L n (by first | assumption | (constructor <;> (try dsimp only) <;> omega))) ?_
 rintro _ H12 ⟨hxx, rfl⟩
 have hS13 := hS6.ext hxx
 refine lm (v := I (d)) rfl rfl y1 ?_
 refine lo rfl ?_
 refine e_call rfl Tryz.call95 (arr1 (v0 := I (d)) rfl) (size_L d (by first | assumption | (constructor <;> (try dsimp only) <;> omega))) ?_
 rintro _ H15 ⟨hxx, rfl⟩
 have hS16 := hS13.ext hxx
 refine la (v := U64 (((n.natAbs : Nat) : Int))) rfl rfl rfl ?_
 refine la (v := U64 (((d.natAbs : Nat) : Int))) rfl rfl rfl ?_
 refine wpL_nil ?_
 refine wpF_seq ?_
 refine wpF_region ?_
 refine lm (v := U64 (((n.natAbs : Nat) : Int))) rfl rfl rfl ?_
 refine lm (v := U64 (((d.natAbs : Nat) : Int))) rfl rfl rfl ?_
 refine lo rfl ?_
 refine e_call rfl Tryz.call94 (arr2 (v0 := U64 (((n.natAbs : Nat) : Int))) (v1 := U64 (((d.natAbs : Nat) : Int))) rfl rfl) (gcdU_L n.natAbs d.natAbs) ?_
 rintro _ H18 ⟨hxx, rfl⟩
 have hS19 := hS16.ext hxx
 refine la (v := U64 (((Nat.gcd n.natAbs d.natAbs : Nat) : Int))) rfl rfl rfl ?_
 refine wpL_nil ?_
 refine wpF_seq ?_
 refine wpF_seq ?_
 refine wpF_drawn [] [] (fun _ _ => False) (by kernel_rfl) (by kernel_rfl) ?_
 refine rq 0 (by kernel_rfl) rfl rfl (q_move (v := U64 (((n.natAbs : Nat) : Int))) rfl rfl) ?_
 refine rq 1 (by kernel_rfl) rfl rfl (q_move (v := U64 (((Nat.gcd n.natAbs d.natAbs : Nat) : Int))) rfl rfl) ?_
 refine rq 2 (by kernel_rfl) rfl rfl (q_quoU (a := n.natAbs) (b := Nat.gcd n.natAbs d.natAbs) rfl rfl rfl (by exact hg0) (by omega)) ?_
 refine rq 3 (by kernel_rfl) rfl rfl (q_move (v := U64 (((d.natAbs : Nat) : Int))) rfl rfl) ?_
 refine rq 4 (by kernel_rfl) rfl rfl (q_move (v := U64 (((Nat.gcd n.natAbs d.natAbs : Nat) : Int))) rfl rfl) ?_
 refine rq 5 (by kernel_rfl) rfl rfl (q_quoU (a := d.natAbs) (b := Nat.gcd n.natAbs d.natAbs) rfl rfl rfl (by exact hg0) (by omega)) ?_
 refine rq 6 (by kernel_rfl) rfl rfl (q_assign (v := U64 (((n.natAbs / (Nat.gcd n.natAbs d.natAbs) : Nat) : Int))) rfl rfl) ?_
 refine rq 7 (by kernel_rfl) rfl rfl (q_assign (v := U64 (((d.natAbs / (Nat.gcd n.natAbs d.natAbs) : Nat) : Int))) rfl rfl) ?_
 refine wpR_end (by kernel_rfl) ?_
 skip
 refine fcr (fun f H => f 0 = I (n) ∧ f 1 = I (d) ∧ f 4 = PT g1 0 ∧ f 5 = PT g4 0 ∧ f 6 = U64 (((n.natAbs / (Nat.gcd n.natAbs d.natAbs) : Nat) : Int)) ∧ f 7 = U64 (((d.natAbs / (Nat.gcd n.natAbs d.natAbs) : Nat) : Int)) ∧ f 32 = B (decide ((((1073741824 : Nat) : Int) < ((n.natAbs / (Nat.gcd n.natAbs d.natAbs) : Nat) : Int)) ∨ (((1073741824 : Nat) : Int) < ((d.natAbs / (Nat.gcd n.natAbs d.natAbs) : Nat) : Int)))) ∧ H18 = H) ?_ ?_
 ·refine lm (v := U64 (((n.natAbs / (Nat.gcd n.natAbs d.natAbs) : Nat) : Int))) rfl rfl rfl ?_
  refine lq rfl (q_gtrU rfl rfl rfl) ?_
  refine lm (v := B (decide (((1073741824 : Nat) : Int) < ((n.natAbs / (Nat.gcd n.natAbs d.natAbs) : Nat) : Int)))) rfl rfl rfl ?_
  by_cases hg22 : ((1073741824 : Nat) : Int) < ((n.natAbs / (Nat.gcd n.natAbs d.natAbs) : Nat) : Int)
  ·have hb23 := Eq.trans rfl (congrArg B (decide_eq_true hg22))
   refine wpL_gs rfl rfl rfl hb23 rfl ?_
   refine wpL_gs rfl rfl rfl hb23 rfl ?_
   refine lq rfl (q_pickT (v := B (true)) rfl hb23 rfl) ?_
   exact ⟨y0, y1, rfl, rfl, rfl, rfl, (Eq.trans rfl (congrArg B ((decide_eq_true (Or.inl hg22)).symm))), rfl⟩
  ·have hb24 := Eq.trans rfl (congrArg B (decide_eq_false hg22))
   refine gq rfl rfl rfl hb24 (q_move (v := U64 (((d.natAbs / (Nat.gcd n.natAbs d.natAbs) : Nat) : Int))) rfl rfl) ?_
   refine gq rfl rfl rfl hb24 (q_gtrU rfl rfl rfl) ?_
   refine lq rfl (q_pickF (v := B (decide (((1073741824 : Nat) : Int) < ((d.natAbs / (Nat.gcd n.natAbs d.natAbs) : Nat) : Int)))) rfl hb24 rfl) ?_
   exact ⟨y0, y1, rfl, rfl, rfl, rfl, (Eq.trans rfl (congrArg B (decide_congr_of ((Iff.rfl).trans (((or_iff_right hg22).trans Iff.rfl)).symm)))), rfl⟩
 clear y0 y1
 rintro f25 _ ⟨y0, y1, y4, y5, y6, y7, y32, rfl⟩
 refine wpF_condP y32 (fun h32 => ?t45) (fun h32 => ?e45)
 case t45 =>
  refine wpF_seq ?_
  refine wpF_region ?_
  refine lq rfl (q_build (v := Vg #[I (0), I (0)]) rfl par0 (fun w__ => by kernel_rfl)) ?_
  refine lq rfl (q_build (v := Vg #[I (10), I (0)]) rfl (par1 (v0 := I (10)) rfl) (fun w__ => by kernel_rfl)) ?_
  refine lo rfl ?_
  refine e_storeBlkA (cs' := #[I (0), I (0)]) rfl y4 rfl Tryz.sizeOf57 rfl rfl (fa rfl (fa rfl fe)) (hS19.front 1 rfl) (fun H27 hS28 hxx => ?_)
  refine lo rfl ?_
  refine e_storeBlkA (cs' := #[I (10), I (0)]) rfl y5 rfl Tryz.sizeOf32 rfl rfl (fa rfl (fa rfl fe)) (hS28.front 1 rfl) (fun H29 hS30 hxx => ?_)
  refine wpL_nil ?_
  refine wpF_ret ?_
  refine ⟨_, resC y4 (loadV_blkA Tryz.isAgg57 Tryz.sizeOf57 rfl (hS30.blk 1 rfl)) (resC y5 (loadV_blkA Tryz.isAgg32 Tryz.sizeOf32 rfl (hS30.blk 0 rfl)) (resN)), hS30.frame, ?_⟩
  show (Value.tuple #[Vg #[I (0), I (0)], Vg #[I (10), I (0)]]) = Value.tuple #[Vg #[I (makeF n d).1.Num, I (makeF n d).1.Den], Vg #[I (makeF n d).2.1, I (makeF n d).2.2]]
  have hq_ : makeF n d = _ := makeF_much h11 h32
  rw [hq_]
 refine wpF_skip ?_
 refine wpF_seq ?_
 refine wpF_region ?_
 refine lm (v := U64 (((n.natAbs / (Nat.gcd n.natAbs d.natAbs) : Nat) : Int))) rfl rfl y6 ?_
 refine lq rfl (q_convI rfl Tryz.underlying110 Tryz.underlying3 rfl (by omega)) ?_
 refine lm (v := U64 (((d.natAbs / (Nat.gcd n.natAbs d.natAbs) : Nat) : Int))) rfl rfl y7 ?_
 refine lq rfl (q_convI rfl Tryz.underlying110 Tryz.underlying3 rfl (by omega)) ?_
 refine lq rfl (q_build (v := Vg #[I (((n.natAbs / (Nat.gcd n.natAbs d.natAbs) : Nat) : Int)), I (((d.natAbs / (Nat.gcd n.natAbs d.natAbs) : Nat) : Int))]) rfl (par2 (v0 := I (((n.natAbs / (Nat.gcd n.natAbs d.natAbs) : Nat) : Int))) (v1 := I (((d.natAbs / (Nat.gcd n.natAbs d.natAbs) : Nat) : Int))) rfl rfl) (fun w__ => by kernel_rfl)) ?_
 refine lo rfl ?_
 refine e_alloc rfl Tryz.zeroValue57 hS19 (fun g31 H32 hS33 hxx => ?_)
 refine lo rfl ?_
 refine e_storeBlkA (cs' := #[I (((n.natAbs / (Nat.gcd n.natAbs d.natAbs) : Nat) : Int)), I (((d.natAbs / (Nat.gcd n.natAbs d.natAbs) : Nat) : Int))]) rfl rfl rfl Tryz.sizeOf57 rfl rfl (fa rfl (fa rfl fe)) hS33 (fun H34 hS35 hxx => ?_)
 refine wpL_nil ?_
 refine wpF_seq ?_
 refine wpF_seq ?_
 refine wpF_region ?_
 refine lm (v := I (n)) rfl rfl y0 ?_
 refine lq rfl (q_lss rfl rfl rfl) ?_
 refine lm (v := I (d)) rfl rfl y1 ?_
 refine lq rfl (q_lss rfl rfl rfl) ?_
 refine lq rfl (q_neqB rfl Tryz.underlying4 rfl rfl) ?_
 refine wpL_nil ?_
 refine wpF_cut (fun f H => f 4 = PT g1 0 ∧ f 5 = PT g4 0 ∧ f 9 = PT g31 0 ∧ St H0 NoB NoB [bE g31 #[I ((if decide (n < 0) ≠ decide (d < 0) then -((n.natAbs / Nat.gcd n.natAbs d.natAbs : Nat) : Int) else ((n.natAbs / Nat.gcd n.natAbs d.natAbs : Nat) : Int))), I (((d.natAbs / (Nat.gcd n.natAbs d.natAbs) : Nat) : Int))] 57, bE g4 #[I (0), I (0)] 32, bE g1 #[I (0), I (0)] 57] H) ?_ ?_
 ·refine wpF_condP rfl (fun h44 => ?t40) (fun h44 => ?e40)
  case e40 =>
   refine wpF_skip ?_
   exact ⟨y4, y5, rfl, (by have h__ := hS35; rw [if_neg h44]; exact h__)⟩
  refine wpF_region ?_
  refine lq rfl (q_fieldAddr rfl Tryz.underlying57 rfl Tryz.sizeOf3 rfl) ?_
  refine lq rfl (q_loadBlk rfl rfl Tryz.isAgg3 (hS35.blk 0 rfl) rfl (fun h => h)) ?_
  refine lq rfl (q_neg rfl rfl (by constructor <;> omega)) ?_
  refine lq rfl (q_fieldAddr rfl Tryz.underlying57 rfl Tryz.sizeOf3 rfl) ?_
  refine lo rfl ?_
  refine e_storeBlk (v := I (-((n.natAbs / (Nat.gcd n.natAbs d.natAbs) : Nat) : Int))) rfl rfl rfl rfl Tryz.sizeOf3 (by show _ < 2; decide) hS35 (fun H38 hS39 hxx => ?_)
  refine wpL_nil ?_
  exact ⟨y4, y5, rfl, (by have h__ := hS39; rw [if_pos h44]; exact h__)⟩
 clear y4 y5
 rintro f36 H36 ⟨y4, y5, y9, hS36⟩
 refine wpF_seq ?_
 refine wpF_region ?_
 refine lq rfl (q_loadBlkA rfl y9 Tryz.isAgg57 Tryz.sizeOf57 rfl (hS36.blk 0 rfl) (fun h => h)) ?_
 refine lq rfl (q_build (v := Vg #[I (0), I (0)]) rfl par0 (fun w__ => by kernel_rfl)) ?_
 refine lo rfl ?_
 refine e_storeBlkA (cs' := #[I ((if decide (n < 0) ≠ decide (d < 0) then -((n.natAbs / Nat.gcd n.natAbs d.natAbs : Nat) : Int) else ((n.natAbs / Nat.gcd n.natAbs d.natAbs : Nat) : Int))), I (((d.natAbs / (Nat.gcd n.natAbs d.natAbs) : Nat) : Int))]) rfl y4 rfl Tryz.sizeOf57 rfl rfl (fa rfl (fa rfl fe)) (hS36.front 2 rfl) (fun H41 hS42 hxx => ?_)
 refine lo rfl ?_
 refine e_storeBlkA (cs' := #[I (0), I (0)]) rfl y5 rfl Tryz.sizeOf32 rfl rfl (fa rfl (fa rfl fe)) (hS42.front 2 rfl) (fun H43 hS44 hxx => ?_)
 refine wpL_nil ?_
 refine wpF_ret ?_
 refine ⟨_, resC y4 (loadV_blkA Tryz.isAgg57 Tryz.sizeOf57 rfl (hS44.blk 1 rfl)) (resC y5 (loadV_blkA Tryz.isAgg32 Tryz.sizeOf32 rfl (hS44.blk 0 rfl)) (resN)), hS44.frame, ?_⟩
 show (Value.tuple #[Vg #[I ((if decide (n < 0) ≠ decide (d < 0) then -((n.natAbs / Nat.gcd n.natAbs d.natAbs : Nat) : Int) else ((n.natAbs / Nat.gcd n.natAbs d.natAbs : Nat) : Int))), I (((d.natAbs / (Nat.gcd n.natAbs d.natAbs) : Nat) : Int))], Vg #[I (0), I (0)]]) = Value.tuple #[Vg #[I (makeF n d).1.Num, I (makeF n d).1.Den], Vg #[I (makeF n d).2.1, I (makeF n d).2.2]]
 have hq_ : makeF n d = _ := makeF_ok h11 h32
 rw [hq_]
set_option maxHeartbeats 1000000 in
set_option maxRecDepth 100000 in
theorem apply_F {H0 : Heap} (vf : Value) (a b : Frac) (n d : Int) (h6na : In64 a.Num) (h6da : In64 a.Den) (h6nb : In64 b.Num) (h6db : In64 b.Den) (hf : ¬ (frsF [a, b]).1 ≠ 0 → (In64 n ∧ In64 d) ∧ ∀ H, Ext NoB H0 H → FnH Tryz.prog vf #[Vg #[I a.Num, I a.Den], Vg #[I b.Num, I b.Den]] H (fun rv H' => Ext NoB H H' ∧ rv = Value.tuple #[I n, I d])) : CallsH Tryz.prog 106 #[Vg #[I (a.Num), I (a.Den)], Vg #[I (b.Num), I (b.Den)], vf] H0 (fun rv_ H' => Ext NoB H0 H' ∧ rv_ = Value.tuple #[Vg #[I (applyF a b n d).1.Num, I (applyF a b n d).1.Den], Vg #[I (applyF a b n d).2.1, I (applyF a b n d).2.2]]) := by
 have hS0 : St H0 NoB NoB [] H0 := St.start (fun _ h => h.elim)
 refine callsH_of_wpF (args := [Vg #[I (a.Num), I (a.Den)], Vg #[I (b.Num), I (b.Den)], vf]) (rs := [.cell 6 57, .cell 7 32]) Tryz.func106 rfl Tryz.ntmps106 Tryz.results106 (by kernel_rfl) (Nat.le_of_ble_eq_true rfl) ?_
 have y0 : argF [Vg #[I (a.Num), I (a.Den)], Vg #[I (b.Num), I (b.Den)], vf] 0 = Vg #[I (a.Num), I (a.Den)] := rfl
 have y1 : argF [Vg #[I (a.Num), I (a.Den)], Vg #[I (b.Num), I (b.Den)], vf] 1 = Vg #[I (b.Num), I (b.Den)] := rfl
 have y2 : argF [Vg #[I (a.Num), I (a.Den)], Vg #[I (b.Num), I (b.Den)], vf] 2 = vf := rfl
 generalize argF [Vg #[I (a.Num), I (a.Den)], Vg #[I (b.Num), I (b.Den)], vf] = f0 at *
 refine wpF_seq ?_
 refine wpF_region ?_
 refine lo rfl ?_
 refine e_box (v := Vg #[I (a.Num), I (a.Den)]) rfl y0 hS0 (fun g1 H2 hS3 hxx => ?_)
 refine lo rfl ?_
 refine e_box (v := Vg #[I (b.Num), I (b.Den)]) rfl y1 hS3 (fun g4 H5 hS6 hxx => ?_)
 refine lo rfl ?_
 refine e_alloc rfl Tryz.zeroValue57 hS6 (fun g7 H8 hS9 hxx => ?_)
 refine lo rfl ?_
 refine e_alloc rfl Tryz.zeroValue32 hS9 (fun g10 H11 hS12 hxx => ?_)
 refine wpL_nil ?_
 refine wpF_seq ?_
 refine wpF_seq ?_
 refine wpF_region ?_
 refine lq rfl (q_loadBlkA rfl rfl Tryz.isAgg57 Tryz.sizeOf57 rfl (hS12.blk 3 rfl) (fun h => h)) ?_
 refine lq rfl (q_loadBlkA rfl rfl Tryz.isAgg57 Tryz.sizeOf57 rfl (hS12.blk 2 rfl) (fun h => h)) ?_
 refine lo rfl ?_
 refine e_buildSlice (vs := [Vg #[I (a.Num), I (a.Den)], Vg #[I (b.Num), I (b.Den)]]) (xs := ([a, b] : List Frac)) rfl Tryz.underlying144 Tryz.zeroValue57 rfl Tryz.sizeOf57 (par2 (v0 := Vg #[I (a.Num), I (a.Den)]) (v1 := Vg #[I (b.Num), I (b.Den)]) rfl rfl) rfl hS12 (RdVs.cons ((Rd.frac (a := a)).2 ⟨rfl, (by first | assumption | (constructor <;> (try dsimp only) <;> omega)), (by first | assumption | (constructor <;> (try dsimp only) <;> omega))⟩) (RdVs.cons ((Rd.frac (a := b)).2 ⟨rfl, (by first | assumption | (constructor <;> (try dsimp only) <;> omega)), (by first | assumption | (constructor <;> (try dsimp only) <;> omega))⟩) (RdVs.nil))) (by decide) (by decide) (fun v13 H14 hS15 hxx hvv13 => ?_)
 refine lo rfl ?_
 refine e_call rfl Tryz.call99 (arr1 (v0 := v13) rfl) (checked_F v13 ([a, b]) (hS15.rowN 0 rfl) ) ?_
 rintro _ H16 ⟨hxx, rfl⟩
 have hS17 := hS15.ext hxx
 refine lo rfl ?_
 refine e_alloc rfl Tryz.zeroValue32 hS17 (fun g19 H20 hS21 hxx => ?_)
 refine lo rfl ?_
 refine e_storeBlkA (cs' := #[I (((frsF ([a, b]))).1), I (((frsF ([a, b]))).2)]) rfl rfl rfl Tryz.sizeOf32 rfl rfl (fa rfl (fa rfl fe)) hS21 (fun H22 hS23 hxx => ?_)
 refine wpL_nil ?_
 refine wpF_seq ?_
 refine wpF_region ?_
 refine lq rfl (q_fieldAddr rfl Tryz.underlying32 rfl Tryz.sizeOf3 rfl) ?_
 refine lq rfl (q_loadBlk rfl rfl Tryz.isAgg3 (hS23.blk 0 rfl) rfl (fun h => h)) ?_
 refine lq rfl (q_neq rfl rfl rfl) ?_
 refine wpL_nil ?_
 refine wpF_condP rfl (fun h15 => ?t36) (fun h15 => ?e36)
 case t36 =>
  refine wpF_seq ?_
  refine wpF_drawn [none, none, some 0, some 1] [[], [0], [], []] (fun l b => match l with | 0 => b = g7 | 1 => True | _ => False) (by kernel_rfl) (by kernel_rfl) ?_
  refine rq 0 (by kernel_rfl) rfl rfl (q_build (v := Vg #[I (0), I (0)]) rfl par0 (fun w__ => by kernel_rfl)) ?_
  refine rq 1 (by kernel_rfl) rfl rfl (q_loadBlkA rfl rfl Tryz.isAgg32 Tryz.sizeOf32 rfl (hS23.blk 0 rfl) (labU_not [0] rfl (fa (fun hb => hS23.dis 0 3 (by decide) rfl rfl _ rfl hb) fe))) ?_
  refine wpR_n [2] (by kernel_rfl) ?_
  refine fa ?_ fe
  refine exE rfl rfl ?_
  refine e_storeBlkA (cs' := #[I (0), I (0)]) rfl rfl rfl Tryz.sizeOf57 rfl rfl (fa rfl (fa rfl fe)) (hS23.front 3 rfl) (fun H25o2 hS25o2 hxx => ?_)
  refine ⟨Ext.mono hxx (labS_of 0 rfl (fun b hb => hb)), ?_⟩
  refine wpR_n [3] (by kernel_rfl) ?_
  refine fa ?_ fe
  refine exE rfl rfl ?_
  refine e_storeBlkA (cs' := #[I (((frsF ([a, b]))).1), I (((frsF ([a, b]))).2)]) rfl rfl rfl Tryz.sizeOf32 rfl rfl (fa rfl (fa rfl fe)) (hS25o2.front 3 rfl) (fun H25o3 hS25o3 hxx => ?_)
  refine ⟨Ext.mono hxx (labS_of 1 rfl (fun _ _ => trivial)), ?_⟩
  refine wpR_end (by kernel_rfl) ?_
  skip
  refine wpF_ret ?_
  refine ⟨_, resC rfl (loadV_blkA Tryz.isAgg57 Tryz.sizeOf57 rfl (hS25o3.blk 1 rfl)) (resC rfl (loadV_blkA Tryz.isAgg32 Tryz.sizeOf32 rfl (hS25o3.blk 0 rfl)) (resN)), hS25o3.frame, ?_⟩
  show (Value.tuple #[Vg #[I (0), I (0)], Vg #[I (((frsF ([a, b]))).1), I (((frsF ([a, b]))).2)]]) = Value.tuple #[Vg #[I (applyF a b n d).1.Num, I (applyF a b n d).1.Den], Vg #[I (applyF a b n d).2.1, I (applyF a b n d).2.2]]
  have hq_ : applyF a b n d = _ := applyF_bad h15
  rw [hq_]
 refine wpF_skip ?_
 refine wpF_seq ?_
 refine wpF_region ?_
 refine lm (v := vf) rfl rfl y2 ?_
 refine lq rfl (q_loadBlkA rfl rfl Tryz.isAgg57 Tryz.sizeOf57 rfl (hS23.blk 5 rfl) (fun h => h)) ?_
 refine lq rfl (q_loadBlkA rfl rfl Tryz.isAgg57 Tryz.sizeOf57 rfl (hS23.blk 4 rfl) (fun h => h)) ?_
 refine lo rfl ?_
 refine e_callF rfl rfl (arr2 (v0 := Vg #[I (a.Num), I (a.Den)]) (v1 := Vg #[I (b.Num), I (b.Den)]) rfl rfl) ((hf h15).2 _ hS23.frame) ?_
 rintro _ H26 ⟨hxx, rfl⟩
 have hS27 := hS23.ext hxx
 refine lq rfl (q_extract (vs := #[I (n), I (d)]) (v := I (n)) rfl rfl rfl) ?_
 refine lq rfl (q_extract (vs := #[I (n), I (d)]) (v := I (d)) rfl rfl rfl) ?_
 refine lo rfl ?_
 refine e_call rfl Tryz.call109 (arr2 (v0 := I (n)) (v1 := I (d)) rfl rfl) (Make_F n d (hf h15).1.1 (hf h15).1.2 ) ?_
 rintro _ H29 ⟨hxx, rfl⟩
 have hS30 := hS27.ext hxx
 refine lq rfl (q_extract (vs := #[Vg #[I ((makeF n d).1.Num), I ((makeF n d).1.Den)], Vg #[I ((makeF n d).2.1), I ((makeF n d).2.2)]]) (v := Vg #[I ((makeF n d).1.Num), I ((makeF n d).1.Den)]) rfl rfl rfl) ?_
 refine lq rfl (q_extract (vs := #[Vg #[I ((makeF n d).1.Num), I ((makeF n d).1.Den)], Vg #[I ((makeF n d).2.1), I ((makeF n d).2.2)]]) (v := Vg #[I ((makeF n d).2.1), I ((makeF n d).2.2)]) rfl rfl rfl) ?_
 refine lo rfl ?_
 refine e_storeBlkA (cs' := #[I ((makeF n d).1.Num), I ((makeF n d).1.Den)]) rfl rfl rfl Tryz.sizeOf57 rfl rfl (fa rfl (fa rfl fe)) (hS30.front 3 rfl) (fun H32 hS33 hxx => ?_)
 refine lo rfl ?_
 refine e_storeBlkA (cs' := #[I ((makeF n d).2.1), I ((makeF n d).2.2)]) rfl rfl rfl Tryz.sizeOf32 rfl rfl (fa rfl (fa rfl fe)) (hS33.front 3 rfl) (fun H34 hS35 hxx => ?_)
 refine wpL_nil ?_
 refine wpF_ret ?_
 refine ⟨_, resC rfl (loadV_blkA Tryz.isAgg57 Tryz.sizeOf57 rfl (hS35.blk 1 rfl)) (resC rfl (loadV_blkA Tryz.isAgg32 Tryz.sizeOf32 rfl (hS35.blk 0 rfl)) (resN)), hS35.frame, ?_⟩
 show (Value.tuple #[Vg #[I ((makeF n d).1.Num), I ((makeF n d).1.Den)], Vg #[I ((makeF n d).2.1), I ((makeF n d).2.2)]]) = Value.tuple #[Vg #[I (applyF a b n d).1.Num, I (applyF a b n d).1.Den], Vg #[I (applyF a b n d).2.1, I (applyF a b n d).2.2]]
 have hq_ : applyF a b n d = _ := applyF_ok h15
 rw [hq_]
set_option maxRecDepth 100000 in
theorem Times_1 {H0 : Heap} (a b : Frac) (h6na : In64 a.Num) (h6da : In64 a.Den) (h6nb : In64 b.Num) (h6db : In64 b.Den) (ha : FrR a) (hb : FrR b) : CallsH Tryz.prog 107 #[Vg #[I (a.Num), I (a.Den)], Vg #[I (b.Num), I (b.Den)]] H0 (fun rv_ H' => Ext NoB H0 H' ∧ rv_ = Value.tuple #[I (a.Num * b.Num), I (a.Den * b.Den)]) := by
 have hS0 : St H0 NoB NoB [] H0 := St.start (fun _ h => h.elim)
 refine callsH_of_wpF (args := [Vg #[I (a.Num), I (a.Den)], Vg #[I (b.Num), I (b.Den)]]) (rs := [.tmp 4, .tmp 5]) Tryz.func107 rfl Tryz.ntmps107 Tryz.results107 (by kernel_rfl) (Nat.le_of_ble_eq_true rfl) ?_
 have y0 : argF [Vg #[I (a.Num), I (a.Den)], Vg #[I (b.Num), I (b.Den)]] 0 = Vg #[I (a.Num), I (a.Den)] := rfl
 have y1 : argF [Vg #[I (a.Num), I (a.Den)], Vg #[I (b.Num), I (b.Den)]] 1 = Vg #[I (b.Num), I (b.Den)] := rfl
 generalize argF [Vg #[I (a.Num), I (a.Den)], Vg #[I (b.Num), I (b.Den)]] = f0 at *
 refine wpF_seq ?_
 refine wpF_region ?_
 refine lo rfl ?_
 refine e_box (v := Vg #[I (a.Num), I (a.Den)]) rfl y0 hS0 (fun g1 H2 hS3 hxx => ?_)
 refine lo rfl ?_
 refine e_box (v := Vg #[I (b.Num), I (b.Den)]) rfl y1 hS3 (fun g4 H5 hS6 hxx => ?_)
 refine la (v := I (0)) rfl rfl rfl ?_
 refine la (v := I (0)) rfl rfl rfl ?_
 refine wpL_nil ?_
 refine wpF_seq ?_
 refine wpF_drawn [] [] (fun _ _ => False) (by kernel_rfl) (by kernel_rfl) ?_
 refine rq 0 (by kernel_rfl) rfl rfl (q_fieldAddr rfl Tryz.underlying57 rfl Tryz.sizeOf3 rfl) ?_
 refine rq 1 (by kernel_rfl) rfl rfl (q_loadBlk rfl rfl Tryz.isAgg3 (hS6.blk 1 rfl) rfl (labU_not [] rfl (fe))) ?_
 refine rq 2 (by kernel_rfl) rfl rfl (q_fieldAddr rfl Tryz.underlying57 rfl Tryz.sizeOf3 rfl) ?_
 refine rq 3 (by kernel_rfl) rfl rfl (q_loadBlk rfl rfl Tryz.isAgg3 (hS6.blk 0 rfl) rfl (labU_not [] rfl (fe))) ?_
 refine rq 4 (by kernel_rfl) rfl rfl (q_mul rfl rfl rfl (by have := mul30 ⟨ha.n1, ha.n2⟩ ⟨hb.n1, hb.n2⟩; constructor <;> omega)) ?_
 refine rq 5 (by kernel_rfl) rfl rfl (q_fieldAddr rfl Tryz.underlying57 rfl Tryz.sizeOf3 rfl) ?_
 refine rq 6 (by kernel_rfl) rfl rfl (q_loadBlk rfl rfl Tryz.isAgg3 (hS6.blk 1 rfl) rfl (labU_not [] rfl (fe))) ?_
 refine rq 7 (by kernel_rfl) rfl rfl (q_fieldAddr rfl Tryz.underlying57 rfl Tryz.sizeOf3 rfl) ?_
 refine rq 8 (by kernel_rfl) rfl rfl (q_loadBlk rfl rfl Tryz.isAgg3 (hS6.blk 0 rfl) rfl (labU_not [] rfl (fe))) ?_
 refine rq 9 (by kernel_rfl) rfl rfl (q_mul rfl rfl rfl (by have := mul30 (x := a.Den) (y := b.Den) ⟨by have := ha.d1; omega, ha.d2⟩ ⟨by have := hb.d1; omega, hb.d2⟩; constructor <;> omega)) ?_
 refine rq 10 (by kernel_rfl) rfl rfl (q_assign (v := I (a.Num * b.Num)) rfl rfl) ?_
 refine rq 11 (by kernel_rfl) rfl rfl (q_assign (v := I (a.Den * b.Den)) rfl rfl) ?_
 refine wpR_end (by kernel_rfl) ?_
 skip
 refine wpF_ret ?_
 refine ⟨_, resT rfl (resT rfl resN), hS6.frame, ?_⟩
 show (Value.tuple #[I (a.Num * b.Num), I (a.Den * b.Den)]) = Value.tuple #[I (a.Num * b.Num), I (a.Den * b.Den)]
 rfl
set_option maxRecDepth 100000 in
theorem Add_1 {H0 : Heap} (a b : Frac) (h6na : In64 a.Num) (h6da : In64 a.Den) (h6nb : In64 b.Num) (h6db : In64 b.Den) (ha : FrR a) (hb : FrR b) : CallsH Tryz.prog 108 #[Vg #[I (a.Num), I (a.Den)], Vg #[I (b.Num), I (b.Den)]] H0 (fun rv_ H' => Ext NoB H0 H' ∧ rv_ = Value.tuple #[I (a.Num * b.Den + b.Num * a.Den), I (a.Den * b.Den)]) := by
 have hS0 : St H0 NoB NoB [] H0 := St.start (fun _ h => h.elim)
 refine callsH_of_wpF (args := [Vg #[I (a.Num), I (a.Den)], Vg #[I (b.Num), I (b.Den)]]) (rs := [.tmp 4, .tmp 5]) Tryz.func108 rfl Tryz.ntmps108 Tryz.results108 (by kernel_rfl) (Nat.le_of_ble_eq_true rfl) ?_
 have y0 : argF [Vg #[I (a.Num), I (a.Den)], Vg #[I (b.Num), I (b.Den)]] 0 = Vg #[I (a.Num), I (a.Den)] := rfl
 have y1 : argF [Vg #[I (a.Num), I (a.Den)], Vg #[I (b.Num), I (b.Den)]] 1 = Vg #[I (b.Num), I (b.Den)] := rfl
 generalize argF [Vg #[I (a.Num), I (a.Den)], Vg #[I (b.Num), I (b.Den)]] = f0 at *
 refine wpF_seq ?_
 refine wpF_region ?_
 refine lo rfl ?_
 refine e_box (v := Vg #[I (a.Num), I (a.Den)]) rfl y0 hS0 (fun g1 H2 hS3 hxx => ?_)
 refine lo rfl ?_
 refine e_box (v := Vg #[I (b.Num), I (b.Den)]) rfl y1 hS3 (fun g4 H5 hS6 hxx => ?_)
 refine la (v := I (0)) rfl rfl rfl ?_
 refine la (v := I (0)) rfl rfl rfl ?_
 refine wpL_nil ?_
 refine wpF_seq ?_
 refine wpF_drawn [] [] (fun _ _ => False) (by kernel_rfl) (by kernel_rfl) ?_
 refine rq 0 (by kernel_rfl) rfl rfl (q_fieldAddr rfl Tryz.underlying57 rfl Tryz.sizeOf3 rfl) ?_
 refine rq 1 (by kernel_rfl) rfl rfl (q_loadBlk rfl rfl Tryz.isAgg3 (hS6.blk 1 rfl) rfl (labU_not [] rfl (fe))) ?_
 refine rq 2 (by kernel_rfl) rfl rfl (q_fieldAddr rfl Tryz.underlying57 rfl Tryz.sizeOf3 rfl) ?_
 refine rq 3 (by kernel_rfl) rfl rfl (q_loadBlk rfl rfl Tryz.isAgg3 (hS6.blk 0 rfl) rfl (labU_not [] rfl (fe))) ?_
 refine rq 4 (by kernel_rfl) rfl rfl (q_mul rfl rfl rfl (by have := mul30 (x := a.Num) (y := b.Den) ⟨ha.n1, ha.n2⟩ ⟨by have := hb.d1; omega, hb.d2⟩; constructor <;> omega)) ?_
 refine rq 5 (by kernel_rfl) rfl rfl (q_fieldAddr rfl Tryz.underlying57 rfl Tryz.sizeOf3 rfl) ?_
 refine rq 6 (by kernel_rfl) rfl rfl (q_loadBlk rfl rfl Tryz.isAgg3 (hS6.blk 0 rfl) rfl (labU_not [] rfl (fe))) ?_
 refine rq 7 (by kernel_rfl) rfl rfl (q_fieldAddr rfl Tryz.underlying57 rfl Tryz.sizeOf3 rfl) ?_
 refine rq 8 (by kernel_rfl) rfl rfl (q_loadBlk rfl rfl Tryz.isAgg3 (hS6.blk 1 rfl) rfl (labU_not [] rfl (fe))) ?_
 refine rq 9 (by kernel_rfl) rfl rfl (q_mul rfl rfl rfl (by have := mul30 (x := b.Num) (y := a.Den) ⟨hb.n1, hb.n2⟩ ⟨by have := ha.d1; omega, ha.d2⟩; constructor <;> omega)) ?_
 refine rq 10 (by kernel_rfl) rfl rfl (q_add rfl rfl rfl (by have h1 := mul30 (x := a.Num) (y := b.Den) ⟨ha.n1, ha.n2⟩ ⟨by have := hb.d1; omega, hb.d2⟩; have h2 := mul30 (x := b.Num) (y := a.Den) ⟨hb.n1, hb.n2⟩ ⟨by have := ha.d1; omega, ha.d2⟩; constructor <;> omega)) ?_
 refine rq 11 (by kernel_rfl) rfl rfl (q_fieldAddr rfl Tryz.underlying57 rfl Tryz.sizeOf3 rfl) ?_
 refine rq 12 (by kernel_rfl) rfl rfl (q_loadBlk rfl rfl Tryz.isAgg3 (hS6.blk 1 rfl) rfl (labU_not [] rfl (fe))) ?_
 refine rq 13 (by kernel_rfl) rfl rfl (q_fieldAddr rfl Tryz.underlying57 rfl Tryz.sizeOf3 rfl) ?_
 refine rq 14 (by kernel_rfl) rfl rfl (q_loadBlk rfl rfl Tryz.isAgg3 (hS6.blk 0 rfl) rfl (labU_not [] rfl (fe))) ?_
 refine rq 15 (by kernel_rfl) rfl rfl (q_mul rfl rfl rfl (by have := mul30 (x := a.Den) (y := b.Den) ⟨by have := ha.d1; omega, ha.d2⟩ ⟨by have := hb.d1; omega, hb.d2⟩; constructor <;> omega)) ?_
 refine rq 16 (by kernel_rfl) rfl rfl (q_assign (v := I ((a.Num * b.Den) + (b.Num * a.Den))) rfl rfl) ?_
 refine rq 17 (by kernel_rfl) rfl rfl (q_assign (v := I (a.Den * b.Den)) rfl rfl) ?_
 refine wpR_end (by kernel_rfl) ?_
 skip
 refine wpF_ret ?_
 refine ⟨_, resT rfl (resT rfl resN), hS6.frame, ?_⟩
 show (Value.tuple #[I ((a.Num * b.Den) + (b.Num * a.Den)), I (a.Den * b.Den)]) = Value.tuple #[I (a.Num * b.Den + b.Num * a.Den), I (a.Den * b.Den)]
 rfl
set_option maxRecDepth 100000 in
theorem Times_F {H0 : Heap} (a b : Frac) (h6na : In64 a.Num) (h6da : In64 a.Den) (h6nb : In64 b.Num) (h6db : In64 b.Den) : CallsH Tryz.prog 97 #[Vg #[I (a.Num), I (a.Den)], Vg #[I (b.Num), I (b.Den)]] H0 (fun rv_ H' => Ext NoB H0 H' ∧ rv_ = Value.tuple #[Vg #[I (timesF a b).1.Num, I (timesF a b).1.Den], Vg #[I (timesF a b).2.1, I (timesF a b).2.2]]) := by
 have hS0 : St H0 NoB NoB [] H0 := St.start (fun _ h => h.elim)
 refine callsH_of_wpF (args := [Vg #[I (a.Num), I (a.Den)], Vg #[I (b.Num), I (b.Den)]]) (rs := [.cell 4 57, .cell 5 32]) Tryz.func97 rfl Tryz.ntmps97 Tryz.results97 (by kernel_rfl) (Nat.le_of_ble_eq_true rfl) ?_
 have y0 : argF [Vg #[I (a.Num), I (a.Den)], Vg #[I (b.Num), I (b.Den)]] 0 = Vg #[I (a.Num), I (a.Den)] := rfl
 have y1 : argF [Vg #[I (a.Num), I (a.Den)], Vg #[I (b.Num), I (b.Den)]] 1 = Vg #[I (b.Num), I (b.Den)] := rfl
 generalize argF [Vg #[I (a.Num), I (a.Den)], Vg #[I (b.Num), I (b.Den)]] = f0 at *
 refine wpF_seq ?_
 refine wpF_region ?_
 refine lo rfl ?_
 refine e_box (v := Vg #[I (a.Num), I (a.Den)]) rfl y0 hS0 (fun g1 H2 hS3 hxx => ?_)
 refine lo rfl ?_
 refine e_box (v := Vg #[I (b.Num), I (b.Den)]) rfl y1 hS3 (fun g4 H5 hS6 hxx => ?_)
 refine lo rfl ?_
 refine e_alloc rfl Tryz.zeroValue57 hS6 (fun g7 H8 hS9 hxx => ?_)
 refine lo rfl ?_
 refine e_alloc rfl Tryz.zeroValue32 hS9 (fun g10 H11 hS12 hxx => ?_)
 refine wpL_nil ?_
 refine wpF_seq ?_
 refine wpF_region ?_
 refine lq rfl (q_loadBlkA rfl rfl Tryz.isAgg57 Tryz.sizeOf57 rfl (hS12.blk 3 rfl) (fun h => h)) ?_
 refine lq rfl (q_loadBlkA rfl rfl Tryz.isAgg57 Tryz.sizeOf57 rfl (hS12.blk 2 rfl) (fun h => h)) ?_
 refine lo rfl ?_
 refine e_call rfl Tryz.call106 (arr3 (v0 := Vg #[I (a.Num), I (a.Den)]) (v1 := Vg #[I (b.Num), I (b.Den)]) (v2 := Value.func (.func 107) #[] #[]) rfl rfl rfl) (apply_F (Value.func (.func 107) #[] #[]) a b (a.Num * b.Num) (a.Den * b.Den) (by first | assumption | (constructor <;> (try dsimp only) <;> omega)) (by first | assumption | (constructor <;> (try dsimp only) <;> omega)) (by first | assumption | (constructor <;> (try dsimp only) <;> omega)) (by first | assumption | (constructor <;> (try dsimp only) <;> omega)) (fun h => ⟨Times_1_in (frsF_two h).1 (frsF_two h).2, fun H hE => ⟨_, _, rfl, Tryz.call107, Times_1 a b (by first | assumption | (constructor <;> (try dsimp only) <;> omega)) (by first | assumption | (constructor <;> (try dsimp only) <;> omega)) (by first | assumption | (constructor <;> (try dsimp only) <;> omega)) (by first | assumption | (constructor <;> (try dsimp only) <;> omega)) (frsF_two h).1 (frsF_two h).2⟩⟩)) ?_
 rintro _ H13 ⟨hxx, rfl⟩
 have hS14 := hS12.ext hxx
 refine lq rfl (q_extract (vs := #[Vg #[I ((applyF a b (a.Num * b.Num) (a.Den * b.Den)).1.Num), I ((applyF a b (a.Num * b.Num) (a.Den * b.Den)).1.Den)], Vg #[I ((applyF a b (a.Num * b.Num) (a.Den * b.Den)).2.1), I ((applyF a b (a.Num * b.Num) (a.Den * b.Den)).2.2)]]) (v := Vg #[I ((applyF a b (a.Num * b.Num) (a.Den * b.Den)).1.Num), I ((applyF a b (a.Num * b.Num) (a.Den * b.Den)).1.Den)]) rfl rfl rfl) ?_
 refine lq rfl (q_extract (vs := #[Vg #[I ((applyF a b (a.Num * b.Num) (a.Den * b.Den)).1.Num), I ((applyF a b (a.Num * b.Num) (a.Den * b.Den)).1.Den)], Vg #[I ((applyF a b (a.Num * b.Num) (a.Den * b.Den)).2.1), I ((applyF a b (a.Num * b.Num) (a.Den * b.Den)).2.2)]]) (v := Vg #[I ((applyF a b (a.Num * b.Num) (a.Den * b.Den)).2.1), I ((applyF a b (a.Num * b.Num) (a.Den * b.Den)).2.2)]) rfl rfl rfl) ?_
 refine lo rfl ?_
 refine e_storeBlkA (cs' := #[I ((applyF a b (a.Num * b.Num) (a.Den * b.Den)).1.Num), I ((applyF a b (a.Num * b.Num) (a.Den * b.Den)).1.Den)]) rfl rfl rfl Tryz.sizeOf57 rfl rfl (fa rfl (fa rfl fe)) (hS14.front 1 rfl) (fun H16 hS17 hxx => ?_)
 refine lo rfl ?_
 refine e_storeBlkA (cs' := #[I ((applyF a b (a.Num * b.Num) (a.Den * b.Den)).2.1), I ((applyF a b (a.Num * b.Num) (a.Den * b.Den)).2.2)]) rfl rfl rfl Tryz.sizeOf32 rfl rfl (fa rfl (fa rfl fe)) (hS17.front 1 rfl) (fun H18 hS19 hxx => ?_)
 refine wpL_nil ?_
 refine wpF_ret ?_
 refine ⟨_, resC rfl (loadV_blkA Tryz.isAgg57 Tryz.sizeOf57 rfl (hS19.blk 1 rfl)) (resC rfl (loadV_blkA Tryz.isAgg32 Tryz.sizeOf32 rfl (hS19.blk 0 rfl)) (resN)), hS19.frame, ?_⟩
 show (Value.tuple #[Vg #[I ((applyF a b (a.Num * b.Num) (a.Den * b.Den)).1.Num), I ((applyF a b (a.Num * b.Num) (a.Den * b.Den)).1.Den)], Vg #[I ((applyF a b (a.Num * b.Num) (a.Den * b.Den)).2.1), I ((applyF a b (a.Num * b.Num) (a.Den * b.Den)).2.2)]]) = Value.tuple #[Vg #[I (timesF a b).1.Num, I (timesF a b).1.Den], Vg #[I (timesF a b).2.1, I (timesF a b).2.2]]
 rfl
set_option maxRecDepth 100000 in
theorem Add_F {H0 : Heap} (a b : Frac) (h6na : In64 a.Num) (h6da : In64 a.Den) (h6nb : In64 b.Num) (h6db : In64 b.Den) : CallsH Tryz.prog 98 #[Vg #[I (a.Num), I (a.Den)], Vg #[I (b.Num), I (b.Den)]] H0 (fun rv_ H' => Ext NoB H0 H' ∧ rv_ = Value.tuple #[Vg #[I (addF a b).1.Num, I (addF a b).1.Den], Vg #[I (addF a b).2.1, I (addF a b).2.2]]) := by
 have hS0 : St H0 NoB NoB [] H0 := St.start (fun _ h => h.elim)
 refine callsH_of_wpF (args := [Vg #[I (a.Num), I (a.Den)], Vg #[I (b.Num), I (b.Den)]]) (rs := [.cell 4 57, .cell 5 32]) Tryz.func98 rfl Tryz.ntmps98 Tryz.results98 (by kernel_rfl) (Nat.le_of_ble_eq_true rfl) ?_
 have y0 : argF [Vg #[I (a.Num), I (a.Den)], Vg #[I (b.Num), I (b.Den)]] 0 = Vg #[I (a.Num), I (a.Den)] := rfl
 have y1 : argF [Vg #[I (a.Num), I (a.Den)], Vg #[I (b.Num), I (b.Den)]] 1 = Vg #[I (b.Num), I (b.Den)] := rfl
 generalize argF [Vg #[I (a.Num), I (a.Den)], Vg #[I (b.Num), I (b.Den)]] = f0 at *
 refine wpF_seq ?_
 refine wpF_region ?_
 refine lo rfl ?_
 refine e_box (v := Vg #[I (a.Num), I (a.Den)]) rfl y0 hS0 (fun g1 H2 hS3 hxx => ?_)
 refine lo rfl ?_
 refine e_box (v := Vg #[I (b.Num), I (b.Den)]) rfl y1 hS3 (fun g4 H5 hS6 hxx => ?_)
 refine lo rfl ?_
 refine e_alloc rfl Tryz.zeroValue57 hS6 (fun g7 H8 hS9 hxx => ?_)
 refine lo rfl ?_
 refine e_alloc rfl Tryz.zeroValue32 hS9 (fun g10 H11 hS12 hxx => ?_)
 refine wpL_nil ?_
 refine wpF_seq ?_
 refine wpF_region ?_
 refine lq rfl (q_loadBlkA rfl rfl Tryz.isAgg57 Tryz.sizeOf57 rfl (hS12.blk 3 rfl) (fun h => h)) ?_
 refine lq rfl (q_loadBlkA rfl rfl Tryz.isAgg57 Tryz.sizeOf57 rfl (hS12.blk 2 rfl) (fun h => h)) ?_
 refine lo rfl ?_
 refine e_call rfl Tryz.call106 (arr3 (v0 := Vg #[I (a.Num), I (a.Den)]) (v1 := Vg #[I (b.Num), I (b.Den)]) (v2 := Value.func (.func 108) #[] #[]) rfl rfl rfl) (apply_F (Value.func (.func 108) #[] #[]) a b (a.Num * b.Den + b.Num * a.Den) (a.Den * b.Den) (by first | assumption | (constructor <;> (try dsimp only) <;> omega)) (by first | assumption | (constructor <;> (try dsimp only) <;> omega)) (by first | assumption | (constructor <;> (try dsimp only) <;> omega)) (by first | assumption | (constructor <;> (try dsimp only) <;> omega)) (fun h => ⟨Add_1_in (frsF_two h).1 (frsF_two h).2, fun H hE => ⟨_, _, rfl, Tryz.call108, Add_1 a b (by first | assumption | (constructor <;> (try dsimp only) <;> omega)) (by first | assumption | (constructor <;> (try dsimp only) <;> omega)) (by first | assumption | (constructor <;> (try dsimp only) <;> omega)) (by first | assumption | (constructor <;> (try dsimp only) <;> omega)) (frsF_two h).1 (frsF_two h).2⟩⟩)) ?_
 rintro _ H13 ⟨hxx, rfl⟩
 have hS14 := hS12.ext hxx
 refine lq rfl (q_extract (vs := #[Vg #[I ((applyF a b (a.Num * b.Den + b.Num * a.Den) (a.Den * b.Den)).1.Num), I ((applyF a b (a.Num * b.Den + b.Num * a.Den) (a.Den * b.Den)).1.Den)], Vg #[I ((applyF a b (a.Num * b.Den + b.Num * a.Den) (a.Den * b.Den)).2.1), I ((applyF a b (a.Num * b.Den + b.Num * a.Den) (a.Den * b.Den)).2.2)]]) (v := Vg #[I ((applyF a b (a.Num * b.Den + b.Num * a.Den) (a.Den * b.Den)).1.Num), I ((applyF a b (a.Num * b.Den + b.Num * a.Den) (a.Den * b.Den)).1.Den)]) rfl rfl rfl) ?_
 refine lq rfl (q_extract (vs := #[Vg #[I ((applyF a b (a.Num * b.Den + b.Num * a.Den) (a.Den * b.Den)).1.Num), I ((applyF a b (a.Num * b.Den + b.Num * a.Den) (a.Den * b.Den)).1.Den)], Vg #[I ((applyF a b (a.Num * b.Den + b.Num * a.Den) (a.Den * b.Den)).2.1), I ((applyF a b (a.Num * b.Den + b.Num * a.Den) (a.Den * b.Den)).2.2)]]) (v := Vg #[I ((applyF a b (a.Num * b.Den + b.Num * a.Den) (a.Den * b.Den)).2.1), I ((applyF a b (a.Num * b.Den + b.Num * a.Den) (a.Den * b.Den)).2.2)]) rfl rfl rfl) ?_
 refine lo rfl ?_
 refine e_storeBlkA (cs' := #[I ((applyF a b (a.Num * b.Den + b.Num * a.Den) (a.Den * b.Den)).1.Num), I ((applyF a b (a.Num * b.Den + b.Num * a.Den) (a.Den * b.Den)).1.Den)]) rfl rfl rfl Tryz.sizeOf57 rfl rfl (fa rfl (fa rfl fe)) (hS14.front 1 rfl) (fun H16 hS17 hxx => ?_)
 refine lo rfl ?_
 refine e_storeBlkA (cs' := #[I ((applyF a b (a.Num * b.Den + b.Num * a.Den) (a.Den * b.Den)).2.1), I ((applyF a b (a.Num * b.Den + b.Num * a.Den) (a.Den * b.Den)).2.2)]) rfl rfl rfl Tryz.sizeOf32 rfl rfl (fa rfl (fa rfl fe)) (hS17.front 1 rfl) (fun H18 hS19 hxx => ?_)
 refine wpL_nil ?_
 refine wpF_ret ?_
 refine ⟨_, resC rfl (loadV_blkA Tryz.isAgg57 Tryz.sizeOf57 rfl (hS19.blk 1 rfl)) (resC rfl (loadV_blkA Tryz.isAgg32 Tryz.sizeOf32 rfl (hS19.blk 0 rfl)) (resN)), hS19.frame, ?_⟩
 show (Value.tuple #[Vg #[I ((applyF a b (a.Num * b.Den + b.Num * a.Den) (a.Den * b.Den)).1.Num), I ((applyF a b (a.Num * b.Den + b.Num * a.Den) (a.Den * b.Den)).1.Den)], Vg #[I ((applyF a b (a.Num * b.Den + b.Num * a.Den) (a.Den * b.Den)).2.1), I ((applyF a b (a.Num * b.Den + b.Num * a.Den) (a.Den * b.Den)).2.2)]]) = Value.tuple #[Vg #[I (addF a b).1.Num, I (addF a b).1.Den], Vg #[I (addF a b).2.1, I (addF a b).2.2]]
 rfl
set_option maxHeartbeats 1000000 in
set_option maxRecDepth 100000 in
theorem Less_F {H0 : Heap} (a b : Frac) (h6na : In64 a.Num) (h6da : In64 a.Den) (h6nb : In64 b.Num) (h6db : In64 b.Den) : CallsH Tryz.prog 75 #[Vg #[I (a.Num), I (a.Den)], Vg #[I (b.Num), I (b.Den)]] H0 (fun rv_ H' => Ext NoB H0 H' ∧ ∃ c_ d_, rv_ = Value.tuple #[B (lessB a b), Vg #[I c_, I d_]]) := by
 have hS0 : St H0 NoB NoB [] H0 := St.start (fun _ h => h.elim)
 refine callsH_of_wpF (args := [Vg #[I (a.Num), I (a.Den)], Vg #[I (b.Num), I (b.Den)]]) (rs := [.tmp 4, .cell 5 32]) Tryz.func75 rfl Tryz.ntmps75 Tryz.results75 (by kernel_rfl) (Nat.le_of_ble_eq_true rfl) ?_
 have y0 : argF [Vg #[I (a.Num), I (a.Den)], Vg #[I (b.Num), I (b.Den)]] 0 = Vg #[I (a.Num), I (a.Den)] := rfl
 have y1 : argF [Vg #[I (a.Num), I (a.Den)], Vg #[I (b.Num), I (b.Den)]] 1 = Vg #[I (b.Num), I (b.Den)] := rfl
 generalize argF [Vg #[I (a.Num), I (a.Den)], Vg #[I (b.Num), I (b.Den)]] = f0 at *
 refine wpF_seq ?_
 refine wpF_region ?_
 refine lo rfl ?_
 refine e_box (v := Vg #[I (a.Num), I (a.Den)]) rfl y0 hS0 (fun g1 H2 hS3 hxx => ?_)
 refine lo rfl ?_
 refine e_box (v := Vg #[I (b.Num), I (b.Den)]) rfl y1 hS3 (fun g4 H5 hS6 hxx => ?_)
 refine la (v := B (false)) rfl rfl rfl ?_
 refine lo rfl ?_
 refine e_alloc rfl Tryz.zeroValue32 hS6 (fun g7 H8 hS9 hxx => ?_)
 refine wpL_nil ?_
 refine wpF_seq ?_
 refine wpF_seq ?_
 refine wpF_region ?_
 refine lq rfl (q_loadBlkA rfl rfl Tryz.isAgg57 Tryz.sizeOf57 rfl (hS9.blk 2 rfl) (fun h => h)) ?_
 refine lq rfl (q_loadBlkA rfl rfl Tryz.isAgg57 Tryz.sizeOf57 rfl (hS9.blk 1 rfl) (fun h => h)) ?_
 refine lo rfl ?_
 refine e_buildSlice (vs := [Vg #[I (a.Num), I (a.Den)], Vg #[I (b.Num), I (b.Den)]]) (xs := ([a, b] : List Frac)) rfl Tryz.underlying144 Tryz.zeroValue57 rfl Tryz.sizeOf57 (par2 (v0 := Vg #[I (a.Num), I (a.Den)]) (v1 := Vg #[I (b.Num), I (b.Den)]) rfl rfl) rfl hS9 (RdVs.cons ((Rd.frac (a := a)).2 ⟨rfl, (by first | assumption | (constructor <;> (try dsimp only) <;> omega)), (by first | assumption | (constructor <;> (try dsimp only) <;> omega))⟩) (RdVs.cons ((Rd.frac (a := b)).2 ⟨rfl, (by first | assumption | (constructor <;> (try dsimp only) <;> omega)), (by first | assumption | (constructor <;> (try dsimp only) <;> omega))⟩) (RdVs.nil))) (by decide) (by decide) (fun v10 H11 hS12 hxx hvv10 => ?_)
 refine lo rfl ?_
 refine e_call rfl Tryz.call99 (arr1 (v0 := v10) rfl) (checked_F v10 ([a, b]) (hS12.rowN 0 rfl) ) ?_
 rintro _ H13 ⟨hxx, rfl⟩
 have hS14 := hS12.ext hxx
 refine lo rfl ?_
 refine e_alloc rfl Tryz.zeroValue32 hS14 (fun g16 H17 hS18 hxx => ?_)
 refine lo rfl ?_
 refine e_storeBlkA (cs' := #[I (((frsF ([a, b]))).1), I (((frsF ([a, b]))).2)]) rfl rfl rfl Tryz.sizeOf32 rfl rfl (fa rfl (fa rfl fe)) hS18 (fun H19 hS20 hxx => ?_)
 refine wpL_nil ?_
 refine wpF_seq ?_
 refine wpF_region ?_
 refine lq rfl (q_fieldAddr rfl Tryz.underlying32 rfl Tryz.sizeOf3 rfl) ?_
 refine lq rfl (q_loadBlk rfl rfl Tryz.isAgg3 (hS20.blk 0 rfl) rfl (fun h => h)) ?_
 refine lq rfl (q_neq rfl rfl rfl) ?_
 refine wpL_nil ?_
 refine wpF_condP rfl (fun h13 => ?t25) (fun h13 => ?e25)
 case t25 =>
  refine wpF_seq ?_
  refine wpF_drawn [none, none, some 0] [[], [], []] (fun l b => match l with | 0 => True | _ => False) (by kernel_rfl) (by kernel_rfl) ?_
  refine rq 0 (by kernel_rfl) rfl rfl (q_loadBlkA rfl rfl Tryz.isAgg32 Tryz.sizeOf32 rfl (hS20.blk 0 rfl) (labU_not [] rfl (fe))) ?_
  refine rq 1 (by kernel_rfl) rfl rfl (q_assign (v := B (false)) rfl rfl) ?_
  refine wpR_n [2] (by kernel_rfl) ?_
  refine fa ?_ fe
  refine exE rfl rfl ?_
  refine e_storeBlkA (cs' := #[I (((frsF ([a, b]))).1), I (((frsF ([a, b]))).2)]) rfl rfl rfl Tryz.sizeOf32 rfl rfl (fa rfl (fa rfl fe)) (hS20.front 2 rfl) (fun H22o2 hS22o2 hxx => ?_)
  refine ⟨Ext.mono hxx (labS_of 0 rfl (fun _ _ => trivial)), ?_⟩
  refine wpR_end (by kernel_rfl) ?_
  skip
  refine wpF_ret ?_
  refine ⟨_, resT rfl (resC rfl (loadV_blkA Tryz.isAgg32 Tryz.sizeOf32 rfl (hS22o2.blk 0 rfl)) (resN)), hS22o2.frame, ?_⟩
  show ∃ c_ d_, (Value.tuple #[B (false), Vg #[I (((frsF ([a, b]))).1), I (((frsF ([a, b]))).2)]]) = Value.tuple #[B (lessB a b), Vg #[I c_, I d_]]
  exact ⟨_, _, by rw [lessB_bad h13]⟩
 obtain ⟨ha, hb⟩ := frsF_two h13
 refine wpF_skip ?_
 refine wpF_seq ?_
 refine wpF_region ?_
 refine lq rfl (q_fieldAddr rfl Tryz.underlying57 rfl Tryz.sizeOf3 rfl) ?_
 refine lq rfl (q_loadBlk rfl rfl Tryz.isAgg3 (hS20.blk 4 rfl) rfl (fun h => h)) ?_
 refine lq rfl (q_fieldAddr rfl Tryz.underlying57 rfl Tryz.sizeOf3 rfl) ?_
 refine lq rfl (q_loadBlk rfl rfl Tryz.isAgg3 (hS20.blk 3 rfl) rfl (fun h => h)) ?_
 refine lq rfl (q_mul rfl rfl rfl (by have := mul30 (x := a.Num) (y := b.Den) ⟨ha.n1, ha.n2⟩ ⟨by have := hb.d1; omega, hb.d2⟩; constructor <;> omega)) ?_
 refine lq rfl (q_fieldAddr rfl Tryz.underlying57 rfl Tryz.sizeOf3 rfl) ?_
 refine lq rfl (q_loadBlk rfl rfl Tryz.isAgg3 (hS20.blk 3 rfl) rfl (fun h => h)) ?_
 refine lq rfl (q_fieldAddr rfl Tryz.underlying57 rfl Tryz.sizeOf3 rfl) ?_
 refine lq rfl (q_loadBlk rfl rfl Tryz.isAgg3 (hS20.blk 4 rfl) rfl (fun h => h)) ?_
 refine lq rfl (q_mul rfl rfl rfl (by have := mul30 (x := b.Num) (y := a.Den) ⟨hb.n1, hb.n2⟩ ⟨by have := ha.d1; omega, ha.d2⟩; constructor <;> omega)) ?_
 refine lq rfl (q_lss rfl rfl rfl) ?_
 refine lq rfl (q_build (v := Vg #[I (0), I (0)]) rfl par0 (fun w__ => by kernel_rfl)) ?_
 refine la (v := B (decide ((a.Num * b.Den) < (b.Num * a.Den)))) rfl rfl rfl ?_
 refine lo rfl ?_
 refine e_storeBlkA (cs' := #[I (0), I (0)]) rfl rfl rfl Tryz.sizeOf32 rfl rfl (fa rfl (fa rfl fe)) (hS20.front 2 rfl) (fun H23 hS24 hxx => ?_)
 refine wpL_nil ?_
 refine wpF_ret ?_
 refine ⟨_, resT rfl (resC rfl (loadV_blkA Tryz.isAgg32 Tryz.sizeOf32 rfl (hS24.blk 0 rfl)) (resN)), hS24.frame, ?_⟩
 show ∃ c_ d_, (Value.tuple #[B (decide ((a.Num * b.Den) < (b.Num * a.Den))), Vg #[I (0), I (0)]]) = Value.tuple #[B (lessB a b), Vg #[I c_, I d_]]
 exact ⟨_, _, by rw [lessB_ok h13]⟩
set_option maxRecDepth 100000 in
theorem width_W {H0 : Heap} (b : Int)  : CallsH Tryz.prog 100 #[I (b)] H0 (fun rv_ H' => Ext NoB H0 H' ∧ rv_ = B (decide (1 ≤ b ∧ b ≤ 8))) := by
 have hS0 : St H0 NoB NoB [] H0 := St.start (fun _ h => h.elim)
 refine callsH_of_wpF (args := [I (b)]) (rs := [.tmp 2]) Tryz.func100 rfl Tryz.ntmps100 Tryz.results100 (by kernel_rfl) (Nat.le_of_ble_eq_true rfl) ?_
 have y0 : argF [I (b)] 0 = I (b) := rfl
 generalize argF [I (b)] = f0 at *
 refine wpF_seq ?_
 refine wpF_region ?_
 refine la (v := B (false)) rfl rfl rfl ?_
 refine wpL_nil ?_
 refine fcr (fun f H => f 2 = B (decide ((1 ≤ b) ∧ (b ≤ 8))) ∧ H0 = H) ?_ ?_
 ·refine lm (v := I (b)) rfl rfl y0 ?_
  refine lq rfl (q_geq rfl rfl rfl) ?_
  refine lm (v := B (decide (1 ≤ b))) rfl rfl rfl ?_
  by_cases hg1 : 1 ≤ b
  ·have hb2 := Eq.trans rfl (congrArg B (decide_eq_true hg1))
   refine gq rfl rfl rfl hb2 (q_move (v := I (b)) rfl y0) ?_
   refine gq rfl rfl rfl hb2 (q_leq rfl rfl rfl) ?_
   refine lq rfl (q_pickT (v := B (decide (b ≤ 8))) rfl hb2 rfl) ?_
   refine la (v := B (decide (b ≤ 8))) rfl rfl rfl ?_
   exact ⟨(Eq.trans rfl (congrArg B (decide_congr_of ((Iff.rfl).trans (((and_iff_right hg1).trans Iff.rfl)).symm)))), rfl⟩
  ·have hb3 := Eq.trans rfl (congrArg B (decide_eq_false hg1))
   refine wpL_gs rfl rfl rfl hb3 rfl ?_
   refine wpL_gs rfl rfl rfl hb3 rfl ?_
   refine lq rfl (q_pickF (v := B (false)) rfl hb3 rfl) ?_
   refine la (v := B (false)) rfl rfl rfl ?_
   exact ⟨(Eq.trans rfl (congrArg B ((decide_eq_false (fun h => hg1 h.1)).symm))), rfl⟩
 clear y0
 rintro f4 _ ⟨y2, rfl⟩
 refine wpF_ret ?_
 refine ⟨_, resT y2 resN, hS0.frame, ?_⟩
 show (B (decide ((1 ≤ b) ∧ (b ≤ 8)))) = B (decide (1 ≤ b ∧ b ≤ 8))
 rfl
set_option maxRecDepth 100000 in
theorem operands_W {H0 : Heap} (op : Int)  : CallsH Tryz.prog 101 #[I (op)] H0 (fun rv_ H' => Ext NoB H0 H' ∧ rv_ = I (opsW op)) := by
 have hS0 : St H0 NoB NoB [] H0 := St.start (fun _ h => h.elim)
 refine callsH_of_wpF (args := [I (op)]) (rs := [.tmp 2]) Tryz.func101 rfl Tryz.ntmps101 Tryz.results101 (by kernel_rfl) (Nat.le_of_ble_eq_true rfl) ?_
 have y0 : argF [I (op)] 0 = I (op) := rfl
 generalize argF [I (op)] = f0 at *
 refine wpF_seq ?_
 refine wpF_region ?_
 refine la (v := I (0)) rfl rfl rfl ?_
 refine wpL_nil ?_
 refine wpF_seq ?_
 refine wpF_seq ?_
 refine wpF_region ?_
 refine lm (v := I (op)) rfl rfl y0 ?_
 refine wpL_nil ?_
 refine wpF_block ?_
 refine wpF_seq ?_
 refine wpF_region ?_
 refine lq rfl (q_eql rfl rfl rfl) ?_
 refine la (v := B (decide (op = 15))) rfl rfl rfl ?_
 refine wpL_nil ?_
 refine wpF_condP rfl (fun hp1 => ?t6) (fun hp1 => ?e6)
 case t6 =>
  refine wpF_seq ?_
  refine wpF_region ?_
  refine la (v := I (0)) rfl rfl rfl ?_
  refine wpL_nil ?_
  refine wpF_ret ?_
  refine ⟨_, resT rfl resN, hS0.frame, ?_⟩
  show (I (0)) = I (opsW op)
  exact congrArg I (by rw [opsW, hp1]; rfl)
 refine wpF_seq ?_
 refine wpF_seq ?_
 refine wpF_region ?_
 refine lq rfl (q_eql rfl rfl rfl) ?_
 refine la (v := B (decide (op = 16))) rfl rfl rfl ?_
 refine wpL_nil ?_
 refine wpF_condP rfl (fun hp2 => ?t5) (fun hp2 => ?e5)
 case t5 =>
  refine wpF_skip ?_
  refine wpF_condT (Eq.trans rfl (congrArg B (decide_eq_true hp2))) ?_
  refine wpF_seq ?_
  refine wpF_region ?_
  refine la (v := I (1)) rfl rfl rfl ?_
  refine wpL_nil ?_
  refine wpF_ret ?_
  refine ⟨_, resT rfl resN, hS0.frame, ?_⟩
  show (I (1)) = I (opsW op)
  exact congrArg I (by rw [opsW, hp2]; rfl)
 refine wpF_region ?_
 refine lq rfl (q_eql rfl rfl rfl) ?_
 refine la (v := B (decide (op = 23))) rfl rfl rfl ?_
 refine wpL_nil ?_
 refine wpF_condP rfl (fun hp3 => ?t4) (fun hp3 => ?e4)
 case t4 =>
  refine wpF_seq ?_
  refine wpF_region ?_
  refine la (v := I (1)) rfl rfl rfl ?_
  refine wpL_nil ?_
  refine wpF_ret ?_
  refine ⟨_, resT rfl resN, hS0.frame, ?_⟩
  show (I (1)) = I (opsW op)
  exact congrArg I (by rw [opsW, hp3]; rfl)
 refine wpF_skip ?_
 refine wpF_seq ?_
 refine wpF_region ?_
 refine la (v := I (2)) rfl rfl rfl ?_
 refine wpL_nil ?_
 refine wpF_ret ?_
 refine ⟨_, resT rfl resN, hS0.frame, ?_⟩
 show (I (2)) = I (opsW op)
 exact congrArg I (by rw [opsW, if_neg hp1, if_neg hp2, if_neg hp3])
set_option maxRecDepth 100000 in
theorem in_W {H0 : Heap} (w b : Int) (hb : 1 ≤ b ∧ b ≤ 8) : CallsH Tryz.prog 102 #[I (w), I (b)] H0 (fun rv_ H' => Ext NoB H0 H' ∧ rv_ = B (decide (inW w b))) := by
 have hS0 : St H0 NoB NoB [] H0 := St.start (fun _ h => h.elim)
 refine callsH_of_wpF (args := [I (w), I (b)]) (rs := [.tmp 4]) Tryz.func102 rfl Tryz.ntmps102 Tryz.results102 (by kernel_rfl) (Nat.le_of_ble_eq_true rfl) ?_
 have y0 : argF [I (w), I (b)] 0 = I (w) := rfl
 have y1 : argF [I (w), I (b)] 1 = I (b) := rfl
 generalize argF [I (w), I (b)] = f0 at *
 refine wpF_seq ?_
 refine wpF_region ?_
 refine la (v := B (false)) rfl rfl rfl ?_
 refine wpL_nil ?_
 refine fcr (fun f H => f 4 = B (decide ((0 ≤ w) ∧ (w < ((2 ^ ((b).toNat) : Nat) : Int)))) ∧ H0 = H) ?_ ?_
 ·refine lm (v := I (w)) rfl rfl y0 ?_
  refine lq rfl (q_geq rfl rfl rfl) ?_
  refine lm (v := B (decide (0 ≤ w))) rfl rfl rfl ?_
  by_cases hg1 : 0 ≤ w
  ·have hb2 := Eq.trans rfl (congrArg B (decide_eq_true hg1))
   refine gq rfl rfl rfl hb2 (q_move (v := I (w)) rfl y0) ?_
   refine gq rfl rfl rfl hb2 (q_move (v := I (b)) rfl y1) ?_
   refine gq rfl rfl rfl hb2 (q_shl1 rfl rfl rfl (by omega) (by omega)) ?_
   refine gq rfl rfl rfl hb2 (q_lss rfl rfl rfl) ?_
   refine lq rfl (q_pickT (v := B (decide (w < ((2 ^ ((b).toNat) : Nat) : Int)))) rfl hb2 rfl) ?_
   refine la (v := B (decide (w < ((2 ^ ((b).toNat) : Nat) : Int)))) rfl rfl rfl ?_
   exact ⟨(Eq.trans rfl (congrArg B (decide_congr_of ((Iff.rfl).trans (((and_iff_right hg1).trans Iff.rfl)).symm)))), rfl⟩
  ·have hb3 := Eq.trans rfl (congrArg B (decide_eq_false hg1))
   refine wpL_gs rfl rfl rfl hb3 rfl ?_
   refine wpL_gs rfl rfl rfl hb3 rfl ?_
   refine wpL_gs rfl rfl rfl hb3 rfl ?_
   refine wpL_gs rfl rfl rfl hb3 rfl ?_
   refine lq rfl (q_pickF (v := B (false)) rfl hb3 rfl) ?_
   refine la (v := B (false)) rfl rfl rfl ?_
   exact ⟨(Eq.trans rfl (congrArg B ((decide_eq_false (fun h => hg1 h.1)).symm))), rfl⟩
 clear y0 y1
 rintro f4 _ ⟨y4, rfl⟩
 refine wpF_ret ?_
 refine ⟨_, resT y4 resN, hS0.frame, ?_⟩
 show (B (decide ((0 ≤ w) ∧ (w < ((2 ^ ((b).toNat) : Nat) : Int))))) = B (decide (inW w b))
 rfl
set_option maxRecDepth 100000 in
theorem fits_W {H0 : Heap} (op b n : Int) (hb : 1 ≤ b ∧ b ≤ 8) : CallsH Tryz.prog 103 #[I (op), I (b), I (n)] H0 (fun rv_ H' => Ext NoB H0 H' ∧ rv_ = B (fitsW op b n)) := by
 have hS0 : St H0 NoB NoB [] H0 := St.start (fun _ h => h.elim)
 refine callsH_of_wpF (args := [I (op), I (b), I (n)]) (rs := [.tmp 6]) Tryz.func103 rfl Tryz.ntmps103 Tryz.results103 (by kernel_rfl) (Nat.le_of_ble_eq_true rfl) ?_
 have y0 : argF [I (op), I (b), I (n)] 0 = I (op) := rfl
 have y1 : argF [I (op), I (b), I (n)] 1 = I (b) := rfl
 have y2 : argF [I (op), I (b), I (n)] 2 = I (n) := rfl
 generalize argF [I (op), I (b), I (n)] = f0 at *
 refine wpF_seq ?_
 refine wpF_region ?_
 refine la (v := B (false)) rfl rfl rfl ?_
 refine wpL_nil ?_
 refine wpF_seq ?_
 refine wpF_seq ?_
 refine wpF_region ?_
 refine lm (v := I (op)) rfl rfl y0 ?_
 refine wpL_nil ?_
 refine wpF_block ?_
 refine wpF_seq ?_
 refine wpF_region ?_
 refine lq rfl (q_eql rfl rfl rfl) ?_
 refine la (v := B (decide (op = 15))) rfl rfl rfl ?_
 refine wpL_nil ?_
 refine wpF_condP rfl (fun hp1 => ?t11) (fun hp1 => ?e11)
 case t11 =>
  refine wpF_seq ?_
  refine wpF_region ?_
  refine lm (v := I (n)) rfl rfl y2 ?_
  refine lm (v := I (b)) rfl rfl y1 ?_
  refine lo rfl ?_
  refine e_call rfl Tryz.call102 (arr2 (v0 := I (n)) (v1 := I (b)) rfl rfl) (in_W n b hb) ?_
  rintro _ H2 ⟨hxx, rfl⟩
  have hS3 := hS0.ext hxx
  refine la (v := B (decide (inW n b))) rfl rfl rfl ?_
  refine wpL_nil ?_
  refine wpF_ret ?_
  refine ⟨_, resT rfl resN, hS3.frame, ?_⟩
  show (B (decide (inW n b))) = B (fitsW op b n)
  exact congrArg B (by rw [fitsW, hp1]; rfl)
 refine wpF_seq ?_
 refine wpF_region ?_
 refine lq rfl (q_eql rfl rfl rfl) ?_
 refine la (v := B (decide (op = 23))) rfl rfl rfl ?_
 refine wpL_nil ?_
 refine wpF_condP rfl (fun hp5 => ?t10) (fun hp5 => ?e10)
 case e10 =>
  refine wpF_skip ?_
  refine wpF_seq ?_
  refine wpF_region ?_
  refine lm (v := I (n)) rfl rfl y2 ?_
  refine lq rfl (q_eql rfl rfl rfl) ?_
  refine la (v := B (decide (n = 0))) rfl rfl rfl ?_
  refine wpL_nil ?_
  refine wpF_ret ?_
  refine ⟨_, resT rfl resN, hS0.frame, ?_⟩
  show (B (decide (n = 0))) = B (fitsW op b n)
  exact congrArg B (by rw [fitsW, if_neg hp1, if_neg hp5])
 refine fcr (fun f H => f 6 = B (decide ((0 ≤ n) ∧ (n ≤ 8))) ∧ H0 = H) ?_ ?_
 ·refine lm (v := I (n)) rfl rfl y2 ?_
  refine lq rfl (q_geq rfl rfl rfl) ?_
  refine lm (v := B (decide (0 ≤ n))) rfl rfl rfl ?_
  by_cases hg6 : 0 ≤ n
  ·have hb7 := Eq.trans rfl (congrArg B (decide_eq_true hg6))
   refine gq rfl rfl rfl hb7 (q_move (v := I (n)) rfl y2) ?_
   refine gq rfl rfl rfl hb7 (q_leq rfl rfl rfl) ?_
   refine lq rfl (q_pickT (v := B (decide (n ≤ 8))) rfl hb7 rfl) ?_
   refine la (v := B (decide (n ≤ 8))) rfl rfl rfl ?_
   exact ⟨(Eq.trans rfl (congrArg B (decide_congr_of ((Iff.rfl).trans (((and_iff_right hg6).trans Iff.rfl)).symm)))), rfl⟩
  ·have hb8 := Eq.trans rfl (congrArg B (decide_eq_false hg6))
   refine wpL_gs rfl rfl rfl hb8 rfl ?_
   refine wpL_gs rfl rfl rfl hb8 rfl ?_
   refine lq rfl (q_pickF (v := B (false)) rfl hb8 rfl) ?_
   refine la (v := B (false)) rfl rfl rfl ?_
   exact ⟨(Eq.trans rfl (congrArg B ((decide_eq_false (fun h => hg6 h.1)).symm))), rfl⟩
 clear y2
 rintro f9 _ ⟨y6, rfl⟩
 refine wpF_ret ?_
 refine ⟨_, resT y6 resN, hS0.frame, ?_⟩
 show (B (decide ((0 ≤ n) ∧ (n ≤ 8)))) = B (fitsW op b n)
 exact congrArg B (by rw [fitsW, hp5]; rfl)
set_option maxHeartbeats 4000000 in
set_option maxRecDepth 100000 in
theorem Do_W {H0 : Heap} (vl : Value) (op b : Int) (l : List Int) (n : Int) (rl : Rd NoB H0 vl l) : CallsH Tryz.prog 79 #[I (op), I (b), vl, I (n)] H0 (fun rv_ H' => Ext NoB H0 H' ∧ ∃ c_ d_, rv_ = Value.tuple #[I (wordV op b l n), Vg #[I c_, I d_]] ∧ In64 (wordV op b l n)) := by
 have hsm := (Rd.list.1 rl).small
 have hS0 : St H0 NoB NoB [rdE vl l] H0 := St.arg (St.start (fun _ h => h.elim)) (Bl0.nil) rl (fun _ h => h)
 refine callsH_of_wpF (args := [I (op), I (b), vl, I (n)]) (rs := [.tmp 8, .cell 9 32]) Tryz.func79 rfl Tryz.ntmps79 Tryz.results79 (by kernel_rfl) (Nat.le_of_ble_eq_true rfl) ?_
 have y0 : argF [I (op), I (b), vl, I (n)] 0 = I (op) := rfl
 have y1 : argF [I (op), I (b), vl, I (n)] 1 = I (b) := rfl
 have y2 : argF [I (op), I (b), vl, I (n)] 2 = vl := rfl
 have y3 : argF [I (op), I (b), vl, I (n)] 3 = I (n) := rfl
 generalize argF [I (op), I (b), vl, I (n)] = f0 at *
 refine wpF_seq ?_
 refine wpF_region ?_
 refine la (v := I (0)) rfl rfl rfl ?_
 refine lo rfl ?_
 refine e_alloc rfl Tryz.zeroValue32 hS0 (fun g1 H2 hS3 hxx => ?_)
 refine wpL_nil ?_
 refine wpF_seq ?_
 refine wpF_block ?_
 refine fcr (fun f H => f 0 = I (op) ∧ f 1 = I (b) ∧ f 2 = vl ∧ f 3 = I (n) ∧ f 9 = PT g1 0 ∧ f 13 = B (decide ((op < 15) ∨ (23 < op))) ∧ H2 = H) ?_ ?_
 ·refine lm (v := I (op)) rfl rfl y0 ?_
  refine lq rfl (q_lss rfl rfl rfl) ?_
  refine lm (v := B (decide (op < 15))) rfl rfl rfl ?_
  by_cases hg4 : op < 15
  ·have hb5 := Eq.trans rfl (congrArg B (decide_eq_true hg4))
   refine wpL_gs rfl rfl rfl hb5 rfl ?_
   refine wpL_gs rfl rfl rfl hb5 rfl ?_
   refine lq rfl (q_pickT (v := B (true)) rfl hb5 rfl) ?_
   refine la (v := B (true)) rfl rfl rfl ?_
   exact ⟨y0, y1, y2, y3, rfl, (Eq.trans rfl (congrArg B ((decide_eq_true (Or.inl hg4)).symm))), rfl⟩
  ·have hb6 := Eq.trans rfl (congrArg B (decide_eq_false hg4))
   refine gq rfl rfl rfl hb6 (q_move (v := I (op)) rfl y0) ?_
   refine gq rfl rfl rfl hb6 (q_gtr rfl rfl rfl) ?_
   refine lq rfl (q_pickF (v := B (decide (23 < op))) rfl hb6 rfl) ?_
   refine la (v := B (decide (23 < op))) rfl rfl rfl ?_
   exact ⟨y0, y1, y2, y3, rfl, (Eq.trans rfl (congrArg B (decide_congr_of ((Iff.rfl).trans (((or_iff_right hg4).trans Iff.rfl)).symm)))), rfl⟩
 clear y0 y1 y2 y3
 rintro f7 _ ⟨y0, y1, y2, y3, y9, y13, rfl⟩
 refine wpF_condP y13 (fun h13 => ?t69) (fun h13 => ?e69)
 case t69 =>
  refine wpF_seq ?_
  refine wpF_region ?_
  refine lq rfl (q_build (v := Vg #[I (4), I (0)]) rfl (par1 (v0 := I (4)) rfl) (fun w__ => by kernel_rfl)) ?_
  refine la (v := I (0)) rfl rfl rfl ?_
  refine lo rfl ?_
  refine e_storeBlkA (cs' := #[I (4), I (0)]) rfl y9 rfl Tryz.sizeOf32 rfl rfl (fa rfl (fa rfl fe)) hS3 (fun H9 hS10 hxx => ?_)
  refine wpL_nil ?_
  refine wpF_ret ?_
  refine ⟨_, resT rfl (resC y9 (loadV_blkA Tryz.isAgg32 Tryz.sizeOf32 rfl (hS10.blk 0 rfl)) (resN)), hS10.frame, ?_⟩
  show ∃ c_ d_, (Value.tuple #[I (0), Vg #[I (4), I (0)]]) = Value.tuple #[I (wordV op b l n), Vg #[I c_, I d_]] ∧ In64 (wordV op b l n)
  have hq_ : wordV op b l n = _ := wordV_op h13
  exact ⟨_, _, by rw [hq_], by rw [hq_]; exact (by constructor <;> decide : In64 0)⟩
 refine wpF_seq ?_
 refine wpF_region ?_
 refine lm (v := I (b)) rfl rfl y1 ?_
 refine lo rfl ?_
 refine e_call rfl Tryz.call100 (arr1 (v0 := I (b)) rfl) (width_W b) ?_
 rintro _ H11 ⟨hxx, rfl⟩
 have hS12 := hS3.ext hxx
 refine lq rfl (q_notP rfl rfl) ?_
 refine la (v := B (decide (¬ (1 ≤ b ∧ b ≤ 8)))) rfl rfl rfl ?_
 refine wpL_nil ?_
 refine wpF_condP rfl (fun h21 => ?t68) (fun h21 => ?e68)
 case t68 =>
  refine wpF_seq ?_
  refine wpF_region ?_
  refine lq rfl (q_build (v := Vg #[I (3), I (-1)]) rfl (par2 (v0 := I (3)) (v1 := I (-1)) rfl rfl) (fun w__ => by kernel_rfl)) ?_
  refine la (v := I (0)) rfl rfl rfl ?_
  refine lo rfl ?_
  refine e_storeBlkA (cs' := #[I (3), I (-1)]) rfl y9 rfl Tryz.sizeOf32 rfl rfl (fa rfl (fa rfl fe)) hS12 (fun H15 hS16 hxx => ?_)
  refine wpL_nil ?_
  refine wpF_ret ?_
  refine ⟨_, resT rfl (resC y9 (loadV_blkA Tryz.isAgg32 Tryz.sizeOf32 rfl (hS16.blk 0 rfl)) (resN)), hS16.frame, ?_⟩
  show ∃ c_ d_, (Value.tuple #[I (0), Vg #[I (3), I (-1)]]) = Value.tuple #[I (wordV op b l n), Vg #[I c_, I d_]] ∧ In64 (wordV op b l n)
  have hq_ : wordV op b l n = _ := wordV_b h13 (by simpa using h21)
  exact ⟨_, _, by rw [hq_], by rw [hq_]; exact (by constructor <;> decide : In64 0)⟩
 have h2 : 1 ≤ b ∧ b ≤ 8 := by simpa using h21
 refine wpF_seq ?_
 refine wpF_region ?_
 refine lm (v := vl) rfl rfl y2 ?_
 refine lq rfl (q_lenRd rfl Tryz.underlying24 rfl (hS12.rdl 1 rfl)) ?_
 refine lm (v := I (op)) rfl rfl y0 ?_
 refine lo rfl ?_
 refine e_call rfl Tryz.call101 (arr1 (v0 := I (op)) rfl) (operands_W  op  ) ?_
 rintro _ H17 ⟨hxx, rfl⟩
 have hS18 := hS12.ext hxx
 refine lq rfl (q_neq rfl rfl rfl) ?_
 refine la (v := B (decide ((l.length : Int) ≠ ((opsW op))))) rfl rfl rfl ?_
 refine wpL_nil ?_
 refine wpF_condP rfl (fun h26 => ?t67) (fun h26 => ?e67)
 case t67 =>
  refine wpF_seq ?_
  refine wpF_region ?_
  refine lq rfl (q_build (v := Vg #[I (9), I (0)]) rfl (par1 (v0 := I (9)) rfl) (fun w__ => by kernel_rfl)) ?_
  refine la (v := I (0)) rfl rfl rfl ?_
  refine lo rfl ?_
  refine e_storeBlkA (cs' := #[I (9), I (0)]) rfl y9 rfl Tryz.sizeOf32 rfl rfl (fa rfl (fa rfl fe)) hS18 (fun H21 hS22 hxx => ?_)
  refine wpL_nil ?_
  refine wpF_ret ?_
  refine ⟨_, resT rfl (resC y9 (loadV_blkA Tryz.isAgg32 Tryz.sizeOf32 rfl (hS22.blk 0 rfl)) (resN)), hS22.frame, ?_⟩
  show ∃ c_ d_, (Value.tuple #[I (0), Vg #[I (9), I (0)]]) = Value.tuple #[I (wordV op b l n), Vg #[I c_, I d_]] ∧ In64 (wordV op b l n)
  have hq_ : wordV op b l n = _ := wordV_len h13 h2 h26
  exact ⟨_, _, by rw [hq_], by rw [hq_]; exact (by constructor <;> decide : In64 0)⟩
 obtain ⟨hl1, hl2⟩ := opsLen h26
 refine wpF_skip ?_
 refine wpF_seq ?_
 refine wpF_seq ?_
 refine wpF_region ?_
 refine lm (v := vl) rfl rfl y2 ?_
 refine lq rfl (q_lenRd rfl Tryz.underlying24 rfl (hS18.rdl 1 rfl)) ?_
 refine lm (v := I (0)) rfl rfl rfl ?_
 refine wpL_nil ?_
 refine wpF_block ?_
 refine wpF_loop (fun mz f H => ∃ (k : Nat), mz = l.length - k ∧ (k ≤ l.length) ∧ (∀ j, j < k → inW (nth l j) b) ∧ f 0 = I (op) ∧ f 1 = I (b) ∧ f 2 = vl ∧ f 3 = I (n) ∧ f 9 = PT g1 0 ∧ f 33 = vl ∧ f 34 = I ((l.length : Int)) ∧ f 35 = I ((k : Int)) ∧ St H0 NoB NoB [bE g1 #[I (0), I (0)] 32, rdE vl l] H) (l.length - 0) ?_ ?_
 ·exact ⟨0, rfl, Nat.zero_le _, (fun j hj => absurd hj (Nat.not_lt_zero j)), y0, y1, y2, y3, y9, rfl, rfl, (Eq.trans rfl (congrArg I (by omega))), hS18⟩
 intro m23 f23 H23 hI23
 clear y0 y1 y2 y3 y9
 obtain ⟨k, hm23, hk, hp, y0, y1, y2, y3, y9, y33, y34, y35, hS23⟩ := hI23
 refine wpF_seq ?_
 refine wpF_region ?_
 refine lq rfl (q_lss rfl y35 y34) ?_
 refine wpL_nil ?_
 refine wpF_seq ?_
 refine wpF_condP rfl (fun hlt => ?t66) (fun hlt => ?e66)
 case t66 =>
  refine wpF_skip ?_
  refine wpF_seq ?_
  refine wpF_block ?_
  refine wpF_seq ?_
  refine wpF_region ?_
  refine lm (v := I ((k : Int))) rfl rfl y35 ?_
  refine lq rfl (q_indexRd (k := k) rfl Tryz.underlying24 el_Int_3_MeanC1 y33 y35 (hS23.rdl 1 rfl) (by omega) (by omega)) ?_
  refine lq rfl (q_loadInt (k := k) rfl rfl el_Int_3_MeanC1 (hS23.rdl 1 rfl) (by omega) (fun _ h => h)) ?_
  refine la (v := I ((k : Int))) rfl rfl rfl ?_
  refine la (v := I (nth l k)) rfl rfl rfl ?_
  refine wpL_nil ?_
  refine wpF_seq ?_
  refine wpF_region ?_
  refine lm (v := I (nth l k)) rfl rfl rfl ?_
  refine lm (v := I (b)) rfl rfl y1 ?_
  refine lo rfl ?_
  refine e_call rfl Tryz.call102 (arr2 (v0 := I (nth l k)) (v1 := I (b)) rfl rfl) (in_W (nth l k) b h2) ?_
  rintro _ H25 ⟨hxx, rfl⟩
  have hS26 := hS23.ext hxx
  refine lq rfl (q_notP rfl rfl) ?_
  refine wpL_nil ?_
  refine wpF_condP rfl (fun h43 => ?t31) (fun h43 => ?e31)
  case e31 =>
   refine wpF_skip ?_
   refine wpF_region ?_
   refine lq rfl (q_add rfl y35 rfl (by constructor <;> omega)) ?_
   refine lm (v := I ((k : Int) + 1)) rfl rfl rfl ?_
   refine wpL_nil ?_
   refine ⟨_, ?_, k + 1, rfl, (by omega), (all_succ hp (by simpa using h43)), y0, y1, y2, y3, y9, y33, y34, (Eq.trans rfl (congrArg I (by omega))), hS26⟩
   omega
  refine wpF_seq ?_
  refine wpF_region ?_
  refine lm (v := I ((k : Int))) rfl rfl rfl ?_
  refine lq rfl (q_build (v := Vg #[I (3), I ((k : Int))]) rfl (par2 (v0 := I (3)) (v1 := I ((k : Int))) rfl rfl) (fun w__ => by kernel_rfl)) ?_
  refine la (v := I (0)) rfl rfl rfl ?_
  refine lo rfl ?_
  refine e_storeBlkA (cs' := #[I (3), I ((k : Int))]) rfl y9 rfl Tryz.sizeOf32 rfl rfl (fa rfl (fa rfl fe)) hS26 (fun H29 hS30 hxx => ?_)
  refine wpL_nil ?_
  refine wpF_ret ?_
  refine ⟨_, resT rfl (resC y9 (loadV_blkA Tryz.isAgg32 Tryz.sizeOf32 rfl (hS30.blk 0 rfl)) (resN)), hS30.frame, ?_⟩
  show ∃ c_ d_, (Value.tuple #[I (0), Vg #[I (3), I ((k : Int))]]) = Value.tuple #[I (wordV op b l n), Vg #[I c_, I d_]] ∧ In64 (wordV op b l n)
  have hq_ : wordV op b l n = _ := wordV_in h13 h2 h26 (nth_mem (l := l) (k := k) (by omega)) (by simpa using h43)
  exact ⟨_, _, by rw [hq_], by rw [hq_]; exact (by constructor <;> decide : In64 0)⟩
 have hall : ∀ w ∈ l, inW w b := fun w hw => by obtain ⟨j, hj, rfl⟩ := nth_of_mem hw; exact hp j (by omega)
 have hn0 := nth_in h2 hall 0
 have hn1 := nth_in h2 hall 1
 have hmm := mul30 (x := nth l 0) (y := nth l 1) ⟨by omega, by omega⟩ ⟨by omega, by omega⟩
 have hpw := pow_small h2
 refine wpF_exit ?_
 refine atX_here ?_
 refine wpF_seq ?_
 refine wpF_seq ?_
 refine wpF_region ?_
 refine lm (v := I (op)) rfl rfl y0 ?_
 refine lm (v := I (b)) rfl rfl y1 ?_
 refine lm (v := I (n)) rfl rfl y3 ?_
 refine lo rfl ?_
 refine e_call rfl Tryz.call103 (arr3 (v0 := I (op)) (v1 := I (b)) (v2 := I (n)) rfl rfl rfl) (fits_W  op b n  h2) ?_
 rintro _ H32 ⟨hxx, rfl⟩
 have hS33 := hS23.ext hxx
 refine lq rfl (q_not rfl rfl) ?_
 refine wpL_nil ?_
 refine wpF_cond rfl (fun h51 => ?t65) (fun h51 => ?e65)
 case t65 =>
  refine wpF_seq ?_
  refine wpF_region ?_
  refine lq rfl (q_build (v := Vg #[I (5), I (0)]) rfl (par1 (v0 := I (5)) rfl) (fun w__ => by kernel_rfl)) ?_
  refine la (v := I (0)) rfl rfl rfl ?_
  refine lo rfl ?_
  refine e_storeBlkA (cs' := #[I (5), I (0)]) rfl y9 rfl Tryz.sizeOf32 rfl rfl (fa rfl (fa rfl fe)) hS33 (fun H36 hS37 hxx => ?_)
  refine wpL_nil ?_
  refine wpF_ret ?_
  refine ⟨_, resT rfl (resC y9 (loadV_blkA Tryz.isAgg32 Tryz.sizeOf32 rfl (hS37.blk 0 rfl)) (resN)), hS37.frame, ?_⟩
  show ∃ c_ d_, (Value.tuple #[I (0), Vg #[I (5), I (0)]]) = Value.tuple #[I (wordV op b l n), Vg #[I c_, I d_]] ∧ In64 (wordV op b l n)
  have hq_ : wordV op b l n = _ := wordV_fit h13 h2 h26 hall (by simpa using h51)
  exact ⟨_, _, by rw [hq_], by rw [hq_]; exact (by constructor <;> decide : In64 0)⟩
 have hfn := fits_n (op := op) (b := b) (n := n) (by simpa using h51)
 refine wpF_skip ?_
 refine wpF_seq ?_
 refine wpF_region ?_
 refine lm (v := I (n)) rfl rfl y3 ?_
 refine la (v := I (n)) rfl rfl rfl ?_
 refine wpL_nil ?_
 refine wpF_seq ?_
 refine wpF_seq ?_
 refine wpF_region ?_
 refine lm (v := I (op)) rfl rfl y0 ?_
 refine wpL_nil ?_
 refine wpF_cut (fun f H => f 1 = I (b) ∧ f 9 = PT g1 0 ∧ f 12 = I (outW op l n) ∧ St H0 NoB NoB [bE g1 #[I (0), I (0)] 32, rdE vl l] H) ?_ ?_
 ·refine wpF_block ?_
  refine wpF_seq ?_
  refine wpF_region ?_
  refine lq rfl (q_eql rfl rfl rfl) ?_
  refine la (v := B (decide (op = 16))) rfl rfl rfl ?_
  refine wpL_nil ?_
  refine wpF_condP rfl (fun hp39 => ?t62) (fun hp39 => ?e62)
  case t62 =>
   refine wpF_region ?_
   refine lm (v := vl) rfl rfl y2 ?_
   refine lq rfl (q_indexRd (k := 0) rfl Tryz.underlying24 el_Int_3_MeanC1 rfl rfl (hS33.rdl 1 rfl) (by omega) (by omega)) ?_
   refine lq rfl (q_loadInt (k := 0) rfl rfl el_Int_3_MeanC1 (hS33.rdl 1 rfl) (by omega) (fun _ h => h)) ?_
   refine lq rfl (q_notI rfl rfl) ?_
   refine la (v := I (notI (nth l 0))) rfl rfl rfl ?_
   refine wpL_nil ?_
   exact ⟨y1, y9, (Eq.trans rfl (congrArg I (by rw [outW, hp39]; rfl))), hS33⟩
  refine wpF_seq ?_
  refine wpF_region ?_
  refine lq rfl (q_eql rfl rfl rfl) ?_
  refine la (v := B (decide (op = 17))) rfl rfl rfl ?_
  refine wpL_nil ?_
  refine wpF_condP rfl (fun hp40 => ?t61) (fun hp40 => ?e61)
  case t61 =>
   refine wpF_drawn [] [] (fun _ _ => False) (by kernel_rfl) (by kernel_rfl) ?_
   refine rq 0 (by kernel_rfl) rfl rfl (q_move (v := vl) rfl y2) ?_
   refine rq 1 (by kernel_rfl) rfl rfl (q_indexRd (k := 0) rfl Tryz.underlying24 el_Int_3_MeanC1 rfl rfl (hS33.rdl 1 rfl) (by omega) (by omega)) ?_
   refine rq 2 (by kernel_rfl) rfl rfl (q_loadInt (k := 0) rfl rfl el_Int_3_MeanC1 (hS33.rdl 1 rfl) (by omega) (labU_sub [] rfl (fe))) ?_
   refine rq 3 (by kernel_rfl) rfl rfl (q_move (v := vl) rfl y2) ?_
   refine rq 4 (by kernel_rfl) rfl rfl (q_indexRd (k := 1) rfl Tryz.underlying24 el_Int_3_MeanC1 rfl rfl (hS33.rdl 1 rfl) (by omega) (by omega)) ?_
   refine rq 5 (by kernel_rfl) rfl rfl (q_loadInt (k := 1) rfl rfl el_Int_3_MeanC1 (hS33.rdl 1 rfl) (by omega) (labU_sub [] rfl (fe))) ?_
   refine rq 6 (by kernel_rfl) rfl rfl (q_andI rfl rfl rfl) ?_
   refine rq 7 (by kernel_rfl) rfl rfl (q_assign (v := I (andI (nth l 0) (nth l 1))) rfl rfl) ?_
   refine wpR_end (by kernel_rfl) ?_
   skip
   exact ⟨y1, y9, (Eq.trans rfl (congrArg I (by rw [outW, hp40]; rfl))), hS33⟩
  refine wpF_seq ?_
  refine wpF_region ?_
  refine lq rfl (q_eql rfl rfl rfl) ?_
  refine la (v := B (decide (op = 18))) rfl rfl rfl ?_
  refine wpL_nil ?_
  refine wpF_condP rfl (fun hp42 => ?t60) (fun hp42 => ?e60)
  case t60 =>
   refine wpF_drawn [] [] (fun _ _ => False) (by kernel_rfl) (by kernel_rfl) ?_
   refine rq 0 (by kernel_rfl) rfl rfl (q_move (v := vl) rfl y2) ?_
   refine rq 1 (by kernel_rfl) rfl rfl (q_indexRd (k := 0) rfl Tryz.underlying24 el_Int_3_MeanC1 rfl rfl (hS33.rdl 1 rfl) (by omega) (by omega)) ?_
   refine rq 2 (by kernel_rfl) rfl rfl (q_loadInt (k := 0) rfl rfl el_Int_3_MeanC1 (hS33.rdl 1 rfl) (by omega) (labU_sub [] rfl (fe))) ?_
   refine rq 3 (by kernel_rfl) rfl rfl (q_move (v := vl) rfl y2) ?_
   refine rq 4 (by kernel_rfl) rfl rfl (q_indexRd (k := 1) rfl Tryz.underlying24 el_Int_3_MeanC1 rfl rfl (hS33.rdl 1 rfl) (by omega) (by omega)) ?_
   refine rq 5 (by kernel_rfl) rfl rfl (q_loadInt (k := 1) rfl rfl el_Int_3_MeanC1 (hS33.rdl 1 rfl) (by omega) (labU_sub [] rfl (fe))) ?_
   refine rq 6 (by kernel_rfl) rfl rfl (q_orI rfl rfl rfl) ?_
   refine rq 7 (by kernel_rfl) rfl rfl (q_assign (v := I (orI (nth l 0) (nth l 1))) rfl rfl) ?_
   refine wpR_end (by kernel_rfl) ?_
   skip
   exact ⟨y1, y9, (Eq.trans rfl (congrArg I (by rw [outW, hp42]; rfl))), hS33⟩
  refine wpF_seq ?_
  refine wpF_region ?_
  refine lq rfl (q_eql rfl rfl rfl) ?_
  refine la (v := B (decide (op = 19))) rfl rfl rfl ?_
  refine wpL_nil ?_
  refine wpF_condP rfl (fun hp44 => ?t59) (fun hp44 => ?e59)
  case t59 =>
   refine wpF_drawn [] [] (fun _ _ => False) (by kernel_rfl) (by kernel_rfl) ?_
   refine rq 0 (by kernel_rfl) rfl rfl (q_move (v := vl) rfl y2) ?_
   refine rq 1 (by kernel_rfl) rfl rfl (q_indexRd (k := 0) rfl Tryz.underlying24 el_Int_3_MeanC1 rfl rfl (hS33.rdl 1 rfl) (by omega) (by omega)) ?_
   refine rq 2 (by kernel_rfl) rfl rfl (q_loadInt (k := 0) rfl rfl el_Int_3_MeanC1 (hS33.rdl 1 rfl) (by omega) (labU_sub [] rfl (fe))) ?_
   refine rq 3 (by kernel_rfl) rfl rfl (q_move (v := vl) rfl y2) ?_
   refine rq 4 (by kernel_rfl) rfl rfl (q_indexRd (k := 1) rfl Tryz.underlying24 el_Int_3_MeanC1 rfl rfl (hS33.rdl 1 rfl) (by omega) (by omega)) ?_
   refine rq 5 (by kernel_rfl) rfl rfl (q_loadInt (k := 1) rfl rfl el_Int_3_MeanC1 (hS33.rdl 1 rfl) (by omega) (labU_sub [] rfl (fe))) ?_
   refine rq 6 (by kernel_rfl) rfl rfl (q_xorI rfl rfl rfl) ?_
   refine rq 7 (by kernel_rfl) rfl rfl (q_assign (v := I (xorI (nth l 0) (nth l 1))) rfl rfl) ?_
   refine wpR_end (by kernel_rfl) ?_
   skip
   exact ⟨y1, y9, (Eq.trans rfl (congrArg I (by rw [outW, hp44]; rfl))), hS33⟩
  refine wpF_seq ?_
  refine wpF_region ?_
  refine lq rfl (q_eql rfl rfl rfl) ?_
  refine la (v := B (decide (op = 20))) rfl rfl rfl ?_
  refine wpL_nil ?_
  refine wpF_condP rfl (fun hp46 => ?t58) (fun hp46 => ?e58)
  case t58 =>
   refine wpF_drawn [] [] (fun _ _ => False) (by kernel_rfl) (by kernel_rfl) ?_
   refine rq 0 (by kernel_rfl) rfl rfl (q_move (v := vl) rfl y2) ?_
   refine rq 1 (by kernel_rfl) rfl rfl (q_indexRd (k := 0) rfl Tryz.underlying24 el_Int_3_MeanC1 rfl rfl (hS33.rdl 1 rfl) (by omega) (by omega)) ?_
   refine rq 2 (by kernel_rfl) rfl rfl (q_loadInt (k := 0) rfl rfl el_Int_3_MeanC1 (hS33.rdl 1 rfl) (by omega) (labU_sub [] rfl (fe))) ?_
   refine rq 3 (by kernel_rfl) rfl rfl (q_move (v := vl) rfl y2) ?_
   refine rq 4 (by kernel_rfl) rfl rfl (q_indexRd (k := 1) rfl Tryz.underlying24 el_Int_3_MeanC1 rfl rfl (hS33.rdl 1 rfl) (by omega) (by omega)) ?_
   refine rq 5 (by kernel_rfl) rfl rfl (q_loadInt (k := 1) rfl rfl el_Int_3_MeanC1 (hS33.rdl 1 rfl) (by omega) (labU_sub [] rfl (fe))) ?_
   refine rq 6 (by kernel_rfl) rfl rfl (q_add rfl rfl rfl (by constructor <;> omega)) ?_
   refine rq 7 (by kernel_rfl) rfl rfl (q_assign (v := I ((nth l 0) + (nth l 1))) rfl rfl) ?_
   refine wpR_end (by kernel_rfl) ?_
   skip
   exact ⟨y1, y9, (Eq.trans rfl (congrArg I (by rw [outW, hp46]; rfl))), hS33⟩
  refine wpF_seq ?_
  refine wpF_region ?_
  refine lq rfl (q_eql rfl rfl rfl) ?_
  refine la (v := B (decide (op = 21))) rfl rfl rfl ?_
  refine wpL_nil ?_
  refine wpF_condP rfl (fun hp48 => ?t57) (fun hp48 => ?e57)
  case t57 =>
   refine wpF_drawn [] [] (fun _ _ => False) (by kernel_rfl) (by kernel_rfl) ?_
   refine rq 0 (by kernel_rfl) rfl rfl (q_move (v := vl) rfl y2) ?_
   refine rq 1 (by kernel_rfl) rfl rfl (q_indexRd (k := 0) rfl Tryz.underlying24 el_Int_3_MeanC1 rfl rfl (hS33.rdl 1 rfl) (by omega) (by omega)) ?_
   refine rq 2 (by kernel_rfl) rfl rfl (q_loadInt (k := 0) rfl rfl el_Int_3_MeanC1 (hS33.rdl 1 rfl) (by omega) (labU_sub [] rfl (fe))) ?_
   refine rq 3 (by kernel_rfl) rfl rfl (q_move (v := vl) rfl y2) ?_
   refine rq 4 (by kernel_rfl) rfl rfl (q_indexRd (k := 1) rfl Tryz.underlying24 el_Int_3_MeanC1 rfl rfl (hS33.rdl 1 rfl) (by omega) (by omega)) ?_
   refine rq 5 (by kernel_rfl) rfl rfl (q_loadInt (k := 1) rfl rfl el_Int_3_MeanC1 (hS33.rdl 1 rfl) (by omega) (labU_sub [] rfl (fe))) ?_
   refine rq 6 (by kernel_rfl) rfl rfl (q_mul rfl rfl rfl (by constructor <;> omega)) ?_
   refine rq 7 (by kernel_rfl) rfl rfl (q_assign (v := I ((nth l 0) * (nth l 1))) rfl rfl) ?_
   refine wpR_end (by kernel_rfl) ?_
   skip
   exact ⟨y1, y9, (Eq.trans rfl (congrArg I (by rw [outW, hp48]; rfl))), hS33⟩
  refine wpF_seq ?_
  refine wpF_region ?_
  refine lq rfl (q_eql rfl rfl rfl) ?_
  refine la (v := B (decide (op = 23))) rfl rfl rfl ?_
  refine wpL_nil ?_
  refine wpF_condP rfl (fun hp50 => ?t56) (fun hp50 => ?e56)
  case t56 =>
   refine wpF_region ?_
   refine lm (v := vl) rfl rfl y2 ?_
   refine lq rfl (q_indexRd (k := 0) rfl Tryz.underlying24 el_Int_3_MeanC1 rfl rfl (hS33.rdl 1 rfl) (by omega) (by omega)) ?_
   refine lq rfl (q_loadInt (k := 0) rfl rfl el_Int_3_MeanC1 (hS33.rdl 1 rfl) (by omega) (fun _ h => h)) ?_
   refine lm (v := I (n)) rfl rfl y3 ?_
   refine lq rfl (q_shlI rfl rfl rfl (by omega)) ?_
   refine la (v := I (shlI (nth l 0) n)) rfl rfl rfl ?_
   refine wpL_nil ?_
   exact ⟨y1, y9, (Eq.trans rfl (congrArg I (by rw [outW, hp50]; rfl))), hS33⟩
  refine wpF_seq ?_
  refine wpF_region ?_
  refine lq rfl (q_eql rfl rfl rfl) ?_
  refine la (v := B (decide (op = 22))) rfl rfl rfl ?_
  refine wpL_nil ?_
  refine wpF_condP rfl (fun hp51 => ?t55) (fun hp51 => ?e55)
  case e55 =>
   refine wpF_skip ?_
   exact ⟨y1, y9, (Eq.trans rfl (congrArg I (by rw [outW, if_neg hp39, if_neg hp40, if_neg hp42, if_neg hp44, if_neg hp46, if_neg hp48, if_neg hp50, if_neg hp51]))), hS33⟩
  refine wpF_seq ?_
  refine wpF_region ?_
  refine la (v := I (0)) rfl rfl rfl ?_
  refine wpL_nil ?_
  refine wpF_seq ?_
  refine wpF_drawn [] [] (fun _ _ => False) (by kernel_rfl) (by kernel_rfl) ?_
  refine rq 0 (by kernel_rfl) rfl rfl (q_move (v := vl) rfl y2) ?_
  refine rq 1 (by kernel_rfl) rfl rfl (q_indexRd (k := 0) rfl Tryz.underlying24 el_Int_3_MeanC1 rfl rfl (hS33.rdl 1 rfl) (by omega) (by omega)) ?_
  refine rq 2 (by kernel_rfl) rfl rfl (q_loadInt (k := 0) rfl rfl el_Int_3_MeanC1 (hS33.rdl 1 rfl) (by omega) (labU_sub [] rfl (fe))) ?_
  refine rq 3 (by kernel_rfl) rfl rfl (q_move (v := vl) rfl y2) ?_
  refine rq 4 (by kernel_rfl) rfl rfl (q_indexRd (k := 1) rfl Tryz.underlying24 el_Int_3_MeanC1 rfl rfl (hS33.rdl 1 rfl) (by omega) (by omega)) ?_
  refine rq 5 (by kernel_rfl) rfl rfl (q_loadInt (k := 1) rfl rfl el_Int_3_MeanC1 (hS33.rdl 1 rfl) (by omega) (labU_sub [] rfl (fe))) ?_
  refine rq 6 (by kernel_rfl) rfl rfl (q_lss rfl rfl rfl) ?_
  refine wpR_end (by kernel_rfl) ?_
  skip
  refine wpF_condP rfl (fun h121 => ?t54) (fun h121 => ?e54)
  case e54 =>
   refine wpF_skip ?_
   exact ⟨y1, y9, (Eq.trans rfl (congrArg I (by rw [outW, hp51]; exact (if_neg h121).symm))), hS33⟩
  refine wpF_region ?_
  refine la (v := I (1)) rfl rfl rfl ?_
  refine wpL_nil ?_
  exact ⟨y1, y9, (Eq.trans rfl (congrArg I (by rw [outW, hp51]; exact (if_pos h121).symm))), hS33⟩
 clear y1 y2 y3 y9
 rintro f38 H38 ⟨y1, y9, y12, hS38⟩
 refine wpF_seq ?_
 refine wpF_region ?_
 refine lm (v := I (outW op l n)) rfl rfl y12 ?_
 refine lm (v := I (b)) rfl rfl y1 ?_
 refine lq rfl (q_shl1 rfl rfl rfl (by omega) (by omega)) ?_
 refine lq rfl (q_sub rfl rfl rfl (by constructor <;> omega)) ?_
 refine lq rfl (q_andI rfl rfl rfl) ?_
 refine lq rfl (q_build (v := Vg #[I (0), I (0)]) rfl par0 (fun w__ => by kernel_rfl)) ?_
 refine la (v := I (andI (outW op l n) (((2 ^ ((b).toNat) : Nat) : Int) - 1))) rfl rfl rfl ?_
 refine lo rfl ?_
 refine e_storeBlkA (cs' := #[I (0), I (0)]) rfl y9 rfl Tryz.sizeOf32 rfl rfl (fa rfl (fa rfl fe)) hS38 (fun H63 hS64 hxx => ?_)
 refine wpL_nil ?_
 refine wpF_ret ?_
 refine ⟨_, resT rfl (resC y9 (loadV_blkA Tryz.isAgg32 Tryz.sizeOf32 rfl (hS64.blk 0 rfl)) (resN)), hS64.frame, ?_⟩
 show ∃ c_ d_, (Value.tuple #[I (andI (outW op l n) (((2 ^ ((b).toNat) : Nat) : Int) - 1)), Vg #[I (0), I (0)]]) = Value.tuple #[I (wordV op b l n), Vg #[I c_, I d_]] ∧ In64 (wordV op b l n)
 have hq_ : wordV op b l n = _ := wordV_ok h13 h2 h26 hall (by simpa using h51)
 exact ⟨_, _, by rw [hq_], by rw [hq_]; exact wrap_in64⟩
end Go.Um
