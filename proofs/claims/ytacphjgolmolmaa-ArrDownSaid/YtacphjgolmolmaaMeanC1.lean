import Derived.Test.YtacphjgolmolmaaProg
import Derived.Test.YtacphjgolmolmaaAskC3
import Derived.Test.YtacphjgolmolmaaUmArrDownC
namespace Go.Um
open Go.Proofs
open GoT (sz ag rdc)
open KeyT (kv)
theorem el_Frac_66_MeanC1 : ElT Try.prog Frac 66 := ⟨Try.isAgg66, Try.sizeOf66⟩
theorem el_Int_3_MeanC1 : ElT Try.prog Int 3 := ⟨Try.isAgg3, Try.sizeOf3⟩
set_option maxRecDepth 100000 in
theorem size_L {H0 : Heap} (x : Int) (h6 : In64 x) : CallsH Try.prog 80 #[I (x)] H0 (fun rv_ H' => Ext NoB H0 H' ∧ rv_ = U64 ((x.natAbs : Nat) : Int)) := by
 have hS0 : St H0 NoB NoB [] H0 := St.start (fun _ h => h.elim)
 refine callsH_of_wpF (args := [I (x)]) (rs := [.tmp 2]) Try.func80 rfl Try.ntmps80 Try.results80 (by kernel_rfl) (Nat.le_of_ble_eq_true rfl) ?_
 have y0 : argF [I (x)] 0 = I (x) := rfl
 generalize argF [I (x)] = f0 at *
 refine fcr (fun f H => f 0 = I (x) ∧ H0 = H) ?_ ?_
 ·refine la (v := U64 (((0 : Nat) : Int))) rfl rfl rfl ?_
  exact ⟨y0, rfl⟩
 clear y0
 rintro f1 _ ⟨y0, rfl⟩
 refine wpF_seq ?_
 refine fcr (fun f H => f 0 = I (x) ∧ f 4 = B (decide (x < 0)) ∧ H0 = H) ?_ ?_
 ·refine lm (v := I (x)) rfl rfl y0 ?_
  refine lq rfl (q_lss rfl rfl rfl) ?_
  exact ⟨y0, rfl, rfl⟩
 clear y0
 rintro f2 _ ⟨y0, y4, rfl⟩
 refine wpF_condP y4 (fun hp => ?t6) (fun hp => ?e6)
 case t6 =>
  refine fcr (fun f H => f 2 = U64 (IntKind.u64.wrap (0 - (IntKind.u64.wrap x))) ∧ H0 = H) ?_ ?_
  ·refine lm (v := I (x)) rfl rfl y0 ?_
   refine lq rfl (q_convU rfl Try.underlying3 Try.underlying115 rfl) ?_
   refine lq rfl (q_negU rfl rfl) ?_
   refine la (v := U64 (IntKind.u64.wrap (0 - (IntKind.u64.wrap x)))) rfl rfl rfl ?_
   exact ⟨rfl, rfl⟩
  clear y0 y4
  rintro f4 _ ⟨y2, rfl⟩
  refine wpF_ret ?_
  refine ⟨_, resT y2 resN, hS0.frame, ?_⟩
  show (U64 (IntKind.u64.wrap (0 - (IntKind.u64.wrap x)))) = U64 ((x.natAbs : Nat) : Int)
  exact congrArg U64 (sizeU_neg h6 hp)
 refine wpF_skip ?_
 refine fcr (fun f H => f 2 = U64 (IntKind.u64.wrap x) ∧ H0 = H) ?_ ?_
 ·refine lm (v := I (x)) rfl rfl y0 ?_
  refine lq rfl (q_convU rfl Try.underlying3 Try.underlying115 rfl) ?_
  refine la (v := U64 (IntKind.u64.wrap x)) rfl rfl rfl ?_
  exact ⟨rfl, rfl⟩
 clear y0 y4
 rintro f5 _ ⟨y2, rfl⟩
 refine wpF_ret ?_
 refine ⟨_, resT y2 resN, hS0.frame, ?_⟩
 show (U64 (IntKind.u64.wrap x)) = U64 ((x.natAbs : Nat) : Int)
 exact congrArg U64 (sizeU_pos h6 hp)
set_option maxRecDepth 100000 in
theorem gcdU_L {H0 : Heap} (a b : Nat)  : CallsH Try.prog 79 #[U64 (((a : Nat) : Int)), U64 (((b : Nat) : Int))] H0 (fun rv_ H' => Ext NoB H0 H' ∧ rv_ = U64 ((Nat.gcd a b : Nat) : Int)) := by
 have hS0 : St H0 NoB NoB [] H0 := St.start (fun _ h => h.elim)
 refine callsH_of_wpF (args := [U64 (((a : Nat) : Int)), U64 (((b : Nat) : Int))]) (rs := [.tmp 4]) Try.func79 rfl Try.ntmps79 Try.results79 (by kernel_rfl) (Nat.le_of_ble_eq_true rfl) ?_
 have y0 : argF [U64 (((a : Nat) : Int)), U64 (((b : Nat) : Int))] 0 = U64 (((a : Nat) : Int)) := rfl
 have y1 : argF [U64 (((a : Nat) : Int)), U64 (((b : Nat) : Int))] 1 = U64 (((b : Nat) : Int)) := rfl
 generalize argF [U64 (((a : Nat) : Int)), U64 (((b : Nat) : Int))] = f0 at *
 refine fcr (fun f H => f 0 = U64 (((a : Nat) : Int)) ∧ f 1 = U64 (((b : Nat) : Int)) ∧ H0 = H) ?_ ?_
 ·refine la (v := U64 (((0 : Nat) : Int))) rfl rfl rfl ?_
  exact ⟨y0, y1, rfl⟩
 clear y0 y1
 rintro f1 _ ⟨y0, y1, rfl⟩
 refine wpF_seq ?_
 refine wpF_block ?_
 refine wpF_loop (fun mz f H => ∃ (x : Nat), ∃ (y : Nat), mz = y ∧ (Nat.gcd a b = Nat.gcd x y) ∧ f 0 = U64 (((x : Nat) : Int)) ∧ f 1 = U64 (((y : Nat) : Int)) ∧ H0 = H) (b) ?_ ?_
 ·exact ⟨a, b, rfl, rfl, y0, y1, rfl⟩
 intro m2 f2 H2 hI2
 clear y0 y1
 obtain ⟨x, y, hm2, hg, y0, y1, rfl⟩ := hI2
 refine wpF_seq ?_
 refine fcr (fun f H => f 0 = U64 (((x : Nat) : Int)) ∧ f 1 = U64 (((y : Nat) : Int)) ∧ f 6 = B (decide (¬ ((y : Nat) : Int) = ((0 : Nat) : Int))) ∧ H0 = H) ?_ ?_
 ·refine lm (v := U64 (((y : Nat) : Int))) rfl rfl y1 ?_
  refine lq rfl (q_neqU rfl rfl rfl) ?_
  exact ⟨y0, y1, rfl, rfl⟩
 clear y0 y1
 rintro f3 _ ⟨y0, y1, y6, rfl⟩
 refine wpF_condP y6 (fun hz => ?t8) (fun hz => ?e8)
 case e8 =>
  refine wpF_exit ?_
  refine atX_here ?_
  refine fcr (fun f H => f 4 = U64 (((x : Nat) : Int)) ∧ H0 = H) ?_ ?_
  ·refine lm (v := U64 (((x : Nat) : Int))) rfl rfl y0 ?_
   refine la (v := U64 (((x : Nat) : Int))) rfl rfl rfl ?_
   exact ⟨rfl, rfl⟩
  clear y0 y1 y6
  rintro f7 _ ⟨y4, rfl⟩
  refine wpF_ret ?_
  refine ⟨_, resT y4 resN, hS0.frame, ?_⟩
  show (U64 (((x : Nat) : Int))) = U64 ((Nat.gcd a b : Nat) : Int)
  rw [hg, gcd_zero (show y = 0 by omega)]
 refine wpF_skip ?_
 refine wpF_block ?_
 refine wpF_cut (fun f H => f 0 = U64 (((y : Nat) : Int)) ∧ f 1 = U64 ((((x % y) : Nat) : Int)) ∧ H0 = H) ?_ ?_
 ·refine wpF_drawn [] [] (fun _ _ => False) (by kernel_rfl) (by kernel_rfl) ?_
  refine rq 0 (by kernel_rfl) rfl rfl (q_move (v := U64 (((y : Nat) : Int))) rfl y1) ?_
  refine rq 1 (by kernel_rfl) rfl rfl (q_move (v := U64 (((x : Nat) : Int))) rfl y0) ?_
  refine rq 2 (by kernel_rfl) rfl rfl (q_move (v := U64 (((y : Nat) : Int))) rfl y1) ?_
  refine rq 3 (by kernel_rfl) rfl rfl (q_remU (a := x) (b := y) rfl rfl rfl (by omega)) ?_
  refine rq 4 (by kernel_rfl) rfl rfl (q_assign (v := U64 (((y : Nat) : Int))) rfl rfl) ?_
  refine rq 5 (by kernel_rfl) rfl rfl (q_assign (v := U64 ((((x % y) : Nat) : Int))) rfl rfl) ?_
  refine wpR_end (by kernel_rfl) ?_
  exact ⟨rfl, rfl, rfl⟩
 clear y0 y1 y6
 rintro f6 _ ⟨y0, y1, rfl⟩
 refine ⟨_, ?_, y, (x % y), rfl, (hg.trans gcd_step), y0, y1, rfl⟩
 have hmz := Nat.mod_lt x (show 0 < y by omega); omega
set_option maxRecDepth 100000 in
theorem Check_F {H0 : Heap} (q : Frac) (h6nq : In64 q.Num) (h6dq : In64 q.Den) : CallsH Try.prog 65 #[Vg #[I (q.Num), I (q.Den)]] H0 (fun rv_ H' => Ext NoB H0 H' ∧ rv_ = Vg #[I ((checkFr q)).1, I ((checkFr q)).2]) := by
 have hS0 : St H0 NoB NoB [] H0 := St.start (fun _ h => h.elim)
 refine callsH_of_wpF (args := [Vg #[I (q.Num), I (q.Den)]]) (rs := [.cell 2 28]) Try.func65 rfl Try.ntmps65 Try.results65 (by kernel_rfl) (Nat.le_of_ble_eq_true rfl) ?_
 have y0 : argF [Vg #[I (q.Num), I (q.Den)]] 0 = Vg #[I (q.Num), I (q.Den)] := rfl
 generalize argF [Vg #[I (q.Num), I (q.Den)]] = f0 at *
 refine fcr (fun f H => ∃ (g1 : Nat), ∃ (g4 : Nat), f 1 = PT g1 0 ∧ f 2 = PT g4 0 ∧ St H0 NoB NoB [bE g4 #[I (0), I (0)] 28, bE g1 #[I (q.Num), I (q.Den)] 66] H) ?_ ?_
 ·refine lo rfl ?_
  refine e_box (v := Vg #[I (q.Num), I (q.Den)]) rfl y0 hS0 (fun g1 H2 hS3 hxx => ?_)
  refine lo rfl ?_
  refine e_alloc rfl Try.zeroValue28 hS3 (fun g4 H5 hS6 hxx => ?_)
  exact ⟨g1, g4, rfl, rfl, hS6⟩
 clear y0
 rintro f7 H7 ⟨g1, g4, y1, y2, hS7⟩
 refine wpF_seq ?_
 refine sc (fun f H => f 2 = PT g4 0 ∧ f 30 = B (decide (((((q.Den < 1) ∨ (1073741824 < q.Den)) ∨ (q.Num < (-1073741824))) ∨ (1073741824 < q.Num)) ∨ (¬ ((Nat.gcd q.Num.natAbs q.Den.natAbs : Nat) : Int) = ((1 : Nat) : Int)))) ∧ St H0 NoB NoB [bE g4 #[I (0), I (0)] 28, bE g1 #[I (q.Num), I (q.Den)] 66] H) ?_ ?_
 ·refine wpF_drawn [] [] (fun _ _ => False) (by kernel_rfl) (by kernel_rfl) ?_
  refine rq 0 (by kernel_rfl) rfl rfl (q_fieldAddr rfl Try.underlying66 rfl Try.sizeOf3 y1) ?_
  refine rq 1 (by kernel_rfl) rfl rfl (q_loadBlk rfl rfl Try.isAgg3 (hS7.blk 1 rfl) rfl (labU_not [] rfl (fe))) ?_
  refine rq 2 (by kernel_rfl) rfl rfl (q_lss rfl rfl rfl) ?_
  refine rq 3 (by kernel_rfl) rfl rfl (q_move (v := B (decide (q.Den < 1))) rfl rfl) ?_
  by_cases hg9 : q.Den < 1
  ·have hb10 := Eq.trans rfl (congrArg B (decide_eq_true hg9))
   refine wpR_q 4 (by kernel_rfl) rfl (quietAt_s rfl rfl rfl rfl hb10 rfl) ?_
   refine wpR_q 5 (by kernel_rfl) rfl (quietAt_s rfl rfl rfl rfl hb10 rfl) ?_
   refine wpR_q 6 (by kernel_rfl) rfl (quietAt_s rfl rfl rfl rfl hb10 rfl) ?_
   refine rq 7 (by kernel_rfl) rfl rfl (q_pickT (v := B (true)) rfl hb10 rfl) ?_
   refine rq 8 (by kernel_rfl) rfl rfl (q_move (v := B (true)) rfl rfl) ?_
   refine wpR_q 9 (by kernel_rfl) rfl (quietAt_s rfl rfl rfl rfl rfl rfl) ?_
   refine wpR_q 10 (by kernel_rfl) rfl (quietAt_s rfl rfl rfl rfl rfl rfl) ?_
   refine wpR_q 11 (by kernel_rfl) rfl (quietAt_s rfl rfl rfl rfl rfl rfl) ?_
   refine rq 12 (by kernel_rfl) rfl rfl (q_pickT (v := B (true)) rfl rfl rfl) ?_
   refine rq 13 (by kernel_rfl) rfl rfl (q_move (v := B (true)) rfl rfl) ?_
   refine wpR_q 14 (by kernel_rfl) rfl (quietAt_s rfl rfl rfl rfl rfl rfl) ?_
   refine wpR_q 15 (by kernel_rfl) rfl (quietAt_s rfl rfl rfl rfl rfl rfl) ?_
   refine wpR_q 16 (by kernel_rfl) rfl (quietAt_s rfl rfl rfl rfl rfl rfl) ?_
   refine rq 17 (by kernel_rfl) rfl rfl (q_pickT (v := B (true)) rfl rfl rfl) ?_
   refine rq 18 (by kernel_rfl) rfl rfl (q_move (v := B (true)) rfl rfl) ?_
   refine wpR_q 19 (by kernel_rfl) rfl (quietAt_s rfl rfl rfl rfl rfl rfl) ?_
   refine wpR_q 20 (by kernel_rfl) rfl (quietAt_s rfl rfl rfl rfl rfl rfl) ?_
   refine wpR_q 21 (by kernel_rfl) rfl (quietAt_s rfl rfl rfl rfl rfl rfl) ?_
   refine wpR_q 22 (by kernel_rfl) rfl (quietAt_s rfl rfl rfl rfl rfl rfl) ?_
   refine wpR_q 23 (by kernel_rfl) rfl (quietAt_s rfl rfl rfl rfl rfl rfl) ?_
   refine wpR_q 24 (by kernel_rfl) rfl (quietAt_s rfl rfl rfl rfl rfl rfl) ?_
   refine wpR_q 25 (by kernel_rfl) rfl (quietAt_s rfl rfl rfl rfl rfl rfl) ?_
   refine wpR_q 26 (by kernel_rfl) rfl (quietAt_s rfl rfl rfl rfl rfl rfl) ?_
   refine rq 27 (by kernel_rfl) rfl rfl (q_pickT (v := B (true)) rfl rfl rfl) ?_
   refine wpR_end (by kernel_rfl) ?_
   exact ⟨y2, (Eq.trans rfl (congrArg B ((decide_eq_true (Or.inl (Or.inl (Or.inl (Or.inl hg9))))).symm))), hS7⟩
  ·have hb11 := Eq.trans rfl (congrArg B (decide_eq_false hg9))
   refine wpR_q 4 (by kernel_rfl) rfl (quietAt_g rfl rfl rfl rfl hb11 (q_fieldAddr rfl Try.underlying66 rfl Try.sizeOf3 y1)) ?_
   refine wpR_q 5 (by kernel_rfl) rfl (quietAt_g rfl rfl rfl rfl hb11 (q_loadBlk rfl rfl Try.isAgg3 (hS7.blk 1 rfl) rfl (labU_not [] rfl (fe)))) ?_
   refine wpR_q 6 (by kernel_rfl) rfl (quietAt_g rfl rfl rfl rfl hb11 (q_gtr rfl rfl rfl)) ?_
   refine rq 7 (by kernel_rfl) rfl rfl (q_pickF (v := B (decide (1073741824 < q.Den))) rfl hb11 rfl) ?_
   refine rq 8 (by kernel_rfl) rfl rfl (q_move (v := B (decide (1073741824 < q.Den))) rfl rfl) ?_
   by_cases hg12 : 1073741824 < q.Den
   ·have hb13 := Eq.trans rfl (congrArg B (decide_eq_true hg12))
    refine wpR_q 9 (by kernel_rfl) rfl (quietAt_s rfl rfl rfl rfl hb13 rfl) ?_
    refine wpR_q 10 (by kernel_rfl) rfl (quietAt_s rfl rfl rfl rfl hb13 rfl) ?_
    refine wpR_q 11 (by kernel_rfl) rfl (quietAt_s rfl rfl rfl rfl hb13 rfl) ?_
    refine rq 12 (by kernel_rfl) rfl rfl (q_pickT (v := B (true)) rfl hb13 rfl) ?_
    refine rq 13 (by kernel_rfl) rfl rfl (q_move (v := B (true)) rfl rfl) ?_
    refine wpR_q 14 (by kernel_rfl) rfl (quietAt_s rfl rfl rfl rfl rfl rfl) ?_
    refine wpR_q 15 (by kernel_rfl) rfl (quietAt_s rfl rfl rfl rfl rfl rfl) ?_
    refine wpR_q 16 (by kernel_rfl) rfl (quietAt_s rfl rfl rfl rfl rfl rfl) ?_
    refine rq 17 (by kernel_rfl) rfl rfl (q_pickT (v := B (true)) rfl rfl rfl) ?_
    refine rq 18 (by kernel_rfl) rfl rfl (q_move (v := B (true)) rfl rfl) ?_
    refine wpR_q 19 (by kernel_rfl) rfl (quietAt_s rfl rfl rfl rfl rfl rfl) ?_
    refine wpR_q 20 (by kernel_rfl) rfl (quietAt_s rfl rfl rfl rfl rfl rfl) ?_
    refine wpR_q 21 (by kernel_rfl) rfl (quietAt_s rfl rfl rfl rfl rfl rfl) ?_
    refine wpR_q 22 (by kernel_rfl) rfl (quietAt_s rfl rfl rfl rfl rfl rfl) ?_
    refine wpR_q 23 (by kernel_rfl) rfl (quietAt_s rfl rfl rfl rfl rfl rfl) ?_
    refine wpR_q 24 (by kernel_rfl) rfl (quietAt_s rfl rfl rfl rfl rfl rfl) ?_
    refine wpR_q 25 (by kernel_rfl) rfl (quietAt_s rfl rfl rfl rfl rfl rfl) ?_
    refine wpR_q 26 (by kernel_rfl) rfl (quietAt_s rfl rfl rfl rfl rfl rfl) ?_
    refine rq 27 (by kernel_rfl) rfl rfl (q_pickT (v := B (true)) rfl rfl rfl) ?_
    refine wpR_end (by kernel_rfl) ?_
    exact ⟨y2, (Eq.trans rfl (congrArg B ((decide_eq_true (Or.inl (Or.inl (Or.inl (Or.inr hg12))))).symm))), hS7⟩
   ·have hb14 := Eq.trans rfl (congrArg B (decide_eq_false hg12))
    refine wpR_q 9 (by kernel_rfl) rfl (quietAt_g rfl rfl rfl rfl hb14 (q_fieldAddr rfl Try.underlying66 rfl Try.sizeOf3 y1)) ?_
    refine wpR_q 10 (by kernel_rfl) rfl (quietAt_g rfl rfl rfl rfl hb14 (q_loadBlk rfl rfl Try.isAgg3 (hS7.blk 1 rfl) rfl (labU_not [] rfl (fe)))) ?_
    refine wpR_q 11 (by kernel_rfl) rfl (quietAt_g rfl rfl rfl rfl hb14 (q_lss rfl rfl rfl)) ?_
    refine rq 12 (by kernel_rfl) rfl rfl (q_pickF (v := B (decide (q.Num < (-1073741824)))) rfl hb14 rfl) ?_
    refine rq 13 (by kernel_rfl) rfl rfl (q_move (v := B (decide (q.Num < (-1073741824)))) rfl rfl) ?_
    by_cases hg15 : q.Num < (-1073741824)
    ·have hb16 := Eq.trans rfl (congrArg B (decide_eq_true hg15))
     refine wpR_q 14 (by kernel_rfl) rfl (quietAt_s rfl rfl rfl rfl hb16 rfl) ?_
     refine wpR_q 15 (by kernel_rfl) rfl (quietAt_s rfl rfl rfl rfl hb16 rfl) ?_
     refine wpR_q 16 (by kernel_rfl) rfl (quietAt_s rfl rfl rfl rfl hb16 rfl) ?_
     refine rq 17 (by kernel_rfl) rfl rfl (q_pickT (v := B (true)) rfl hb16 rfl) ?_
     refine rq 18 (by kernel_rfl) rfl rfl (q_move (v := B (true)) rfl rfl) ?_
     refine wpR_q 19 (by kernel_rfl) rfl (quietAt_s rfl rfl rfl rfl rfl rfl) ?_
     refine wpR_q 20 (by kernel_rfl) rfl (quietAt_s rfl rfl rfl rfl rfl rfl) ?_
     refine wpR_q 21 (by kernel_rfl) rfl (quietAt_s rfl rfl rfl rfl rfl rfl) ?_
     refine wpR_q 22 (by kernel_rfl) rfl (quietAt_s rfl rfl rfl rfl rfl rfl) ?_
     refine wpR_q 23 (by kernel_rfl) rfl (quietAt_s rfl rfl rfl rfl rfl rfl) ?_
     refine wpR_q 24 (by kernel_rfl) rfl (quietAt_s rfl rfl rfl rfl rfl rfl) ?_
     refine wpR_q 25 (by kernel_rfl) rfl (quietAt_s rfl rfl rfl rfl rfl rfl) ?_
     refine wpR_q 26 (by kernel_rfl) rfl (quietAt_s rfl rfl rfl rfl rfl rfl) ?_
     refine rq 27 (by kernel_rfl) rfl rfl (q_pickT (v := B (true)) rfl rfl rfl) ?_
     refine wpR_end (by kernel_rfl) ?_
     exact ⟨y2, (Eq.trans rfl (congrArg B ((decide_eq_true (Or.inl (Or.inl (Or.inr hg15)))).symm))), hS7⟩
    ·have hb17 := Eq.trans rfl (congrArg B (decide_eq_false hg15))
     refine wpR_q 14 (by kernel_rfl) rfl (quietAt_g rfl rfl rfl rfl hb17 (q_fieldAddr rfl Try.underlying66 rfl Try.sizeOf3 y1)) ?_
     refine wpR_q 15 (by kernel_rfl) rfl (quietAt_g rfl rfl rfl rfl hb17 (q_loadBlk rfl rfl Try.isAgg3 (hS7.blk 1 rfl) rfl (labU_not [] rfl (fe)))) ?_
     refine wpR_q 16 (by kernel_rfl) rfl (quietAt_g rfl rfl rfl rfl hb17 (q_gtr rfl rfl rfl)) ?_
     refine rq 17 (by kernel_rfl) rfl rfl (q_pickF (v := B (decide (1073741824 < q.Num))) rfl hb17 rfl) ?_
     refine rq 18 (by kernel_rfl) rfl rfl (q_move (v := B (decide (1073741824 < q.Num))) rfl rfl) ?_
     by_cases hg18 : 1073741824 < q.Num
     ·have hb19 := Eq.trans rfl (congrArg B (decide_eq_true hg18))
      refine wpR_q 19 (by kernel_rfl) rfl (quietAt_s rfl rfl rfl rfl hb19 rfl) ?_
      refine wpR_q 20 (by kernel_rfl) rfl (quietAt_s rfl rfl rfl rfl hb19 rfl) ?_
      refine wpR_q 21 (by kernel_rfl) rfl (quietAt_s rfl rfl rfl rfl hb19 rfl) ?_
      refine wpR_q 22 (by kernel_rfl) rfl (quietAt_s rfl rfl rfl rfl hb19 rfl) ?_
      refine wpR_q 23 (by kernel_rfl) rfl (quietAt_s rfl rfl rfl rfl hb19 rfl) ?_
      refine wpR_q 24 (by kernel_rfl) rfl (quietAt_s rfl rfl rfl rfl hb19 rfl) ?_
      refine wpR_q 25 (by kernel_rfl) rfl (quietAt_s rfl rfl rfl rfl hb19 rfl) ?_
      refine wpR_q 26 (by kernel_rfl) rfl (quietAt_s rfl rfl rfl rfl hb19 rfl) ?_
      refine rq 27 (by kernel_rfl) rfl rfl (q_pickT (v := B (true)) rfl hb19 rfl) ?_
      refine wpR_end (by kernel_rfl) ?_
      exact ⟨y2, (Eq.trans rfl (congrArg B ((decide_eq_true (Or.inl (Or.inr hg18))).symm))), hS7⟩
     ·have hb20 := Eq.trans rfl (congrArg B (decide_eq_false hg18))
      refine wpR_q 19 (by kernel_rfl) rfl (quietAt_g rfl rfl rfl rfl hb20 (q_fieldAddr rfl Try.underlying66 rfl Try.sizeOf3 y1)) ?_
      refine wpR_q 20 (by kernel_rfl) rfl (quietAt_g rfl rfl rfl rfl hb20 (q_loadBlk rfl rfl Try.isAgg3 (hS7.blk 1 rfl) rfl (labU_not [] rfl (fe)))) ?_
      refine wpR_q 22 (by kernel_rfl) rfl (quietAt_g rfl rfl rfl rfl hb20 (q_fieldAddr rfl Try.underlying66 rfl Try.sizeOf3 y1)) ?_
      refine wpR_q 23 (by kernel_rfl) rfl (quietAt_g rfl rfl rfl rfl hb20 (q_loadBlk rfl rfl Try.isAgg3 (hS7.blk 1 rfl) rfl (labU_not [] rfl (fe)))) ?_
      refine wpR_n [21] (by kernel_rfl) ?_
      refine fa ?_ fe
      refine exE_g rfl rfl rfl rfl hb20 ?_
      refine e_call rfl Try.call80 (arr1 (v0 := I (q.Num)) rfl) (size_L q.Num (by first | assumption | (constructor <;> (try dsimp only) <;> omega))) ?_
      rintro _ H8o21 ⟨hxx, rfl⟩
      have hS8o21 := hS7.ext hxx
      refine ⟨Ext.mono hxx (fun _ h => h.elim), ?_⟩
      refine wpR_n [24] (by kernel_rfl) ?_
      refine fa ?_ fe
      refine exE_g rfl rfl rfl rfl hb20 ?_
      refine e_call rfl Try.call80 (arr1 (v0 := I (q.Den)) rfl) (size_L q.Den (by first | assumption | (constructor <;> (try dsimp only) <;> omega))) ?_
      rintro _ H8o24 ⟨hxx, rfl⟩
      have hS8o24 := hS8o21.ext hxx
      refine ⟨Ext.mono hxx (fun _ h => h.elim), ?_⟩
      refine wpR_n [25] (by kernel_rfl) ?_
      refine fa ?_ fe
      refine exE_g rfl rfl rfl rfl hb20 ?_
      refine e_call rfl Try.call79 (arr2 (v0 := U64 (((q.Num.natAbs : Nat) : Int))) (v1 := U64 (((q.Den.natAbs : Nat) : Int))) rfl rfl) (gcdU_L q.Num.natAbs q.Den.natAbs) ?_
      rintro _ H8o25 ⟨hxx, rfl⟩
      have hS8o25 := hS8o24.ext hxx
      refine ⟨Ext.mono hxx (fun _ h => h.elim), ?_⟩
      refine wpR_q 26 (by kernel_rfl) rfl (quietAt_g rfl rfl rfl rfl hb20 (q_neqU rfl rfl rfl)) ?_
      refine rq 27 (by kernel_rfl) rfl rfl (q_pickF (v := B (decide (¬ ((Nat.gcd q.Num.natAbs q.Den.natAbs : Nat) : Int) = ((1 : Nat) : Int)))) rfl hb20 rfl) ?_
      refine wpR_end (by kernel_rfl) ?_
      exact ⟨y2, (Eq.trans rfl (congrArg B (decide_congr_of ((Iff.rfl).trans (((or_iff_right (not_or.2 ⟨(not_or.2 ⟨(not_or.2 ⟨hg9, hg12⟩), hg15⟩), hg18⟩)).trans Iff.rfl)).symm)))), hS8o25⟩
 clear y1 y2
 rintro f21 H21 ⟨y2, y30, hS21⟩
 refine wpF_condP y30 (fun hb => ?t29) (fun hb => ?e29)
 case t29 =>
  refine fcr (fun f H => f 2 = PT g4 0 ∧ St H0 NoB NoB [bE g4 #[I (3), I (0)] 28, bE g1 #[I (q.Num), I (q.Den)] 66] H) ?_ ?_
  ·refine lq rfl (q_build (v := Vg #[I (3), I (0)]) rfl (par1 (v0 := I (3)) rfl) (fun w__ => by kernel_rfl)) ?_
   refine lo rfl ?_
   refine e_storeBlkA (cs' := #[I (3), I (0)]) rfl y2 rfl Try.sizeOf28 rfl rfl (fa rfl (fa rfl fe)) hS21 (fun H23 hS24 hxx => ?_)
   exact ⟨y2, hS24⟩
  clear y2 y30
  rintro f25 H25 ⟨y2, hS25⟩
  refine wpF_ret ?_
  refine ⟨_, resC y2 (loadV_blkA Try.isAgg28 Try.sizeOf28 rfl (hS25.blk 0 rfl)) (resN), hS25.frame, ?_⟩
  show (Vg #[I (3), I (0)]) = Vg #[I ((checkFr q)).1, I ((checkFr q)).2]
  have hq := (show checkFr q = (3, 0) from if_pos hb)
  rw [hq]
 refine wpF_skip ?_
 refine fcr (fun f H => f 2 = PT g4 0 ∧ St H0 NoB NoB [bE g4 #[I (0), I (0)] 28, bE g1 #[I (q.Num), I (q.Den)] 66] H) ?_ ?_
 ·refine lq rfl (q_build (v := Vg #[I (0), I (0)]) rfl par0 (fun w__ => by kernel_rfl)) ?_
  refine lo rfl ?_
  refine e_storeBlkA (cs' := #[I (0), I (0)]) rfl y2 rfl Try.sizeOf28 rfl rfl (fa rfl (fa rfl fe)) hS21 (fun H26 hS27 hxx => ?_)
  exact ⟨y2, hS27⟩
 clear y2 y30
 rintro f28 H28 ⟨y2, hS28⟩
 refine wpF_ret ?_
 refine ⟨_, resC y2 (loadV_blkA Try.isAgg28 Try.sizeOf28 rfl (hS28.blk 0 rfl)) (resN), hS28.frame, ?_⟩
 show (Vg #[I (0), I (0)]) = Vg #[I ((checkFr q)).1, I ((checkFr q)).2]
 have hq := (show checkFr q = (0, 0) from if_neg hb)
 rw [hq]
set_option maxRecDepth 100000 in
theorem checked_F {H0 : Heap} (vl : Value) (l : List Frac) (rl : Rd NoB H0 vl l) : CallsH Try.prog 84 #[vl] H0 (fun rv_ H' => Ext NoB H0 H' ∧ rv_ = Vg #[I ((frsF l)).1, I ((frsF l)).2]) := by
 have hsm : l.length * 16 ≤ 140737488355328 := (Rd.list.1 rl).bound
 have hS0 : St H0 NoB NoB [rdE vl l] H0 := St.arg (St.start (fun _ h => h.elim)) (Bl0.nil) rl (fun _ h => h)
 refine callsH_of_wpF (args := [vl]) (rs := [.cell 2 28]) Try.func84 rfl Try.ntmps84 Try.results84 (by kernel_rfl) (Nat.le_of_ble_eq_true rfl) ?_
 have y0 : argF [vl] 0 = vl := rfl
 generalize argF [vl] = f0 at *
 refine fcr (fun f H => ∃ (g1 : Nat), f 0 = vl ∧ f 2 = PT g1 0 ∧ St H0 NoB NoB [bE g1 #[I (0), I (0)] 28, rdE vl l] H) ?_ ?_
 ·refine lo rfl ?_
  refine e_alloc rfl Try.zeroValue28 hS0 (fun g1 H2 hS3 hxx => ?_)
  exact ⟨g1, y0, rfl, hS3⟩
 clear y0
 rintro f4 H4 ⟨g1, y0, y2, hS4⟩
 refine wpF_seq ?_
 refine fcr (fun f H => f 2 = PT g1 0 ∧ f 5 = vl ∧ f 6 = I ((l.length : Int)) ∧ f 7 = I (0) ∧ H4 = H) ?_ ?_
 ·refine lm (v := vl) rfl rfl y0 ?_
  refine lq rfl (q_lenRd rfl Try.underlying126 rfl (hS4.rdl 1 rfl)) ?_
  refine lm (v := I (0)) rfl rfl rfl ?_
  exact ⟨y2, rfl, rfl, rfl, rfl⟩
 clear y0 y2
 rintro f5 _ ⟨y2, y5, y6, y7, rfl⟩
 refine wpF_block ?_
 refine wpF_loop (fun mz f H => ∃ (k : Nat), mz = l.length - k ∧ (k ≤ l.length) ∧ (∀ j, j < k → ¬ frBad (nth l j)) ∧ f 2 = PT g1 0 ∧ f 5 = vl ∧ f 6 = I ((l.length : Int)) ∧ f 7 = I ((k : Int)) ∧ St H0 NoB NoB [bE g1 #[I (0), I (0)] 28, rdE vl l] H) (l.length - 0) ?_ ?_
 ·exact ⟨0, rfl, Nat.zero_le _, (fun j hj => absurd hj (Nat.not_lt_zero j)), y2, y5, y6, (Eq.trans y7 (congrArg I (by omega))), hS4⟩
 intro m6 f6 H6 hI6
 clear y2 y5 y6 y7
 obtain ⟨k, hm6, hk, hp, y2, y5, y6, y7, hS6⟩ := hI6
 refine fcr (fun f H => f 2 = PT g1 0 ∧ f 5 = vl ∧ f 6 = I ((l.length : Int)) ∧ f 7 = I ((k : Int)) ∧ f 8 = B (decide ((k : Int) < (l.length : Int))) ∧ H6 = H) ?_ ?_
 ·refine lq rfl (q_lss rfl y7 y6) ?_
  exact ⟨y2, y5, y6, y7, rfl, rfl⟩
 clear y2 y5 y6 y7
 rintro f7 _ ⟨y2, y5, y6, y7, y8, rfl⟩
 refine wpF_seq ?_
 refine wpF_condP y8 (fun hlt => ?t29) (fun hlt => ?e29)
 case e29 =>
  refine wpF_exit ?_
  refine atX_here ?_
  refine fcr (fun f H => f 2 = PT g1 0 ∧ St H0 NoB NoB [bE g1 #[I (0), I (0)] 28, rdE vl l] H) ?_ ?_
  ·refine lq rfl (q_build (v := Vg #[I (0), I (0)]) rfl par0 (fun w__ => by kernel_rfl)) ?_
   refine lo rfl ?_
   refine e_storeBlkA (cs' := #[I (0), I (0)]) rfl y2 rfl Try.sizeOf28 rfl rfl (fa rfl (fa rfl fe)) hS6 (fun H26 hS27 hxx => ?_)
   exact ⟨y2, hS27⟩
  clear y2 y5 y6 y7 y8
  rintro f28 H28 ⟨y2, hS28⟩
  refine wpF_ret ?_
  refine ⟨_, resC y2 (loadV_blkA Try.isAgg28 Try.sizeOf28 rfl (hS28.blk 0 rfl)) (resN), hS28.frame, ?_⟩
  show (Vg #[I (0), I (0)]) = Vg #[I ((frsF l)).1, I ((frsF l)).2]
  have hq := frsF_no fun j hj => hp j (by omega)
  rw [hq]
 refine wpF_skip ?_
 refine wpF_seq ?_
 refine wpF_block ?_
 refine fcr (fun f H => ∃ (g10 : Nat), (In64 (nth l k).Num) ∧ (In64 (nth l k).Den) ∧ f 2 = PT g1 0 ∧ f 3 = I ((k : Int)) ∧ f 4 = PT g10 0 ∧ f 5 = vl ∧ f 6 = I ((l.length : Int)) ∧ f 7 = I ((k : Int)) ∧ St H0 NoB NoB [bE g10 #[I ((nth l k).Num), I ((nth l k).Den)] 66, bE g1 #[I (0), I (0)] 28, rdE vl l] H) ?_ ?_
 ·refine lm (v := I ((k : Int))) rfl rfl y7 ?_
  refine lq rfl (q_indexRd (k := k) rfl Try.underlying126 el_Frac_66_MeanC1 y5 y7 (hS6.rdl 1 rfl) (by omega) (by omega)) ?_
  obtain ⟨u9, huu9, hlu9⟩ := (Rd.list.1 (hS6.rdS 1 rfl)).elem k (by omega)
  obtain ⟨rfl, hu90, hu91⟩ := Rd.frac.1 huu9
  refine lq rfl (q_loadE rfl rfl (hlu9 Try.prog 66 _ el_Frac_66_MeanC1 (fun _ h => False.elim h))) ?_
  refine lo rfl ?_
  refine e_alloc rfl Try.zeroValue66 hS6 (fun g10 H11 hS12 hxx => ?_)
  refine la (v := I ((k : Int))) rfl rfl rfl ?_
  refine lo rfl ?_
  refine e_storeBlkA (cs' := #[I ((nth l k).Num), I ((nth l k).Den)]) rfl rfl rfl Try.sizeOf66 rfl rfl (fa rfl (fa rfl fe)) hS12 (fun H13 hS14 hxx => ?_)
  exact ⟨g10, hu90, hu91, y2, rfl, rfl, y5, y6, y7, hS14⟩
 clear y2 y5 y6 y7 y8
 rintro f15 H15 ⟨g10, hu90, hu91, y2, y3, y4, y5, y6, y7, hS15⟩
 refine fcr (fun f H => f 2 = PT g1 0 ∧ f 3 = I ((k : Int)) ∧ f 5 = vl ∧ f 6 = I ((l.length : Int)) ∧ f 7 = I ((k : Int)) ∧ f 15 = B (decide ((((checkFr (nth l k))).1) ≠ 0)) ∧ St H0 NoB NoB [bE g10 #[I ((nth l k).Num), I ((nth l k).Den)] 66, bE g1 #[I (0), I (0)] 28, rdE vl l] H) ?_ ?_
 ·refine lq rfl (q_loadBlkA rfl y4 Try.isAgg66 Try.sizeOf66 rfl (hS15.blk 0 rfl) (fun h => h)) ?_
  refine lo rfl ?_
  refine e_call rfl Try.call65 (arr1 (v0 := Vg #[I ((nth l k).Num), I ((nth l k).Den)]) rfl) (Check_F  (nth l k) (by first | assumption | (constructor <;> omega)) (by first | assumption | (constructor <;> omega)) ) ?_
  rintro _ H16 ⟨hxx, rfl⟩
  have hS17 := hS15.ext hxx
  refine lq rfl (q_field (cs := #[I (((checkFr (nth l k))).1), I (((checkFr (nth l k))).2)]) (v := I (((checkFr (nth l k))).1)) rfl Try.underlying28 rfl Try.isAgg3 rfl rfl) ?_
  refine lq rfl (q_neq rfl rfl rfl) ?_
  exact ⟨y2, y3, y5, y6, y7, rfl, hS17⟩
 clear y2 y3 y4 y5 y6 y7
 rintro f19 H19 ⟨y2, y3, y5, y6, y7, y15, hS19⟩
 refine wpF_condP y15 (fun hb => ?t25) (fun hb => ?e25)
 case e25 =>
  refine wpF_skip ?_
  refine wpF_cut (fun f H => f 2 = PT g1 0 ∧ f 5 = vl ∧ f 6 = I ((l.length : Int)) ∧ f 7 = I ((k : Int) + 1) ∧ H19 = H) ?_ ?_
  ·refine wpF_region ?_
   refine lq rfl (q_add rfl y7 rfl (by constructor <;> omega)) ?_
   refine lm (v := I ((k : Int) + 1)) rfl rfl rfl ?_
   exact ⟨y2, y5, y6, rfl, rfl⟩
  clear y15 y2 y3 y5 y6 y7
  rintro f24 _ ⟨y2, y5, y6, y7, rfl⟩
  refine ⟨_, ?_, k + 1, rfl, (by omega), (all_succ hp fun h => hb (chk_ne.2 h)), y2, y5, y6, (Eq.trans y7 (congrArg I (by omega))), (hS19.drop (sn (sk (sk (List.Sublist.slnil)))))⟩
  omega
 refine fcr (fun f H => f 2 = PT g1 0 ∧ St H0 NoB NoB [bE g1 #[I (3), I ((k : Int))] 28, bE g10 #[I ((nth l k).Num), I ((nth l k).Den)] 66, rdE vl l] H) ?_ ?_
 ·refine lm (v := I ((k : Int))) rfl rfl y3 ?_
  refine lq rfl (q_build (v := Vg #[I (3), I ((k : Int))]) rfl (par2 (v0 := I (3)) (v1 := I ((k : Int))) rfl rfl) (fun w__ => by kernel_rfl)) ?_
  refine lo rfl ?_
  refine e_storeBlkA (cs' := #[I (3), I ((k : Int))]) rfl y2 rfl Try.sizeOf28 rfl rfl (fa rfl (fa rfl fe)) (hS19.front 1 rfl) (fun H21 hS22 hxx => ?_)
  exact ⟨y2, hS22⟩
 clear y15 y2 y3 y5 y6 y7
 rintro f23 H23 ⟨y2, hS23⟩
 refine wpF_ret ?_
 refine ⟨_, resC y2 (loadV_blkA Try.isAgg28 Try.sizeOf28 rfl (hS23.blk 0 rfl)) (resN), hS23.frame, ?_⟩
 show (Vg #[I (3), I ((k : Int))]) = Vg #[I ((frsF l)).1, I ((frsF l)).2]
 have hq := frsF_at (by omega) hp (chk_ne.1 hb)
 rw [hq]
set_option maxHeartbeats 1000000 in
set_option maxRecDepth 100000 in
theorem Make_F {H0 : Heap} (n d : Int) (h6n : In64 n) (h6d : In64 d) : CallsH Try.prog 92 #[I (n), I (d)] H0 (fun rv_ H' => Ext NoB H0 H' ∧ rv_ = Value.tuple #[Vg #[I (makeF n d).1.Num, I (makeF n d).1.Den], Vg #[I (makeF n d).2.1, I (makeF n d).2.2]]) := by
 have hS0 : St H0 NoB NoB [] H0 := St.start (fun _ h => h.elim)
 refine callsH_of_wpF (args := [I (n), I (d)]) (rs := [.cell 4 66, .cell 5 28]) Try.func92 rfl Try.ntmps92 Try.results92 (by kernel_rfl) (Nat.le_of_ble_eq_true rfl) ?_
 have y0 : argF [I (n), I (d)] 0 = I (n) := rfl
 have y1 : argF [I (n), I (d)] 1 = I (d) := rfl
 generalize argF [I (n), I (d)] = f0 at *
 refine fcr (fun f H => ∃ (g1 : Nat), ∃ (g4 : Nat), f 0 = I (n) ∧ f 1 = I (d) ∧ f 4 = PT g1 0 ∧ f 5 = PT g4 0 ∧ St H0 NoB NoB [bE g4 #[I (0), I (0)] 28, bE g1 #[I (0), I (0)] 66] H) ?_ ?_
 ·refine lo rfl ?_
  refine e_alloc rfl Try.zeroValue66 hS0 (fun g1 H2 hS3 hxx => ?_)
  refine lo rfl ?_
  refine e_alloc rfl Try.zeroValue28 hS3 (fun g4 H5 hS6 hxx => ?_)
  exact ⟨g1, g4, y0, y1, rfl, rfl, hS6⟩
 clear y0 y1
 rintro f7 H7 ⟨g1, g4, y0, y1, y4, y5, hS7⟩
 refine wpF_seq ?_
 refine fcr (fun f H => f 0 = I (n) ∧ f 1 = I (d) ∧ f 4 = PT g1 0 ∧ f 5 = PT g4 0 ∧ f 11 = B (decide (d = 0)) ∧ H7 = H) ?_ ?_
 ·refine lm (v := I (d)) rfl rfl y1 ?_
  refine lq rfl (q_eql rfl rfl rfl) ?_
  exact ⟨y0, y1, y4, y5, rfl, rfl⟩
 clear y0 y1 y4 y5
 rintro f8 _ ⟨y0, y1, y4, y5, y11, rfl⟩
 refine wpF_condP y11 (fun h11 => ?t57) (fun h11 => ?e57)
 case t57 =>
  refine fcr (fun f H => f 4 = PT g1 0 ∧ f 5 = PT g4 0 ∧ St H0 NoB NoB [bE g4 #[I (6), I (0)] 28, bE g1 #[I (0), I (0)] 66] H) ?_ ?_
  ·refine lq rfl (q_build (v := Vg #[I (0), I (0)]) rfl par0 (fun w__ => by kernel_rfl)) ?_
   refine lq rfl (q_build (v := Vg #[I (6), I (0)]) rfl (par1 (v0 := I (6)) rfl) (fun w__ => by kernel_rfl)) ?_
   refine lo rfl ?_
   refine e_storeBlkA (cs' := #[I (0), I (0)]) rfl y4 rfl Try.sizeOf66 rfl rfl (fa rfl (fa rfl fe)) (hS7.front 1 rfl) (fun H10 hS11 hxx => ?_)
   refine lo rfl ?_
   refine e_storeBlkA (cs' := #[I (6), I (0)]) rfl y5 rfl Try.sizeOf28 rfl rfl (fa rfl (fa rfl fe)) (hS11.front 1 rfl) (fun H12 hS13 hxx => ?_)
   exact ⟨y4, y5, hS13⟩
  clear y0 y1 y11 y4 y5
  rintro f14 H14 ⟨y4, y5, hS14⟩
  refine wpF_ret ?_
  refine ⟨_, resC y4 (loadV_blkA Try.isAgg66 Try.sizeOf66 rfl (hS14.blk 1 rfl)) (resC y5 (loadV_blkA Try.isAgg28 Try.sizeOf28 rfl (hS14.blk 0 rfl)) (resN)), hS14.frame, ?_⟩
  show (Value.tuple #[Vg #[I (0), I (0)], Vg #[I (6), I (0)]]) = Value.tuple #[Vg #[I (makeF n d).1.Num, I (makeF n d).1.Den], Vg #[I (makeF n d).2.1, I (makeF n d).2.2]]
  have hq_ : makeF n d = _ := makeF_zero h11
  rw [hq_]
 have hg0 : ¬ Nat.gcd n.natAbs d.natAbs = 0 := fun e => h11 (by have := Nat.eq_zero_of_gcd_eq_zero_right e; omega)
 have hna : n.natAbs ≤ 9223372036854775808 := by have := h6n.1; have := h6n.2; omega
 have hda : d.natAbs ≤ 9223372036854775808 := by have := h6d.1; have := h6d.2; omega
 have hqn : (0 : Int) ≤ ((n.natAbs / Nat.gcd n.natAbs d.natAbs : Nat) : Int) := Int.natCast_nonneg _
 have hqd : (0 : Int) ≤ ((d.natAbs / Nat.gcd n.natAbs d.natAbs : Nat) : Int) := Int.natCast_nonneg _
 refine wpF_skip ?_
 refine fcr (fun f H => f 0 = I (n) ∧ f 1 = I (d) ∧ f 4 = PT g1 0 ∧ f 5 = PT g4 0 ∧ f 6 = U64 (((n.natAbs : Nat) : Int)) ∧ f 7 = U64 (((d.natAbs : Nat) : Int)) ∧ St H0 NoB NoB [bE g4 #[I (0), I (0)] 28, bE g1 #[I (0), I (0)] 66] H) ?_ ?_
 ·refine lm (v := I (n)) rfl rfl y0 ?_
  refine lo rfl ?_
  refine e_call rfl Try.call80 (arr1 (v0 := I (n)) rfl) (size_L n (by first | assumption | (constructor <;> (try dsimp only) <;> omega))) ?_
  rintro _ H15 ⟨hxx, rfl⟩
  have hS16 := hS7.ext hxx
  refine lm (v := I (d)) rfl rfl y1 ?_
  refine lo rfl ?_
  refine e_call rfl Try.call80 (arr1 (v0 := I (d)) rfl) (size_L d (by first | assumption | (constructor <;> (try dsimp only) <;> omega))) ?_
  rintro _ H18 ⟨hxx, rfl⟩
  have hS19 := hS16.ext hxx
  refine la (v := U64 (((n.natAbs : Nat) : Int))) rfl rfl rfl ?_
  refine la (v := U64 (((d.natAbs : Nat) : Int))) rfl rfl rfl ?_
  exact ⟨y0, y1, y4, y5, rfl, rfl, hS19⟩
 clear y0 y1 y11 y4 y5
 rintro f21 H21 ⟨y0, y1, y4, y5, y6, y7, hS21⟩
 refine fcr (fun f H => f 0 = I (n) ∧ f 1 = I (d) ∧ f 4 = PT g1 0 ∧ f 5 = PT g4 0 ∧ f 6 = U64 (((n.natAbs : Nat) : Int)) ∧ f 7 = U64 (((d.natAbs : Nat) : Int)) ∧ f 8 = U64 (((Nat.gcd n.natAbs d.natAbs : Nat) : Int)) ∧ St H0 NoB NoB [bE g4 #[I (0), I (0)] 28, bE g1 #[I (0), I (0)] 66] H) ?_ ?_
 ·refine lm (v := U64 (((n.natAbs : Nat) : Int))) rfl rfl y6 ?_
  refine lm (v := U64 (((d.natAbs : Nat) : Int))) rfl rfl y7 ?_
  refine lo rfl ?_
  refine e_call rfl Try.call79 (arr2 (v0 := U64 (((n.natAbs : Nat) : Int))) (v1 := U64 (((d.natAbs : Nat) : Int))) rfl rfl) (gcdU_L n.natAbs d.natAbs) ?_
  rintro _ H22 ⟨hxx, rfl⟩
  have hS23 := hS21.ext hxx
  refine la (v := U64 (((Nat.gcd n.natAbs d.natAbs : Nat) : Int))) rfl rfl rfl ?_
  exact ⟨y0, y1, y4, y5, y6, y7, rfl, hS23⟩
 clear y0 y1 y4 y5 y6 y7
 rintro f25 H25 ⟨y0, y1, y4, y5, y6, y7, y8, hS25⟩
 refine wpF_seq ?_
 refine sc (fun f H => f 0 = I (n) ∧ f 1 = I (d) ∧ f 4 = PT g1 0 ∧ f 5 = PT g4 0 ∧ f 6 = U64 (((n.natAbs / (Nat.gcd n.natAbs d.natAbs) : Nat) : Int)) ∧ f 7 = U64 (((d.natAbs / (Nat.gcd n.natAbs d.natAbs) : Nat) : Int)) ∧ H25 = H) ?_ ?_
 ·refine wpF_drawn [] [] (fun _ _ => False) (by kernel_rfl) (by kernel_rfl) ?_
  refine rq 0 (by kernel_rfl) rfl rfl (q_move (v := U64 (((n.natAbs : Nat) : Int))) rfl y6) ?_
  refine rq 1 (by kernel_rfl) rfl rfl (q_move (v := U64 (((Nat.gcd n.natAbs d.natAbs : Nat) : Int))) rfl y8) ?_
  refine rq 2 (by kernel_rfl) rfl rfl (q_quoU (a := n.natAbs) (b := Nat.gcd n.natAbs d.natAbs) rfl rfl rfl (by exact hg0) (by omega)) ?_
  refine rq 3 (by kernel_rfl) rfl rfl (q_move (v := U64 (((d.natAbs : Nat) : Int))) rfl y7) ?_
  refine rq 4 (by kernel_rfl) rfl rfl (q_move (v := U64 (((Nat.gcd n.natAbs d.natAbs : Nat) : Int))) rfl y8) ?_
  refine rq 5 (by kernel_rfl) rfl rfl (q_quoU (a := d.natAbs) (b := Nat.gcd n.natAbs d.natAbs) rfl rfl rfl (by exact hg0) (by omega)) ?_
  refine rq 6 (by kernel_rfl) rfl rfl (q_assign (v := U64 (((n.natAbs / (Nat.gcd n.natAbs d.natAbs) : Nat) : Int))) rfl rfl) ?_
  refine rq 7 (by kernel_rfl) rfl rfl (q_assign (v := U64 (((d.natAbs / (Nat.gcd n.natAbs d.natAbs) : Nat) : Int))) rfl rfl) ?_
  refine wpR_end (by kernel_rfl) ?_
  exact ⟨y0, y1, y4, y5, rfl, rfl, rfl⟩
 clear y0 y1 y4 y5 y6 y7 y8
 rintro f27 _ ⟨y0, y1, y4, y5, y6, y7, rfl⟩
 refine fcr (fun f H => f 0 = I (n) ∧ f 1 = I (d) ∧ f 4 = PT g1 0 ∧ f 5 = PT g4 0 ∧ f 6 = U64 (((n.natAbs / (Nat.gcd n.natAbs d.natAbs) : Nat) : Int)) ∧ f 7 = U64 (((d.natAbs / (Nat.gcd n.natAbs d.natAbs) : Nat) : Int)) ∧ f 32 = B (decide ((((1073741824 : Nat) : Int) < ((n.natAbs / (Nat.gcd n.natAbs d.natAbs) : Nat) : Int)) ∨ (((1073741824 : Nat) : Int) < ((d.natAbs / (Nat.gcd n.natAbs d.natAbs) : Nat) : Int)))) ∧ H25 = H) ?_ ?_
 ·refine lm (v := U64 (((n.natAbs / (Nat.gcd n.natAbs d.natAbs) : Nat) : Int))) rfl rfl y6 ?_
  refine lq rfl (q_gtrU rfl rfl rfl) ?_
  refine lm (v := B (decide (((1073741824 : Nat) : Int) < ((n.natAbs / (Nat.gcd n.natAbs d.natAbs) : Nat) : Int)))) rfl rfl rfl ?_
  by_cases hg28 : ((1073741824 : Nat) : Int) < ((n.natAbs / (Nat.gcd n.natAbs d.natAbs) : Nat) : Int)
  ·have hb29 := Eq.trans rfl (congrArg B (decide_eq_true hg28))
   refine wpL_gs rfl rfl rfl hb29 rfl ?_
   refine wpL_gs rfl rfl rfl hb29 rfl ?_
   refine lq rfl (q_pickT (v := B (true)) rfl hb29 rfl) ?_
   exact ⟨y0, y1, y4, y5, y6, y7, (Eq.trans rfl (congrArg B ((decide_eq_true (Or.inl hg28)).symm))), rfl⟩
  ·have hb30 := Eq.trans rfl (congrArg B (decide_eq_false hg28))
   refine gq rfl rfl rfl hb30 (q_move (v := U64 (((d.natAbs / (Nat.gcd n.natAbs d.natAbs) : Nat) : Int))) rfl y7) ?_
   refine gq rfl rfl rfl hb30 (q_gtrU rfl rfl rfl) ?_
   refine lq rfl (q_pickF (v := B (decide (((1073741824 : Nat) : Int) < ((d.natAbs / (Nat.gcd n.natAbs d.natAbs) : Nat) : Int)))) rfl hb30 rfl) ?_
   exact ⟨y0, y1, y4, y5, y6, y7, (Eq.trans rfl (congrArg B (decide_congr_of ((Iff.rfl).trans (((or_iff_right hg28).trans Iff.rfl)).symm)))), rfl⟩
 clear y0 y1 y4 y5 y6 y7
 rintro f31 _ ⟨y0, y1, y4, y5, y6, y7, y32, rfl⟩
 refine wpF_condP y32 (fun h32 => ?t56) (fun h32 => ?e56)
 case t56 =>
  refine fcr (fun f H => f 4 = PT g1 0 ∧ f 5 = PT g4 0 ∧ St H0 NoB NoB [bE g4 #[I (10), I (0)] 28, bE g1 #[I (0), I (0)] 66] H) ?_ ?_
  ·refine lq rfl (q_build (v := Vg #[I (0), I (0)]) rfl par0 (fun w__ => by kernel_rfl)) ?_
   refine lq rfl (q_build (v := Vg #[I (10), I (0)]) rfl (par1 (v0 := I (10)) rfl) (fun w__ => by kernel_rfl)) ?_
   refine lo rfl ?_
   refine e_storeBlkA (cs' := #[I (0), I (0)]) rfl y4 rfl Try.sizeOf66 rfl rfl (fa rfl (fa rfl fe)) (hS25.front 1 rfl) (fun H33 hS34 hxx => ?_)
   refine lo rfl ?_
   refine e_storeBlkA (cs' := #[I (10), I (0)]) rfl y5 rfl Try.sizeOf28 rfl rfl (fa rfl (fa rfl fe)) (hS34.front 1 rfl) (fun H35 hS36 hxx => ?_)
   exact ⟨y4, y5, hS36⟩
  clear y0 y1 y32 y4 y5 y6 y7
  rintro f37 H37 ⟨y4, y5, hS37⟩
  refine wpF_ret ?_
  refine ⟨_, resC y4 (loadV_blkA Try.isAgg66 Try.sizeOf66 rfl (hS37.blk 1 rfl)) (resC y5 (loadV_blkA Try.isAgg28 Try.sizeOf28 rfl (hS37.blk 0 rfl)) (resN)), hS37.frame, ?_⟩
  show (Value.tuple #[Vg #[I (0), I (0)], Vg #[I (10), I (0)]]) = Value.tuple #[Vg #[I (makeF n d).1.Num, I (makeF n d).1.Den], Vg #[I (makeF n d).2.1, I (makeF n d).2.2]]
  have hq_ : makeF n d = _ := makeF_much h11 h32
  rw [hq_]
 refine wpF_skip ?_
 refine fcr (fun f H => ∃ (g38 : Nat), f 0 = I (n) ∧ f 1 = I (d) ∧ f 4 = PT g1 0 ∧ f 5 = PT g4 0 ∧ f 9 = PT g38 0 ∧ St H0 NoB NoB [bE g38 #[I (((n.natAbs / (Nat.gcd n.natAbs d.natAbs) : Nat) : Int)), I (((d.natAbs / (Nat.gcd n.natAbs d.natAbs) : Nat) : Int))] 66, bE g4 #[I (0), I (0)] 28, bE g1 #[I (0), I (0)] 66] H) ?_ ?_
 ·refine lm (v := U64 (((n.natAbs / (Nat.gcd n.natAbs d.natAbs) : Nat) : Int))) rfl rfl y6 ?_
  refine lq rfl (q_convI rfl Try.underlying115 Try.underlying3 rfl (by omega)) ?_
  refine lm (v := U64 (((d.natAbs / (Nat.gcd n.natAbs d.natAbs) : Nat) : Int))) rfl rfl y7 ?_
  refine lq rfl (q_convI rfl Try.underlying115 Try.underlying3 rfl (by omega)) ?_
  refine lq rfl (q_build (v := Vg #[I (((n.natAbs / (Nat.gcd n.natAbs d.natAbs) : Nat) : Int)), I (((d.natAbs / (Nat.gcd n.natAbs d.natAbs) : Nat) : Int))]) rfl (par2 (v0 := I (((n.natAbs / (Nat.gcd n.natAbs d.natAbs) : Nat) : Int))) (v1 := I (((d.natAbs / (Nat.gcd n.natAbs d.natAbs) : Nat) : Int))) rfl rfl) (fun w__ => by kernel_rfl)) ?_
  refine lo rfl ?_
  refine e_alloc rfl Try.zeroValue66 hS25 (fun g38 H39 hS40 hxx => ?_)
  refine lo rfl ?_
  refine e_storeBlkA (cs' := #[I (((n.natAbs / (Nat.gcd n.natAbs d.natAbs) : Nat) : Int)), I (((d.natAbs / (Nat.gcd n.natAbs d.natAbs) : Nat) : Int))]) rfl rfl rfl Try.sizeOf66 rfl rfl (fa rfl (fa rfl fe)) hS40 (fun H41 hS42 hxx => ?_)
  exact ⟨g38, y0, y1, y4, y5, rfl, hS42⟩
 clear y0 y1 y32 y4 y5 y6 y7
 rintro f43 H43 ⟨g38, y0, y1, y4, y5, y9, hS43⟩
 refine wpF_seq ?_
 refine fcr (fun f H => f 4 = PT g1 0 ∧ f 5 = PT g4 0 ∧ f 9 = PT g38 0 ∧ f 44 = B (decide ((decide (n < 0)) ≠ (decide (d < 0)))) ∧ H43 = H) ?_ ?_
 ·refine lm (v := I (n)) rfl rfl y0 ?_
  refine lq rfl (q_lss rfl rfl rfl) ?_
  refine lm (v := I (d)) rfl rfl y1 ?_
  refine lq rfl (q_lss rfl rfl rfl) ?_
  refine lq rfl (q_neqB rfl Try.underlying4 rfl rfl) ?_
  exact ⟨y4, y5, y9, rfl, rfl⟩
 clear y0 y1 y4 y5 y9
 rintro f44 _ ⟨y4, y5, y9, y44, rfl⟩
 refine wpF_cut (fun f H => f 4 = PT g1 0 ∧ f 5 = PT g4 0 ∧ f 9 = PT g38 0 ∧ St H0 NoB NoB [bE g38 #[I ((if decide (n < 0) ≠ decide (d < 0) then -((n.natAbs / Nat.gcd n.natAbs d.natAbs : Nat) : Int) else ((n.natAbs / Nat.gcd n.natAbs d.natAbs : Nat) : Int))), I (((d.natAbs / (Nat.gcd n.natAbs d.natAbs) : Nat) : Int))] 66, bE g4 #[I (0), I (0)] 28, bE g1 #[I (0), I (0)] 66] H) ?_ ?_
 ·refine wpF_condP y44 (fun h44 => ?t50) (fun h44 => ?e50)
  case e50 =>
   refine wpF_skip ?_
   exact ⟨y4, y5, y9, (by have h__ := hS43; rw [if_neg h44]; exact h__)⟩
  refine wpF_cut (fun f H => f 4 = PT g1 0 ∧ f 5 = PT g4 0 ∧ f 9 = PT g38 0 ∧ St H0 NoB NoB [bE g38 #[I (-((n.natAbs / (Nat.gcd n.natAbs d.natAbs) : Nat) : Int)), I (((d.natAbs / (Nat.gcd n.natAbs d.natAbs) : Nat) : Int))] 66, bE g4 #[I (0), I (0)] 28, bE g1 #[I (0), I (0)] 66] H) ?_ ?_
  ·refine wpF_region ?_
   refine lq rfl (q_fieldAddr rfl Try.underlying66 rfl Try.sizeOf3 y9) ?_
   refine lq rfl (q_loadBlk rfl rfl Try.isAgg3 (hS43.blk 0 rfl) rfl (fun h => h)) ?_
   refine lq rfl (q_neg rfl rfl (by constructor <;> omega)) ?_
   refine lq rfl (q_fieldAddr rfl Try.underlying66 rfl Try.sizeOf3 y9) ?_
   refine lo rfl ?_
   refine e_storeBlk (v := I (-((n.natAbs / (Nat.gcd n.natAbs d.natAbs) : Nat) : Int))) rfl rfl rfl rfl Try.sizeOf3 (by show _ < 2; decide) hS43 (fun H47 hS48 hxx => ?_)
   exact ⟨y4, y5, y9, hS48⟩
  clear y4 y44 y5 y9
  rintro f49 H49 ⟨y4, y5, y9, hS49⟩
  exact ⟨y4, y5, y9, (by have h__ := hS49; rw [if_pos h44]; exact h__)⟩
 clear y4 y44 y5 y9
 rintro f45 H45 ⟨y4, y5, y9, hS45⟩
 refine fcr (fun f H => f 4 = PT g1 0 ∧ f 5 = PT g4 0 ∧ St H0 NoB NoB [bE g4 #[I (0), I (0)] 28, bE g1 #[I ((if decide (n < 0) ≠ decide (d < 0) then -((n.natAbs / Nat.gcd n.natAbs d.natAbs : Nat) : Int) else ((n.natAbs / Nat.gcd n.natAbs d.natAbs : Nat) : Int))), I (((d.natAbs / (Nat.gcd n.natAbs d.natAbs) : Nat) : Int))] 66, bE g38 #[I ((if decide (n < 0) ≠ decide (d < 0) then -((n.natAbs / Nat.gcd n.natAbs d.natAbs : Nat) : Int) else ((n.natAbs / Nat.gcd n.natAbs d.natAbs : Nat) : Int))), I (((d.natAbs / (Nat.gcd n.natAbs d.natAbs) : Nat) : Int))] 66] H) ?_ ?_
 ·refine lq rfl (q_loadBlkA rfl y9 Try.isAgg66 Try.sizeOf66 rfl (hS45.blk 0 rfl) (fun h => h)) ?_
  refine lq rfl (q_build (v := Vg #[I (0), I (0)]) rfl par0 (fun w__ => by kernel_rfl)) ?_
  refine lo rfl ?_
  refine e_storeBlkA (cs' := #[I ((if decide (n < 0) ≠ decide (d < 0) then -((n.natAbs / Nat.gcd n.natAbs d.natAbs : Nat) : Int) else ((n.natAbs / Nat.gcd n.natAbs d.natAbs : Nat) : Int))), I (((d.natAbs / (Nat.gcd n.natAbs d.natAbs) : Nat) : Int))]) rfl y4 rfl Try.sizeOf66 rfl rfl (fa rfl (fa rfl fe)) (hS45.front 2 rfl) (fun H51 hS52 hxx => ?_)
  refine lo rfl ?_
  refine e_storeBlkA (cs' := #[I (0), I (0)]) rfl y5 rfl Try.sizeOf28 rfl rfl (fa rfl (fa rfl fe)) (hS52.front 2 rfl) (fun H53 hS54 hxx => ?_)
  exact ⟨y4, y5, hS54⟩
 clear y4 y5 y9
 rintro f55 H55 ⟨y4, y5, hS55⟩
 refine wpF_ret ?_
 refine ⟨_, resC y4 (loadV_blkA Try.isAgg66 Try.sizeOf66 rfl (hS55.blk 1 rfl)) (resC y5 (loadV_blkA Try.isAgg28 Try.sizeOf28 rfl (hS55.blk 0 rfl)) (resN)), hS55.frame, ?_⟩
 show (Value.tuple #[Vg #[I ((if decide (n < 0) ≠ decide (d < 0) then -((n.natAbs / Nat.gcd n.natAbs d.natAbs : Nat) : Int) else ((n.natAbs / Nat.gcd n.natAbs d.natAbs : Nat) : Int))), I (((d.natAbs / (Nat.gcd n.natAbs d.natAbs) : Nat) : Int))], Vg #[I (0), I (0)]]) = Value.tuple #[Vg #[I (makeF n d).1.Num, I (makeF n d).1.Den], Vg #[I (makeF n d).2.1, I (makeF n d).2.2]]
 have hq_ : makeF n d = _ := makeF_ok h11 h32
 rw [hq_]
set_option maxHeartbeats 1000000 in
set_option maxRecDepth 100000 in
theorem apply_F {H0 : Heap} (vf : Value) (a b : Frac) (n d : Int) (h6na : In64 a.Num) (h6da : In64 a.Den) (h6nb : In64 b.Num) (h6db : In64 b.Den) (hf : ¬ (frsF [a, b]).1 ≠ 0 → (In64 n ∧ In64 d) ∧ ∀ H, Ext NoB H0 H → FnH Try.prog vf #[Vg #[I a.Num, I a.Den], Vg #[I b.Num, I b.Den]] H (fun rv H' => Ext NoB H H' ∧ rv = Value.tuple #[I n, I d])) : CallsH Try.prog 89 #[Vg #[I (a.Num), I (a.Den)], Vg #[I (b.Num), I (b.Den)], vf] H0 (fun rv_ H' => Ext NoB H0 H' ∧ rv_ = Value.tuple #[Vg #[I (applyF a b n d).1.Num, I (applyF a b n d).1.Den], Vg #[I (applyF a b n d).2.1, I (applyF a b n d).2.2]]) := by
 have hS0 : St H0 NoB NoB [] H0 := St.start (fun _ h => h.elim)
 refine callsH_of_wpF (args := [Vg #[I (a.Num), I (a.Den)], Vg #[I (b.Num), I (b.Den)], vf]) (rs := [.cell 6 66, .cell 7 28]) Try.func89 rfl Try.ntmps89 Try.results89 (by kernel_rfl) (Nat.le_of_ble_eq_true rfl) ?_
 have y0 : argF [Vg #[I (a.Num), I (a.Den)], Vg #[I (b.Num), I (b.Den)], vf] 0 = Vg #[I (a.Num), I (a.Den)] := rfl
 have y1 : argF [Vg #[I (a.Num), I (a.Den)], Vg #[I (b.Num), I (b.Den)], vf] 1 = Vg #[I (b.Num), I (b.Den)] := rfl
 have y2 : argF [Vg #[I (a.Num), I (a.Den)], Vg #[I (b.Num), I (b.Den)], vf] 2 = vf := rfl
 generalize argF [Vg #[I (a.Num), I (a.Den)], Vg #[I (b.Num), I (b.Den)], vf] = f0 at *
 refine fcr (fun f H => ∃ (g1 : Nat), ∃ (g4 : Nat), ∃ (g7 : Nat), ∃ (g10 : Nat), f 2 = vf ∧ f 3 = PT g1 0 ∧ f 4 = PT g4 0 ∧ f 6 = PT g7 0 ∧ f 7 = PT g10 0 ∧ St H0 NoB NoB [bE g10 #[I (0), I (0)] 28, bE g7 #[I (0), I (0)] 66, bE g4 #[I (b.Num), I (b.Den)] 66, bE g1 #[I (a.Num), I (a.Den)] 66] H) ?_ ?_
 ·refine lo rfl ?_
  refine e_box (v := Vg #[I (a.Num), I (a.Den)]) rfl y0 hS0 (fun g1 H2 hS3 hxx => ?_)
  refine lo rfl ?_
  refine e_box (v := Vg #[I (b.Num), I (b.Den)]) rfl y1 hS3 (fun g4 H5 hS6 hxx => ?_)
  refine lo rfl ?_
  refine e_alloc rfl Try.zeroValue66 hS6 (fun g7 H8 hS9 hxx => ?_)
  refine lo rfl ?_
  refine e_alloc rfl Try.zeroValue28 hS9 (fun g10 H11 hS12 hxx => ?_)
  exact ⟨g1, g4, g7, g10, y2, rfl, rfl, rfl, rfl, hS12⟩
 clear y0 y1 y2
 rintro f13 H13 ⟨g1, g4, g7, g10, y2, y3, y4, y6, y7, hS13⟩
 refine wpF_seq ?_
 refine fcr (fun f H => ∃ (v14 : Value), ∃ (g20 : Nat), f 2 = vf ∧ f 3 = PT g1 0 ∧ f 4 = PT g4 0 ∧ f 6 = PT g7 0 ∧ f 7 = PT g10 0 ∧ f 8 = PT g20 0 ∧ St H0 NoB NoB [blkE g20 (.cells #[I (((frsF ([a, b]))).1), I (((frsF ([a, b]))).2)] 28), rowE 66 v14 ([a, b] : List Frac), bE g10 #[I (0), I (0)] 28, bE g7 #[I (0), I (0)] 66, bE g4 #[I (b.Num), I (b.Den)] 66, bE g1 #[I (a.Num), I (a.Den)] 66] H) ?_ ?_
 ·refine lq rfl (q_loadBlkA rfl y3 Try.isAgg66 Try.sizeOf66 rfl (hS13.blk 3 rfl) (fun h => h)) ?_
  refine lq rfl (q_loadBlkA rfl y4 Try.isAgg66 Try.sizeOf66 rfl (hS13.blk 2 rfl) (fun h => h)) ?_
  refine lo rfl ?_
  refine e_buildSlice (vs := [Vg #[I (a.Num), I (a.Den)], Vg #[I (b.Num), I (b.Den)]]) (xs := ([a, b] : List Frac)) rfl Try.underlying126 Try.zeroValue66 rfl Try.sizeOf66 (par2 (v0 := Vg #[I (a.Num), I (a.Den)]) (v1 := Vg #[I (b.Num), I (b.Den)]) rfl rfl) rfl hS13 (RdVs.cons ((Rd.frac (a := a)).2 ⟨rfl, (by first | assumption | (constructor <;> (try dsimp only) <;> omega)), (by first | assumption | (constructor <;> (try dsimp only) <;> omega))⟩) (RdVs.cons ((Rd.frac (a := b)).2 ⟨rfl, (by first | assumption | (constructor <;> (try dsimp only) <;> omega)), (by first | assumption | (constructor <;> (try dsimp only) <;> omega))⟩) (RdVs.nil))) (by decide) (by decide) (fun v14 H15 hS16 hxx hvv14 => ?_)
  refine lo rfl ?_
  refine e_call rfl Try.call84 (arr1 (v0 := v14) rfl) (checked_F v14 ([a, b]) (hS16.rowN 0 rfl) ) ?_
  rintro _ H17 ⟨hxx, rfl⟩
  have hS18 := hS16.ext hxx
  refine lo rfl ?_
  refine e_alloc rfl Try.zeroValue28 hS18 (fun g20 H21 hS22 hxx => ?_)
  refine lo rfl ?_
  refine e_storeBlkA (cs' := #[I (((frsF ([a, b]))).1), I (((frsF ([a, b]))).2)]) rfl rfl rfl Try.sizeOf28 rfl rfl (fa rfl (fa rfl fe)) hS22 (fun H23 hS24 hxx => ?_)
  exact ⟨v14, g20, y2, y3, y4, y6, y7, rfl, hS24⟩
 clear y2 y3 y4 y6 y7
 rintro f25 H25 ⟨v14, g20, y2, y3, y4, y6, y7, y8, hS25⟩
 refine fcr (fun f H => f 2 = vf ∧ f 3 = PT g1 0 ∧ f 4 = PT g4 0 ∧ f 6 = PT g7 0 ∧ f 7 = PT g10 0 ∧ f 8 = PT g20 0 ∧ f 15 = B (decide ((((frsF ([a, b]))).1) ≠ 0)) ∧ H25 = H) ?_ ?_
 ·refine lq rfl (q_fieldAddr rfl Try.underlying28 rfl Try.sizeOf3 y8) ?_
  refine lq rfl (q_loadBlk rfl rfl Try.isAgg3 (hS25.blk 0 rfl) rfl (fun h => h)) ?_
  refine lq rfl (q_neq rfl rfl rfl) ?_
  exact ⟨y2, y3, y4, y6, y7, y8, rfl, rfl⟩
 clear y2 y3 y4 y6 y7 y8
 rintro f26 _ ⟨y2, y3, y4, y6, y7, y8, y15, rfl⟩
 refine wpF_condP y15 (fun h15 => ?t41) (fun h15 => ?e41)
 case t41 =>
  refine sc (fun f H => f 6 = PT g7 0 ∧ f 7 = PT g10 0 ∧ St H0 NoB NoB [blkE g10 (.cells #[I (((frsF ([a, b]))).1), I (((frsF ([a, b]))).2)] 28), bE g7 #[I (0), I (0)] 66, blkE g20 (.cells #[I (((frsF ([a, b]))).1), I (((frsF ([a, b]))).2)] 28), rowE 66 v14 ([a, b] : List Frac), bE g4 #[I (b.Num), I (b.Den)] 66, bE g1 #[I (a.Num), I (a.Den)] 66] H) ?_ ?_
  ·refine wpF_drawn [none, none, some 0, some 1] [[], [0], [], []] (fun l b => match l with | 0 => b = g7 | 1 => True | _ => False) (by kernel_rfl) (by kernel_rfl) ?_
   refine rq 0 (by kernel_rfl) rfl rfl (q_build (v := Vg #[I (0), I (0)]) rfl par0 (fun w__ => by kernel_rfl)) ?_
   refine rq 1 (by kernel_rfl) rfl rfl (q_loadBlkA rfl y8 Try.isAgg28 Try.sizeOf28 rfl (hS25.blk 0 rfl) (labU_not [0] rfl (fa (fun hb => hS25.dis 0 3 (by decide) rfl rfl _ rfl hb) fe))) ?_
   refine wpR_n [2] (by kernel_rfl) ?_
   refine fa ?_ fe
   refine exE rfl rfl ?_
   refine e_storeBlkA (cs' := #[I (0), I (0)]) rfl y6 rfl Try.sizeOf66 rfl rfl (fa rfl (fa rfl fe)) (hS25.front 3 rfl) (fun H28o2 hS28o2 hxx => ?_)
   refine ⟨Ext.mono hxx (labS_of 0 rfl (fun b hb => hb)), ?_⟩
   refine wpR_n [3] (by kernel_rfl) ?_
   refine fa ?_ fe
   refine exE rfl rfl ?_
   refine e_storeBlkA (cs' := #[I (((frsF ([a, b]))).1), I (((frsF ([a, b]))).2)]) rfl y7 rfl Try.sizeOf28 rfl rfl (fa rfl (fa rfl fe)) (hS28o2.front 3 rfl) (fun H28o3 hS28o3 hxx => ?_)
   refine ⟨Ext.mono hxx (labS_of 1 rfl (fun _ _ => trivial)), ?_⟩
   refine wpR_end (by kernel_rfl) ?_
   exact ⟨y6, y7, hS28o3⟩
  clear y15 y2 y3 y4 y6 y7 y8
  rintro f29 H29 ⟨y6, y7, hS29⟩
  refine wpF_ret ?_
  refine ⟨_, resC y6 (loadV_blkA Try.isAgg66 Try.sizeOf66 rfl (hS29.blk 1 rfl)) (resC y7 (loadV_blkA Try.isAgg28 Try.sizeOf28 rfl (hS29.blk 0 rfl)) (resN)), hS29.frame, ?_⟩
  show (Value.tuple #[Vg #[I (0), I (0)], Vg #[I (((frsF ([a, b]))).1), I (((frsF ([a, b]))).2)]]) = Value.tuple #[Vg #[I (applyF a b n d).1.Num, I (applyF a b n d).1.Den], Vg #[I (applyF a b n d).2.1, I (applyF a b n d).2.2]]
  have hq_ : applyF a b n d = _ := applyF_bad h15
  rw [hq_]
 refine wpF_skip ?_
 refine fcr (fun f H => f 6 = PT g7 0 ∧ f 7 = PT g10 0 ∧ St H0 NoB NoB [bE g10 #[I ((makeF n d).2.1), I ((makeF n d).2.2)] 28, bE g7 #[I ((makeF n d).1.Num), I ((makeF n d).1.Den)] 66, blkE g20 (.cells #[I (((frsF ([a, b]))).1), I (((frsF ([a, b]))).2)] 28), rowE 66 v14 ([a, b] : List Frac), bE g4 #[I (b.Num), I (b.Den)] 66, bE g1 #[I (a.Num), I (a.Den)] 66] H) ?_ ?_
 ·refine lm (v := vf) rfl rfl y2 ?_
  refine lq rfl (q_loadBlkA rfl y3 Try.isAgg66 Try.sizeOf66 rfl (hS25.blk 5 rfl) (fun h => h)) ?_
  refine lq rfl (q_loadBlkA rfl y4 Try.isAgg66 Try.sizeOf66 rfl (hS25.blk 4 rfl) (fun h => h)) ?_
  refine lo rfl ?_
  refine e_callF rfl rfl (arr2 (v0 := Vg #[I (a.Num), I (a.Den)]) (v1 := Vg #[I (b.Num), I (b.Den)]) rfl rfl) ((hf h15).2 _ hS25.frame) ?_
  rintro _ H30 ⟨hxx, rfl⟩
  have hS31 := hS25.ext hxx
  refine lq rfl (q_extract (vs := #[I (n), I (d)]) (v := I (n)) rfl rfl rfl) ?_
  refine lq rfl (q_extract (vs := #[I (n), I (d)]) (v := I (d)) rfl rfl rfl) ?_
  refine lo rfl ?_
  refine e_call rfl Try.call92 (arr2 (v0 := I (n)) (v1 := I (d)) rfl rfl) (Make_F n d (hf h15).1.1 (hf h15).1.2 ) ?_
  rintro _ H33 ⟨hxx, rfl⟩
  have hS34 := hS31.ext hxx
  refine lq rfl (q_extract (vs := #[Vg #[I ((makeF n d).1.Num), I ((makeF n d).1.Den)], Vg #[I ((makeF n d).2.1), I ((makeF n d).2.2)]]) (v := Vg #[I ((makeF n d).1.Num), I ((makeF n d).1.Den)]) rfl rfl rfl) ?_
  refine lq rfl (q_extract (vs := #[Vg #[I ((makeF n d).1.Num), I ((makeF n d).1.Den)], Vg #[I ((makeF n d).2.1), I ((makeF n d).2.2)]]) (v := Vg #[I ((makeF n d).2.1), I ((makeF n d).2.2)]) rfl rfl rfl) ?_
  refine lo rfl ?_
  refine e_storeBlkA (cs' := #[I ((makeF n d).1.Num), I ((makeF n d).1.Den)]) rfl y6 rfl Try.sizeOf66 rfl rfl (fa rfl (fa rfl fe)) (hS34.front 3 rfl) (fun H36 hS37 hxx => ?_)
  refine lo rfl ?_
  refine e_storeBlkA (cs' := #[I ((makeF n d).2.1), I ((makeF n d).2.2)]) rfl y7 rfl Try.sizeOf28 rfl rfl (fa rfl (fa rfl fe)) (hS37.front 3 rfl) (fun H38 hS39 hxx => ?_)
  exact ⟨y6, y7, hS39⟩
 clear y15 y2 y3 y4 y6 y7 y8
 rintro f40 H40 ⟨y6, y7, hS40⟩
 refine wpF_ret ?_
 refine ⟨_, resC y6 (loadV_blkA Try.isAgg66 Try.sizeOf66 rfl (hS40.blk 1 rfl)) (resC y7 (loadV_blkA Try.isAgg28 Try.sizeOf28 rfl (hS40.blk 0 rfl)) (resN)), hS40.frame, ?_⟩
 show (Value.tuple #[Vg #[I ((makeF n d).1.Num), I ((makeF n d).1.Den)], Vg #[I ((makeF n d).2.1), I ((makeF n d).2.2)]]) = Value.tuple #[Vg #[I (applyF a b n d).1.Num, I (applyF a b n d).1.Den], Vg #[I (applyF a b n d).2.1, I (applyF a b n d).2.2]]
 have hq_ : applyF a b n d = _ := applyF_ok h15
 rw [hq_]
set_option maxRecDepth 100000 in
theorem Times_1 {H0 : Heap} (a b : Frac) (h6na : In64 a.Num) (h6da : In64 a.Den) (h6nb : In64 b.Num) (h6db : In64 b.Den) (ha : FrR a) (hb : FrR b) : CallsH Try.prog 90 #[Vg #[I (a.Num), I (a.Den)], Vg #[I (b.Num), I (b.Den)]] H0 (fun rv_ H' => Ext NoB H0 H' ∧ rv_ = Value.tuple #[I (a.Num * b.Num), I (a.Den * b.Den)]) := by
 have hS0 : St H0 NoB NoB [] H0 := St.start (fun _ h => h.elim)
 refine callsH_of_wpF (args := [Vg #[I (a.Num), I (a.Den)], Vg #[I (b.Num), I (b.Den)]]) (rs := [.tmp 4, .tmp 5]) Try.func90 rfl Try.ntmps90 Try.results90 (by kernel_rfl) (Nat.le_of_ble_eq_true rfl) ?_
 have y0 : argF [Vg #[I (a.Num), I (a.Den)], Vg #[I (b.Num), I (b.Den)]] 0 = Vg #[I (a.Num), I (a.Den)] := rfl
 have y1 : argF [Vg #[I (a.Num), I (a.Den)], Vg #[I (b.Num), I (b.Den)]] 1 = Vg #[I (b.Num), I (b.Den)] := rfl
 generalize argF [Vg #[I (a.Num), I (a.Den)], Vg #[I (b.Num), I (b.Den)]] = f0 at *
 refine fcr (fun f H => ∃ (g1 : Nat), ∃ (g4 : Nat), f 2 = PT g1 0 ∧ f 3 = PT g4 0 ∧ St H0 NoB NoB [bE g4 #[I (b.Num), I (b.Den)] 66, bE g1 #[I (a.Num), I (a.Den)] 66] H) ?_ ?_
 ·refine lo rfl ?_
  refine e_box (v := Vg #[I (a.Num), I (a.Den)]) rfl y0 hS0 (fun g1 H2 hS3 hxx => ?_)
  refine lo rfl ?_
  refine e_box (v := Vg #[I (b.Num), I (b.Den)]) rfl y1 hS3 (fun g4 H5 hS6 hxx => ?_)
  refine la (v := I (0)) rfl rfl rfl ?_
  refine la (v := I (0)) rfl rfl rfl ?_
  exact ⟨g1, g4, rfl, rfl, hS6⟩
 clear y0 y1
 rintro f7 H7 ⟨g1, g4, y2, y3, hS7⟩
 refine sc (fun f H => f 4 = I (a.Num * b.Num) ∧ f 5 = I (a.Den * b.Den) ∧ H7 = H) ?_ ?_
 ·refine wpF_drawn [] [] (fun _ _ => False) (by kernel_rfl) (by kernel_rfl) ?_
  refine rq 0 (by kernel_rfl) rfl rfl (q_fieldAddr rfl Try.underlying66 rfl Try.sizeOf3 y2) ?_
  refine rq 1 (by kernel_rfl) rfl rfl (q_loadBlk rfl rfl Try.isAgg3 (hS7.blk 1 rfl) rfl (labU_not [] rfl (fe))) ?_
  refine rq 2 (by kernel_rfl) rfl rfl (q_fieldAddr rfl Try.underlying66 rfl Try.sizeOf3 y3) ?_
  refine rq 3 (by kernel_rfl) rfl rfl (q_loadBlk rfl rfl Try.isAgg3 (hS7.blk 0 rfl) rfl (labU_not [] rfl (fe))) ?_
  refine rq 4 (by kernel_rfl) rfl rfl (q_mul rfl rfl rfl (by have := mul30 ⟨ha.n1, ha.n2⟩ ⟨hb.n1, hb.n2⟩; constructor <;> omega)) ?_
  refine rq 5 (by kernel_rfl) rfl rfl (q_fieldAddr rfl Try.underlying66 rfl Try.sizeOf3 y2) ?_
  refine rq 6 (by kernel_rfl) rfl rfl (q_loadBlk rfl rfl Try.isAgg3 (hS7.blk 1 rfl) rfl (labU_not [] rfl (fe))) ?_
  refine rq 7 (by kernel_rfl) rfl rfl (q_fieldAddr rfl Try.underlying66 rfl Try.sizeOf3 y3) ?_
  refine rq 8 (by kernel_rfl) rfl rfl (q_loadBlk rfl rfl Try.isAgg3 (hS7.blk 0 rfl) rfl (labU_not [] rfl (fe))) ?_
  refine rq 9 (by kernel_rfl) rfl rfl (q_mul rfl rfl rfl (by have := mul30 (x := a.Den) (y := b.Den) ⟨by have := ha.d1; omega, ha.d2⟩ ⟨by have := hb.d1; omega, hb.d2⟩; constructor <;> omega)) ?_
  refine rq 10 (by kernel_rfl) rfl rfl (q_assign (v := I (a.Num * b.Num)) rfl rfl) ?_
  refine rq 11 (by kernel_rfl) rfl rfl (q_assign (v := I (a.Den * b.Den)) rfl rfl) ?_
  refine wpR_end (by kernel_rfl) ?_
  exact ⟨rfl, rfl, rfl⟩
 clear y2 y3
 rintro f9 _ ⟨y4, y5, rfl⟩
 refine wpF_ret ?_
 refine ⟨_, resT y4 (resT y5 resN), hS7.frame, ?_⟩
 show (Value.tuple #[I (a.Num * b.Num), I (a.Den * b.Den)]) = Value.tuple #[I (a.Num * b.Num), I (a.Den * b.Den)]
 rfl
set_option maxRecDepth 100000 in
theorem Add_1 {H0 : Heap} (a b : Frac) (h6na : In64 a.Num) (h6da : In64 a.Den) (h6nb : In64 b.Num) (h6db : In64 b.Den) (ha : FrR a) (hb : FrR b) : CallsH Try.prog 91 #[Vg #[I (a.Num), I (a.Den)], Vg #[I (b.Num), I (b.Den)]] H0 (fun rv_ H' => Ext NoB H0 H' ∧ rv_ = Value.tuple #[I (a.Num * b.Den + b.Num * a.Den), I (a.Den * b.Den)]) := by
 have hS0 : St H0 NoB NoB [] H0 := St.start (fun _ h => h.elim)
 refine callsH_of_wpF (args := [Vg #[I (a.Num), I (a.Den)], Vg #[I (b.Num), I (b.Den)]]) (rs := [.tmp 4, .tmp 5]) Try.func91 rfl Try.ntmps91 Try.results91 (by kernel_rfl) (Nat.le_of_ble_eq_true rfl) ?_
 have y0 : argF [Vg #[I (a.Num), I (a.Den)], Vg #[I (b.Num), I (b.Den)]] 0 = Vg #[I (a.Num), I (a.Den)] := rfl
 have y1 : argF [Vg #[I (a.Num), I (a.Den)], Vg #[I (b.Num), I (b.Den)]] 1 = Vg #[I (b.Num), I (b.Den)] := rfl
 generalize argF [Vg #[I (a.Num), I (a.Den)], Vg #[I (b.Num), I (b.Den)]] = f0 at *
 refine fcr (fun f H => ∃ (g1 : Nat), ∃ (g4 : Nat), f 2 = PT g1 0 ∧ f 3 = PT g4 0 ∧ St H0 NoB NoB [bE g4 #[I (b.Num), I (b.Den)] 66, bE g1 #[I (a.Num), I (a.Den)] 66] H) ?_ ?_
 ·refine lo rfl ?_
  refine e_box (v := Vg #[I (a.Num), I (a.Den)]) rfl y0 hS0 (fun g1 H2 hS3 hxx => ?_)
  refine lo rfl ?_
  refine e_box (v := Vg #[I (b.Num), I (b.Den)]) rfl y1 hS3 (fun g4 H5 hS6 hxx => ?_)
  refine la (v := I (0)) rfl rfl rfl ?_
  refine la (v := I (0)) rfl rfl rfl ?_
  exact ⟨g1, g4, rfl, rfl, hS6⟩
 clear y0 y1
 rintro f7 H7 ⟨g1, g4, y2, y3, hS7⟩
 refine sc (fun f H => f 4 = I ((a.Num * b.Den) + (b.Num * a.Den)) ∧ f 5 = I (a.Den * b.Den) ∧ H7 = H) ?_ ?_
 ·refine wpF_drawn [] [] (fun _ _ => False) (by kernel_rfl) (by kernel_rfl) ?_
  refine rq 0 (by kernel_rfl) rfl rfl (q_fieldAddr rfl Try.underlying66 rfl Try.sizeOf3 y2) ?_
  refine rq 1 (by kernel_rfl) rfl rfl (q_loadBlk rfl rfl Try.isAgg3 (hS7.blk 1 rfl) rfl (labU_not [] rfl (fe))) ?_
  refine rq 2 (by kernel_rfl) rfl rfl (q_fieldAddr rfl Try.underlying66 rfl Try.sizeOf3 y3) ?_
  refine rq 3 (by kernel_rfl) rfl rfl (q_loadBlk rfl rfl Try.isAgg3 (hS7.blk 0 rfl) rfl (labU_not [] rfl (fe))) ?_
  refine rq 4 (by kernel_rfl) rfl rfl (q_mul rfl rfl rfl (by have := mul30 (x := a.Num) (y := b.Den) ⟨ha.n1, ha.n2⟩ ⟨by have := hb.d1; omega, hb.d2⟩; constructor <;> omega)) ?_
  refine rq 5 (by kernel_rfl) rfl rfl (q_fieldAddr rfl Try.underlying66 rfl Try.sizeOf3 y3) ?_
  refine rq 6 (by kernel_rfl) rfl rfl (q_loadBlk rfl rfl Try.isAgg3 (hS7.blk 0 rfl) rfl (labU_not [] rfl (fe))) ?_
  refine rq 7 (by kernel_rfl) rfl rfl (q_fieldAddr rfl Try.underlying66 rfl Try.sizeOf3 y2) ?_
  refine rq 8 (by kernel_rfl) rfl rfl (q_loadBlk rfl rfl Try.isAgg3 (hS7.blk 1 rfl) rfl (labU_not [] rfl (fe))) ?_
  refine rq 9 (by kernel_rfl) rfl rfl (q_mul rfl rfl rfl (by have := mul30 (x := b.Num) (y := a.Den) ⟨hb.n1, hb.n2⟩ ⟨by have := ha.d1; omega, ha.d2⟩; constructor <;> omega)) ?_
  refine rq 10 (by kernel_rfl) rfl rfl (q_add rfl rfl rfl (by have h1 := mul30 (x := a.Num) (y := b.Den) ⟨ha.n1, ha.n2⟩ ⟨by have := hb.d1; omega, hb.d2⟩; have h2 := mul30 (x := b.Num) (y := a.Den) ⟨hb.n1, hb.n2⟩ ⟨by have := ha.d1; omega, ha.d2⟩; constructor <;> omega)) ?_
  refine rq 11 (by kernel_rfl) rfl rfl (q_fieldAddr rfl Try.underlying66 rfl Try.sizeOf3 y2) ?_
  refine rq 12 (by kernel_rfl) rfl rfl (q_loadBlk rfl rfl Try.isAgg3 (hS7.blk 1 rfl) rfl (labU_not [] rfl (fe))) ?_
  refine rq 13 (by kernel_rfl) rfl rfl (q_fieldAddr rfl Try.underlying66 rfl Try.sizeOf3 y3) ?_
  refine rq 14 (by kernel_rfl) rfl rfl (q_loadBlk rfl rfl Try.isAgg3 (hS7.blk 0 rfl) rfl (labU_not [] rfl (fe))) ?_
  refine rq 15 (by kernel_rfl) rfl rfl (q_mul rfl rfl rfl (by have := mul30 (x := a.Den) (y := b.Den) ⟨by have := ha.d1; omega, ha.d2⟩ ⟨by have := hb.d1; omega, hb.d2⟩; constructor <;> omega)) ?_
  refine rq 16 (by kernel_rfl) rfl rfl (q_assign (v := I ((a.Num * b.Den) + (b.Num * a.Den))) rfl rfl) ?_
  refine rq 17 (by kernel_rfl) rfl rfl (q_assign (v := I (a.Den * b.Den)) rfl rfl) ?_
  refine wpR_end (by kernel_rfl) ?_
  exact ⟨rfl, rfl, rfl⟩
 clear y2 y3
 rintro f9 _ ⟨y4, y5, rfl⟩
 refine wpF_ret ?_
 refine ⟨_, resT y4 (resT y5 resN), hS7.frame, ?_⟩
 show (Value.tuple #[I ((a.Num * b.Den) + (b.Num * a.Den)), I (a.Den * b.Den)]) = Value.tuple #[I (a.Num * b.Den + b.Num * a.Den), I (a.Den * b.Den)]
 rfl
set_option maxRecDepth 100000 in
theorem Times_F {H0 : Heap} (a b : Frac) (h6na : In64 a.Num) (h6da : In64 a.Den) (h6nb : In64 b.Num) (h6db : In64 b.Den) : CallsH Try.prog 82 #[Vg #[I (a.Num), I (a.Den)], Vg #[I (b.Num), I (b.Den)]] H0 (fun rv_ H' => Ext NoB H0 H' ∧ rv_ = Value.tuple #[Vg #[I (timesF a b).1.Num, I (timesF a b).1.Den], Vg #[I (timesF a b).2.1, I (timesF a b).2.2]]) := by
 have hS0 : St H0 NoB NoB [] H0 := St.start (fun _ h => h.elim)
 refine callsH_of_wpF (args := [Vg #[I (a.Num), I (a.Den)], Vg #[I (b.Num), I (b.Den)]]) (rs := [.cell 4 66, .cell 5 28]) Try.func82 rfl Try.ntmps82 Try.results82 (by kernel_rfl) (Nat.le_of_ble_eq_true rfl) ?_
 have y0 : argF [Vg #[I (a.Num), I (a.Den)], Vg #[I (b.Num), I (b.Den)]] 0 = Vg #[I (a.Num), I (a.Den)] := rfl
 have y1 : argF [Vg #[I (a.Num), I (a.Den)], Vg #[I (b.Num), I (b.Den)]] 1 = Vg #[I (b.Num), I (b.Den)] := rfl
 generalize argF [Vg #[I (a.Num), I (a.Den)], Vg #[I (b.Num), I (b.Den)]] = f0 at *
 refine fcr (fun f H => ∃ (g1 : Nat), ∃ (g4 : Nat), ∃ (g7 : Nat), ∃ (g10 : Nat), f 2 = PT g1 0 ∧ f 3 = PT g4 0 ∧ f 4 = PT g7 0 ∧ f 5 = PT g10 0 ∧ St H0 NoB NoB [bE g10 #[I (0), I (0)] 28, bE g7 #[I (0), I (0)] 66, bE g4 #[I (b.Num), I (b.Den)] 66, bE g1 #[I (a.Num), I (a.Den)] 66] H) ?_ ?_
 ·refine lo rfl ?_
  refine e_box (v := Vg #[I (a.Num), I (a.Den)]) rfl y0 hS0 (fun g1 H2 hS3 hxx => ?_)
  refine lo rfl ?_
  refine e_box (v := Vg #[I (b.Num), I (b.Den)]) rfl y1 hS3 (fun g4 H5 hS6 hxx => ?_)
  refine lo rfl ?_
  refine e_alloc rfl Try.zeroValue66 hS6 (fun g7 H8 hS9 hxx => ?_)
  refine lo rfl ?_
  refine e_alloc rfl Try.zeroValue28 hS9 (fun g10 H11 hS12 hxx => ?_)
  exact ⟨g1, g4, g7, g10, rfl, rfl, rfl, rfl, hS12⟩
 clear y0 y1
 rintro f13 H13 ⟨g1, g4, g7, g10, y2, y3, y4, y5, hS13⟩
 refine fcr (fun f H => f 4 = PT g7 0 ∧ f 5 = PT g10 0 ∧ St H0 NoB NoB [bE g10 #[I ((applyF a b (a.Num * b.Num) (a.Den * b.Den)).2.1), I ((applyF a b (a.Num * b.Num) (a.Den * b.Den)).2.2)] 28, bE g7 #[I ((applyF a b (a.Num * b.Num) (a.Den * b.Den)).1.Num), I ((applyF a b (a.Num * b.Num) (a.Den * b.Den)).1.Den)] 66, bE g4 #[I (b.Num), I (b.Den)] 66, bE g1 #[I (a.Num), I (a.Den)] 66] H) ?_ ?_
 ·refine lq rfl (q_loadBlkA rfl y2 Try.isAgg66 Try.sizeOf66 rfl (hS13.blk 3 rfl) (fun h => h)) ?_
  refine lq rfl (q_loadBlkA rfl y3 Try.isAgg66 Try.sizeOf66 rfl (hS13.blk 2 rfl) (fun h => h)) ?_
  refine lo rfl ?_
  refine e_call rfl Try.call89 (arr3 (v0 := Vg #[I (a.Num), I (a.Den)]) (v1 := Vg #[I (b.Num), I (b.Den)]) (v2 := Value.func (.func 90) #[] #[]) rfl rfl rfl) (apply_F (Value.func (.func 90) #[] #[]) a b (a.Num * b.Num) (a.Den * b.Den) (by first | assumption | (constructor <;> (try dsimp only) <;> omega)) (by first | assumption | (constructor <;> (try dsimp only) <;> omega)) (by first | assumption | (constructor <;> (try dsimp only) <;> omega)) (by first | assumption | (constructor <;> (try dsimp only) <;> omega)) (fun h => ⟨Times_1_in (frsF_two h).1 (frsF_two h).2, fun H hE => ⟨_, _, rfl, Try.call90, Times_1 a b (by first | assumption | (constructor <;> (try dsimp only) <;> omega)) (by first | assumption | (constructor <;> (try dsimp only) <;> omega)) (by first | assumption | (constructor <;> (try dsimp only) <;> omega)) (by first | assumption | (constructor <;> (try dsimp only) <;> omega)) (frsF_two h).1 (frsF_two h).2⟩⟩)) ?_
  rintro _ H14 ⟨hxx, rfl⟩
  have hS15 := hS13.ext hxx
  refine lq rfl (q_extract (vs := #[Vg #[I ((applyF a b (a.Num * b.Num) (a.Den * b.Den)).1.Num), I ((applyF a b (a.Num * b.Num) (a.Den * b.Den)).1.Den)], Vg #[I ((applyF a b (a.Num * b.Num) (a.Den * b.Den)).2.1), I ((applyF a b (a.Num * b.Num) (a.Den * b.Den)).2.2)]]) (v := Vg #[I ((applyF a b (a.Num * b.Num) (a.Den * b.Den)).1.Num), I ((applyF a b (a.Num * b.Num) (a.Den * b.Den)).1.Den)]) rfl rfl rfl) ?_
  refine lq rfl (q_extract (vs := #[Vg #[I ((applyF a b (a.Num * b.Num) (a.Den * b.Den)).1.Num), I ((applyF a b (a.Num * b.Num) (a.Den * b.Den)).1.Den)], Vg #[I ((applyF a b (a.Num * b.Num) (a.Den * b.Den)).2.1), I ((applyF a b (a.Num * b.Num) (a.Den * b.Den)).2.2)]]) (v := Vg #[I ((applyF a b (a.Num * b.Num) (a.Den * b.Den)).2.1), I ((applyF a b (a.Num * b.Num) (a.Den * b.Den)).2.2)]) rfl rfl rfl) ?_
  refine lo rfl ?_
  refine e_storeBlkA (cs' := #[I ((applyF a b (a.Num * b.Num) (a.Den * b.Den)).1.Num), I ((applyF a b (a.Num * b.Num) (a.Den * b.Den)).1.Den)]) rfl y4 rfl Try.sizeOf66 rfl rfl (fa rfl (fa rfl fe)) (hS15.front 1 rfl) (fun H17 hS18 hxx => ?_)
  refine lo rfl ?_
  refine e_storeBlkA (cs' := #[I ((applyF a b (a.Num * b.Num) (a.Den * b.Den)).2.1), I ((applyF a b (a.Num * b.Num) (a.Den * b.Den)).2.2)]) rfl y5 rfl Try.sizeOf28 rfl rfl (fa rfl (fa rfl fe)) (hS18.front 1 rfl) (fun H19 hS20 hxx => ?_)
  exact ⟨y4, y5, hS20⟩
 clear y2 y3 y4 y5
 rintro f21 H21 ⟨y4, y5, hS21⟩
 refine wpF_ret ?_
 refine ⟨_, resC y4 (loadV_blkA Try.isAgg66 Try.sizeOf66 rfl (hS21.blk 1 rfl)) (resC y5 (loadV_blkA Try.isAgg28 Try.sizeOf28 rfl (hS21.blk 0 rfl)) (resN)), hS21.frame, ?_⟩
 show (Value.tuple #[Vg #[I ((applyF a b (a.Num * b.Num) (a.Den * b.Den)).1.Num), I ((applyF a b (a.Num * b.Num) (a.Den * b.Den)).1.Den)], Vg #[I ((applyF a b (a.Num * b.Num) (a.Den * b.Den)).2.1), I ((applyF a b (a.Num * b.Num) (a.Den * b.Den)).2.2)]]) = Value.tuple #[Vg #[I (timesF a b).1.Num, I (timesF a b).1.Den], Vg #[I (timesF a b).2.1, I (timesF a b).2.2]]
 rfl
set_option maxRecDepth 100000 in
theorem Add_F {H0 : Heap} (a b : Frac) (h6na : In64 a.Num) (h6da : In64 a.Den) (h6nb : In64 b.Num) (h6db : In64 b.Den) : CallsH Try.prog 83 #[Vg #[I (a.Num), I (a.Den)], Vg #[I (b.Num), I (b.Den)]] H0 (fun rv_ H' => Ext NoB H0 H' ∧ rv_ = Value.tuple #[Vg #[I (addF a b).1.Num, I (addF a b).1.Den], Vg #[I (addF a b).2.1, I (addF a b).2.2]]) := by
 have hS0 : St H0 NoB NoB [] H0 := St.start (fun _ h => h.elim)
 refine callsH_of_wpF (args := [Vg #[I (a.Num), I (a.Den)], Vg #[I (b.Num), I (b.Den)]]) (rs := [.cell 4 66, .cell 5 28]) Try.func83 rfl Try.ntmps83 Try.results83 (by kernel_rfl) (Nat.le_of_ble_eq_true rfl) ?_
 have y0 : argF [Vg #[I (a.Num), I (a.Den)], Vg #[I (b.Num), I (b.Den)]] 0 = Vg #[I (a.Num), I (a.Den)] := rfl
 have y1 : argF [Vg #[I (a.Num), I (a.Den)], Vg #[I (b.Num), I (b.Den)]] 1 = Vg #[I (b.Num), I (b.Den)] := rfl
 generalize argF [Vg #[I (a.Num), I (a.Den)], Vg #[I (b.Num), I (b.Den)]] = f0 at *
 refine fcr (fun f H => ∃ (g1 : Nat), ∃ (g4 : Nat), ∃ (g7 : Nat), ∃ (g10 : Nat), f 2 = PT g1 0 ∧ f 3 = PT g4 0 ∧ f 4 = PT g7 0 ∧ f 5 = PT g10 0 ∧ St H0 NoB NoB [bE g10 #[I (0), I (0)] 28, bE g7 #[I (0), I (0)] 66, bE g4 #[I (b.Num), I (b.Den)] 66, bE g1 #[I (a.Num), I (a.Den)] 66] H) ?_ ?_
 ·refine lo rfl ?_
  refine e_box (v := Vg #[I (a.Num), I (a.Den)]) rfl y0 hS0 (fun g1 H2 hS3 hxx => ?_)
  refine lo rfl ?_
  refine e_box (v := Vg #[I (b.Num), I (b.Den)]) rfl y1 hS3 (fun g4 H5 hS6 hxx => ?_)
  refine lo rfl ?_
  refine e_alloc rfl Try.zeroValue66 hS6 (fun g7 H8 hS9 hxx => ?_)
  refine lo rfl ?_
  refine e_alloc rfl Try.zeroValue28 hS9 (fun g10 H11 hS12 hxx => ?_)
  exact ⟨g1, g4, g7, g10, rfl, rfl, rfl, rfl, hS12⟩
 clear y0 y1
 rintro f13 H13 ⟨g1, g4, g7, g10, y2, y3, y4, y5, hS13⟩
 refine fcr (fun f H => f 4 = PT g7 0 ∧ f 5 = PT g10 0 ∧ St H0 NoB NoB [bE g10 #[I ((applyF a b (a.Num * b.Den + b.Num * a.Den) (a.Den * b.Den)).2.1), I ((applyF a b (a.Num * b.Den + b.Num * a.Den) (a.Den * b.Den)).2.2)] 28, bE g7 #[I ((applyF a b (a.Num * b.Den + b.Num * a.Den) (a.Den * b.Den)).1.Num), I ((applyF a b (a.Num * b.Den + b.Num * a.Den) (a.Den * b.Den)).1.Den)] 66, bE g4 #[I (b.Num), I (b.Den)] 66, bE g1 #[I (a.Num), I (a.Den)] 66] H) ?_ ?_
 ·refine lq rfl (q_loadBlkA rfl y2 Try.isAgg66 Try.sizeOf66 rfl (hS13.blk 3 rfl) (fun h => h)) ?_
  refine lq rfl (q_loadBlkA rfl y3 Try.isAgg66 Try.sizeOf66 rfl (hS13.blk 2 rfl) (fun h => h)) ?_
  refine lo rfl ?_
  refine e_call rfl Try.call89 (arr3 (v0 := Vg #[I (a.Num), I (a.Den)]) (v1 := Vg #[I (b.Num), I (b.Den)]) (v2 := Value.func (.func 91) #[] #[]) rfl rfl rfl) (apply_F (Value.func (.func 91) #[] #[]) a b (a.Num * b.Den + b.Num * a.Den) (a.Den * b.Den) (by first | assumption | (constructor <;> (try dsimp only) <;> omega)) (by first | assumption | (constructor <;> (try dsimp only) <;> omega)) (by first | assumption | (constructor <;> (try dsimp only) <;> omega)) (by first | assumption | (constructor <;> (try dsimp only) <;> omega)) (fun h => ⟨Add_1_in (frsF_two h).1 (frsF_two h).2, fun H hE => ⟨_, _, rfl, Try.call91, Add_1 a b (by first | assumption | (constructor <;> (try dsimp only) <;> omega)) (by first | assumption | (constructor <;> (try dsimp only) <;> omega)) (by first | assumption | (constructor <;> (try dsimp only) <;> omega)) (by first | assumption | (constructor <;> (try dsimp only) <;> omega)) (frsF_two h).1 (frsF_two h).2⟩⟩)) ?_
  rintro _ H14 ⟨hxx, rfl⟩
  have hS15 := hS13.ext hxx
  refine lq rfl (q_extract (vs := #[Vg #[I ((applyF a b (a.Num * b.Den + b.Num * a.Den) (a.Den * b.Den)).1.Num), I ((applyF a b (a.Num * b.Den + b.Num * a.Den) (a.Den * b.Den)).1.Den)], Vg #[I ((applyF a b (a.Num * b.Den + b.Num * a.Den) (a.Den * b.Den)).2.1), I ((applyF a b (a.Num * b.Den + b.Num * a.Den) (a.Den * b.Den)).2.2)]]) (v := Vg #[I ((applyF a b (a.Num * b.Den + b.Num * a.Den) (a.Den * b.Den)).1.Num), I ((applyF a b (a.Num * b.Den + b.Num * a.Den) (a.Den * b.Den)).1.Den)]) rfl rfl rfl) ?_
  refine lq rfl (q_extract (vs := #[Vg #[I ((applyF a b (a.Num * b.Den + b.Num * a.Den) (a.Den * b.Den)).1.Num), I ((applyF a b (a.Num * b.Den + b.Num * a.Den) (a.Den * b.Den)).1.Den)], Vg #[I ((applyF a b (a.Num * b.Den + b.Num * a.Den) (a.Den * b.Den)).2.1), I ((applyF a b (a.Num * b.Den + b.Num * a.Den) (a.Den * b.Den)).2.2)]]) (v := Vg #[I ((applyF a b (a.Num * b.Den + b.Num * a.Den) (a.Den * b.Den)).2.1), I ((applyF a b (a.Num * b.Den + b.Num * a.Den) (a.Den * b.Den)).2.2)]) rfl rfl rfl) ?_
  refine lo rfl ?_
  refine e_storeBlkA (cs' := #[I ((applyF a b (a.Num * b.Den + b.Num * a.Den) (a.Den * b.Den)).1.Num), I ((applyF a b (a.Num * b.Den + b.Num * a.Den) (a.Den * b.Den)).1.Den)]) rfl y4 rfl Try.sizeOf66 rfl rfl (fa rfl (fa rfl fe)) (hS15.front 1 rfl) (fun H17 hS18 hxx => ?_)
  refine lo rfl ?_
  refine e_storeBlkA (cs' := #[I ((applyF a b (a.Num * b.Den + b.Num * a.Den) (a.Den * b.Den)).2.1), I ((applyF a b (a.Num * b.Den + b.Num * a.Den) (a.Den * b.Den)).2.2)]) rfl y5 rfl Try.sizeOf28 rfl rfl (fa rfl (fa rfl fe)) (hS18.front 1 rfl) (fun H19 hS20 hxx => ?_)
  exact ⟨y4, y5, hS20⟩
 clear y2 y3 y4 y5
 rintro f21 H21 ⟨y4, y5, hS21⟩
 refine wpF_ret ?_
 refine ⟨_, resC y4 (loadV_blkA Try.isAgg66 Try.sizeOf66 rfl (hS21.blk 1 rfl)) (resC y5 (loadV_blkA Try.isAgg28 Try.sizeOf28 rfl (hS21.blk 0 rfl)) (resN)), hS21.frame, ?_⟩
 show (Value.tuple #[Vg #[I ((applyF a b (a.Num * b.Den + b.Num * a.Den) (a.Den * b.Den)).1.Num), I ((applyF a b (a.Num * b.Den + b.Num * a.Den) (a.Den * b.Den)).1.Den)], Vg #[I ((applyF a b (a.Num * b.Den + b.Num * a.Den) (a.Den * b.Den)).2.1), I ((applyF a b (a.Num * b.Den + b.Num * a.Den) (a.Den * b.Den)).2.2)]]) = Value.tuple #[Vg #[I (addF a b).1.Num, I (addF a b).1.Den], Vg #[I (addF a b).2.1, I (addF a b).2.2]]
 rfl
set_option maxHeartbeats 1000000 in
set_option maxRecDepth 100000 in
theorem Less_F {H0 : Heap} (a b : Frac) (h6na : In64 a.Num) (h6da : In64 a.Den) (h6nb : In64 b.Num) (h6db : In64 b.Den) : CallsH Try.prog 73 #[Vg #[I (a.Num), I (a.Den)], Vg #[I (b.Num), I (b.Den)]] H0 (fun rv_ H' => Ext NoB H0 H' ∧ ∃ c_ d_, rv_ = Value.tuple #[B (lessB a b), Vg #[I c_, I d_]]) := by
 have hS0 : St H0 NoB NoB [] H0 := St.start (fun _ h => h.elim)
 refine callsH_of_wpF (args := [Vg #[I (a.Num), I (a.Den)], Vg #[I (b.Num), I (b.Den)]]) (rs := [.tmp 4, .cell 5 28]) Try.func73 rfl Try.ntmps73 Try.results73 (by kernel_rfl) (Nat.le_of_ble_eq_true rfl) ?_
 have y0 : argF [Vg #[I (a.Num), I (a.Den)], Vg #[I (b.Num), I (b.Den)]] 0 = Vg #[I (a.Num), I (a.Den)] := rfl
 have y1 : argF [Vg #[I (a.Num), I (a.Den)], Vg #[I (b.Num), I (b.Den)]] 1 = Vg #[I (b.Num), I (b.Den)] := rfl
 generalize argF [Vg #[I (a.Num), I (a.Den)], Vg #[I (b.Num), I (b.Den)]] = f0 at *
 refine fcr (fun f H => ∃ (g1 : Nat), ∃ (g4 : Nat), ∃ (g7 : Nat), f 2 = PT g1 0 ∧ f 3 = PT g4 0 ∧ f 5 = PT g7 0 ∧ St H0 NoB NoB [bE g7 #[I (0), I (0)] 28, bE g4 #[I (b.Num), I (b.Den)] 66, bE g1 #[I (a.Num), I (a.Den)] 66] H) ?_ ?_
 ·refine lo rfl ?_
  refine e_box (v := Vg #[I (a.Num), I (a.Den)]) rfl y0 hS0 (fun g1 H2 hS3 hxx => ?_)
  refine lo rfl ?_
  refine e_box (v := Vg #[I (b.Num), I (b.Den)]) rfl y1 hS3 (fun g4 H5 hS6 hxx => ?_)
  refine la (v := B (false)) rfl rfl rfl ?_
  refine lo rfl ?_
  refine e_alloc rfl Try.zeroValue28 hS6 (fun g7 H8 hS9 hxx => ?_)
  exact ⟨g1, g4, g7, rfl, rfl, rfl, hS9⟩
 clear y0 y1
 rintro f10 H10 ⟨g1, g4, g7, y2, y3, y5, hS10⟩
 refine wpF_seq ?_
 refine fcr (fun f H => ∃ (v11 : Value), ∃ (g17 : Nat), f 2 = PT g1 0 ∧ f 3 = PT g4 0 ∧ f 5 = PT g7 0 ∧ f 6 = PT g17 0 ∧ St H0 NoB NoB [blkE g17 (.cells #[I (((frsF ([a, b]))).1), I (((frsF ([a, b]))).2)] 28), rowE 66 v11 ([a, b] : List Frac), bE g7 #[I (0), I (0)] 28, bE g4 #[I (b.Num), I (b.Den)] 66, bE g1 #[I (a.Num), I (a.Den)] 66] H) ?_ ?_
 ·refine lq rfl (q_loadBlkA rfl y2 Try.isAgg66 Try.sizeOf66 rfl (hS10.blk 2 rfl) (fun h => h)) ?_
  refine lq rfl (q_loadBlkA rfl y3 Try.isAgg66 Try.sizeOf66 rfl (hS10.blk 1 rfl) (fun h => h)) ?_
  refine lo rfl ?_
  refine e_buildSlice (vs := [Vg #[I (a.Num), I (a.Den)], Vg #[I (b.Num), I (b.Den)]]) (xs := ([a, b] : List Frac)) rfl Try.underlying126 Try.zeroValue66 rfl Try.sizeOf66 (par2 (v0 := Vg #[I (a.Num), I (a.Den)]) (v1 := Vg #[I (b.Num), I (b.Den)]) rfl rfl) rfl hS10 (RdVs.cons ((Rd.frac (a := a)).2 ⟨rfl, (by first | assumption | (constructor <;> (try dsimp only) <;> omega)), (by first | assumption | (constructor <;> (try dsimp only) <;> omega))⟩) (RdVs.cons ((Rd.frac (a := b)).2 ⟨rfl, (by first | assumption | (constructor <;> (try dsimp only) <;> omega)), (by first | assumption | (constructor <;> (try dsimp only) <;> omega))⟩) (RdVs.nil))) (by decide) (by decide) (fun v11 H12 hS13 hxx hvv11 => ?_)
  refine lo rfl ?_
  refine e_call rfl Try.call84 (arr1 (v0 := v11) rfl) (checked_F v11 ([a, b]) (hS13.rowN 0 rfl) ) ?_
  rintro _ H14 ⟨hxx, rfl⟩
  have hS15 := hS13.ext hxx
  refine lo rfl ?_
  refine e_alloc rfl Try.zeroValue28 hS15 (fun g17 H18 hS19 hxx => ?_)
  refine lo rfl ?_
  refine e_storeBlkA (cs' := #[I (((frsF ([a, b]))).1), I (((frsF ([a, b]))).2)]) rfl rfl rfl Try.sizeOf28 rfl rfl (fa rfl (fa rfl fe)) hS19 (fun H20 hS21 hxx => ?_)
  exact ⟨v11, g17, y2, y3, y5, rfl, hS21⟩
 clear y2 y3 y5
 rintro f22 H22 ⟨v11, g17, y2, y3, y5, y6, hS22⟩
 refine fcr (fun f H => f 2 = PT g1 0 ∧ f 3 = PT g4 0 ∧ f 5 = PT g7 0 ∧ f 6 = PT g17 0 ∧ f 13 = B (decide ((((frsF ([a, b]))).1) ≠ 0)) ∧ H22 = H) ?_ ?_
 ·refine lq rfl (q_fieldAddr rfl Try.underlying28 rfl Try.sizeOf3 y6) ?_
  refine lq rfl (q_loadBlk rfl rfl Try.isAgg3 (hS22.blk 0 rfl) rfl (fun h => h)) ?_
  refine lq rfl (q_neq rfl rfl rfl) ?_
  exact ⟨y2, y3, y5, y6, rfl, rfl⟩
 clear y2 y3 y5 y6
 rintro f23 _ ⟨y2, y3, y5, y6, y13, rfl⟩
 refine wpF_condP y13 (fun h13 => ?t30) (fun h13 => ?e30)
 case t30 =>
  refine sc (fun f H => f 4 = B (false) ∧ f 5 = PT g7 0 ∧ St H0 NoB NoB [blkE g7 (.cells #[I (((frsF ([a, b]))).1), I (((frsF ([a, b]))).2)] 28), blkE g17 (.cells #[I (((frsF ([a, b]))).1), I (((frsF ([a, b]))).2)] 28), rowE 66 v11 ([a, b] : List Frac), bE g4 #[I (b.Num), I (b.Den)] 66, bE g1 #[I (a.Num), I (a.Den)] 66] H) ?_ ?_
  ·refine wpF_drawn [none, none, some 0] [[], [], []] (fun l b => match l with | 0 => True | _ => False) (by kernel_rfl) (by kernel_rfl) ?_
   refine rq 0 (by kernel_rfl) rfl rfl (q_loadBlkA rfl y6 Try.isAgg28 Try.sizeOf28 rfl (hS22.blk 0 rfl) (labU_not [] rfl (fe))) ?_
   refine rq 1 (by kernel_rfl) rfl rfl (q_assign (v := B (false)) rfl rfl) ?_
   refine wpR_n [2] (by kernel_rfl) ?_
   refine fa ?_ fe
   refine exE rfl rfl ?_
   refine e_storeBlkA (cs' := #[I (((frsF ([a, b]))).1), I (((frsF ([a, b]))).2)]) rfl y5 rfl Try.sizeOf28 rfl rfl (fa rfl (fa rfl fe)) (hS22.front 2 rfl) (fun H25o2 hS25o2 hxx => ?_)
   refine ⟨Ext.mono hxx (labS_of 0 rfl (fun _ _ => trivial)), ?_⟩
   refine wpR_end (by kernel_rfl) ?_
   exact ⟨rfl, y5, hS25o2⟩
  clear y13 y2 y3 y5 y6
  rintro f26 H26 ⟨y4, y5, hS26⟩
  refine wpF_ret ?_
  refine ⟨_, resT y4 (resC y5 (loadV_blkA Try.isAgg28 Try.sizeOf28 rfl (hS26.blk 0 rfl)) (resN)), hS26.frame, ?_⟩
  show ∃ c_ d_, (Value.tuple #[B (false), Vg #[I (((frsF ([a, b]))).1), I (((frsF ([a, b]))).2)]]) = Value.tuple #[B (lessB a b), Vg #[I c_, I d_]]
  exact ⟨_, _, by rw [lessB_bad h13]⟩
 obtain ⟨ha, hb⟩ := frsF_two h13
 refine wpF_skip ?_
 refine fcr (fun f H => f 4 = B (decide ((a.Num * b.Den) < (b.Num * a.Den))) ∧ f 5 = PT g7 0 ∧ St H0 NoB NoB [bE g7 #[I (0), I (0)] 28, blkE g17 (.cells #[I (((frsF ([a, b]))).1), I (((frsF ([a, b]))).2)] 28), rowE 66 v11 ([a, b] : List Frac), bE g4 #[I (b.Num), I (b.Den)] 66, bE g1 #[I (a.Num), I (a.Den)] 66] H) ?_ ?_
 ·refine lq rfl (q_fieldAddr rfl Try.underlying66 rfl Try.sizeOf3 y2) ?_
  refine lq rfl (q_loadBlk rfl rfl Try.isAgg3 (hS22.blk 4 rfl) rfl (fun h => h)) ?_
  refine lq rfl (q_fieldAddr rfl Try.underlying66 rfl Try.sizeOf3 y3) ?_
  refine lq rfl (q_loadBlk rfl rfl Try.isAgg3 (hS22.blk 3 rfl) rfl (fun h => h)) ?_
  refine lq rfl (q_mul rfl rfl rfl (by have := mul30 (x := a.Num) (y := b.Den) ⟨ha.n1, ha.n2⟩ ⟨by have := hb.d1; omega, hb.d2⟩; constructor <;> omega)) ?_
  refine lq rfl (q_fieldAddr rfl Try.underlying66 rfl Try.sizeOf3 y3) ?_
  refine lq rfl (q_loadBlk rfl rfl Try.isAgg3 (hS22.blk 3 rfl) rfl (fun h => h)) ?_
  refine lq rfl (q_fieldAddr rfl Try.underlying66 rfl Try.sizeOf3 y2) ?_
  refine lq rfl (q_loadBlk rfl rfl Try.isAgg3 (hS22.blk 4 rfl) rfl (fun h => h)) ?_
  refine lq rfl (q_mul rfl rfl rfl (by have := mul30 (x := b.Num) (y := a.Den) ⟨hb.n1, hb.n2⟩ ⟨by have := ha.d1; omega, ha.d2⟩; constructor <;> omega)) ?_
  refine lq rfl (q_lss rfl rfl rfl) ?_
  refine lq rfl (q_build (v := Vg #[I (0), I (0)]) rfl par0 (fun w__ => by kernel_rfl)) ?_
  refine la (v := B (decide ((a.Num * b.Den) < (b.Num * a.Den)))) rfl rfl rfl ?_
  refine lo rfl ?_
  refine e_storeBlkA (cs' := #[I (0), I (0)]) rfl y5 rfl Try.sizeOf28 rfl rfl (fa rfl (fa rfl fe)) (hS22.front 2 rfl) (fun H27 hS28 hxx => ?_)
  exact ⟨rfl, y5, hS28⟩
 clear y13 y2 y3 y5 y6
 rintro f29 H29 ⟨y4, y5, hS29⟩
 refine wpF_ret ?_
 refine ⟨_, resT y4 (resC y5 (loadV_blkA Try.isAgg28 Try.sizeOf28 rfl (hS29.blk 0 rfl)) (resN)), hS29.frame, ?_⟩
 show ∃ c_ d_, (Value.tuple #[B (decide ((a.Num * b.Den) < (b.Num * a.Den))), Vg #[I (0), I (0)]]) = Value.tuple #[B (lessB a b), Vg #[I c_, I d_]]
 exact ⟨_, _, by rw [lessB_ok h13]⟩
set_option maxRecDepth 100000 in
theorem width_W {H0 : Heap} (b : Int)  : CallsH Try.prog 85 #[I (b)] H0 (fun rv_ H' => Ext NoB H0 H' ∧ rv_ = B (decide (1 ≤ b ∧ b ≤ 8))) := by
 have hS0 : St H0 NoB NoB [] H0 := St.start (fun _ h => h.elim)
 refine callsH_of_wpF (args := [I (b)]) (rs := [.tmp 2]) Try.func85 rfl Try.ntmps85 Try.results85 (by kernel_rfl) (Nat.le_of_ble_eq_true rfl) ?_
 have y0 : argF [I (b)] 0 = I (b) := rfl
 generalize argF [I (b)] = f0 at *
 refine fcr (fun f H => f 0 = I (b) ∧ H0 = H) ?_ ?_
 ·refine la (v := B (false)) rfl rfl rfl ?_
  exact ⟨y0, rfl⟩
 clear y0
 rintro f1 _ ⟨y0, rfl⟩
 refine fcr (fun f H => f 2 = B (decide ((1 ≤ b) ∧ (b ≤ 8))) ∧ H0 = H) ?_ ?_
 ·refine lm (v := I (b)) rfl rfl y0 ?_
  refine lq rfl (q_geq rfl rfl rfl) ?_
  refine lm (v := B (decide (1 ≤ b))) rfl rfl rfl ?_
  by_cases hg2 : 1 ≤ b
  ·have hb3 := Eq.trans rfl (congrArg B (decide_eq_true hg2))
   refine gq rfl rfl rfl hb3 (q_move (v := I (b)) rfl y0) ?_
   refine gq rfl rfl rfl hb3 (q_leq rfl rfl rfl) ?_
   refine lq rfl (q_pickT (v := B (decide (b ≤ 8))) rfl hb3 rfl) ?_
   refine la (v := B (decide (b ≤ 8))) rfl rfl rfl ?_
   exact ⟨(Eq.trans rfl (congrArg B (decide_congr_of ((Iff.rfl).trans (((and_iff_right hg2).trans Iff.rfl)).symm)))), rfl⟩
  ·have hb4 := Eq.trans rfl (congrArg B (decide_eq_false hg2))
   refine wpL_gs rfl rfl rfl hb4 rfl ?_
   refine wpL_gs rfl rfl rfl hb4 rfl ?_
   refine lq rfl (q_pickF (v := B (false)) rfl hb4 rfl) ?_
   refine la (v := B (false)) rfl rfl rfl ?_
   exact ⟨(Eq.trans rfl (congrArg B ((decide_eq_false (fun h => hg2 h.1)).symm))), rfl⟩
 clear y0
 rintro f5 _ ⟨y2, rfl⟩
 refine wpF_ret ?_
 refine ⟨_, resT y2 resN, hS0.frame, ?_⟩
 show (B (decide ((1 ≤ b) ∧ (b ≤ 8)))) = B (decide (1 ≤ b ∧ b ≤ 8))
 rfl
set_option maxRecDepth 100000 in
theorem operands_W {H0 : Heap} (op : Int)  : CallsH Try.prog 86 #[I (op)] H0 (fun rv_ H' => Ext NoB H0 H' ∧ rv_ = I (opsW op)) := by
 have hS0 : St H0 NoB NoB [] H0 := St.start (fun _ h => h.elim)
 refine callsH_of_wpF (args := [I (op)]) (rs := [.tmp 2]) Try.func86 rfl Try.ntmps86 Try.results86 (by kernel_rfl) (Nat.le_of_ble_eq_true rfl) ?_
 have y0 : argF [I (op)] 0 = I (op) := rfl
 generalize argF [I (op)] = f0 at *
 refine fcr (fun f H => f 0 = I (op) ∧ H0 = H) ?_ ?_
 ·refine la (v := I (0)) rfl rfl rfl ?_
  exact ⟨y0, rfl⟩
 clear y0
 rintro f1 _ ⟨y0, rfl⟩
 refine wpF_seq ?_
 refine fcr (fun f H => f 3 = I (op) ∧ H0 = H) ?_ ?_
 ·refine lm (v := I (op)) rfl rfl y0 ?_
  exact ⟨rfl, rfl⟩
 clear y0
 rintro f2 _ ⟨y3, rfl⟩
 refine wpF_block ?_
 refine fcr (fun f H => f 3 = I (op) ∧ f 4 = B (decide (op = 15)) ∧ H0 = H) ?_ ?_
 ·refine lq rfl (q_eql rfl y3 rfl) ?_
  refine la (v := B (decide (op = 15))) rfl rfl rfl ?_
  exact ⟨y3, rfl, rfl⟩
 clear y3
 rintro f3 _ ⟨y3, y4, rfl⟩
 refine wpF_condP y4 (fun hp4 => ?t15) (fun hp4 => ?e15)
 case t15 =>
  refine fcr (fun f H => f 2 = I (0) ∧ H0 = H) ?_ ?_
  ·refine la (v := I (0)) rfl rfl rfl ?_
   exact ⟨rfl, rfl⟩
  clear y3 y4
  rintro f5 _ ⟨y2, rfl⟩
  refine wpF_ret ?_
  refine ⟨_, resT y2 resN, hS0.frame, ?_⟩
  show (I (0)) = I (opsW op)
  exact congrArg I (by rw [opsW, hp4]; rfl)
 refine wpF_seq ?_
 refine fcr (fun f H => f 3 = I (op) ∧ f 6 = B (decide (op = 16)) ∧ H0 = H) ?_ ?_
 ·refine lq rfl (q_eql rfl y3 rfl) ?_
  refine la (v := B (decide (op = 16))) rfl rfl rfl ?_
  exact ⟨y3, rfl, rfl⟩
 clear y3 y4
 rintro f6 _ ⟨y3, y6, rfl⟩
 refine wpF_condP y6 (fun hp7 => ?t14) (fun hp7 => ?e14)
 case t14 =>
  refine wpF_skip ?_
  refine wpF_condT (Eq.trans y6 (congrArg B (decide_eq_true hp7))) ?_
  refine fcr (fun f H => f 2 = I (1) ∧ H0 = H) ?_ ?_
  ·refine la (v := I (1)) rfl rfl rfl ?_
   exact ⟨rfl, rfl⟩
  clear y3 y6
  rintro f8 _ ⟨y2, rfl⟩
  refine wpF_ret ?_
  refine ⟨_, resT y2 resN, hS0.frame, ?_⟩
  show (I (1)) = I (opsW op)
  exact congrArg I (by rw [opsW, hp7]; rfl)
 refine wpF_cut (fun f H => f 6 = B (decide (op = 23)) ∧ H0 = H) ?_ ?_
 ·refine wpF_region ?_
  refine lq rfl (q_eql rfl y3 rfl) ?_
  refine la (v := B (decide (op = 23))) rfl rfl rfl ?_
  exact ⟨rfl, rfl⟩
 clear y3 y6
 rintro f9 _ ⟨y6, rfl⟩
 refine wpF_condP y6 (fun hp10 => ?t13) (fun hp10 => ?e13)
 case t13 =>
  refine fcr (fun f H => f 2 = I (1) ∧ H0 = H) ?_ ?_
  ·refine la (v := I (1)) rfl rfl rfl ?_
   exact ⟨rfl, rfl⟩
  clear y6
  rintro f11 _ ⟨y2, rfl⟩
  refine wpF_ret ?_
  refine ⟨_, resT y2 resN, hS0.frame, ?_⟩
  show (I (1)) = I (opsW op)
  exact congrArg I (by rw [opsW, hp10]; rfl)
 refine wpF_skip ?_
 refine fcr (fun f H => f 2 = I (2) ∧ H0 = H) ?_ ?_
 ·refine la (v := I (2)) rfl rfl rfl ?_
  exact ⟨rfl, rfl⟩
 clear y6
 rintro f12 _ ⟨y2, rfl⟩
 refine wpF_ret ?_
 refine ⟨_, resT y2 resN, hS0.frame, ?_⟩
 show (I (2)) = I (opsW op)
 exact congrArg I (by rw [opsW, if_neg hp4, if_neg hp7, if_neg hp10])
set_option maxRecDepth 100000 in
theorem in_W {H0 : Heap} (w b : Int) (hb : 1 ≤ b ∧ b ≤ 8) : CallsH Try.prog 87 #[I (w), I (b)] H0 (fun rv_ H' => Ext NoB H0 H' ∧ rv_ = B (decide (inW w b))) := by
 have hS0 : St H0 NoB NoB [] H0 := St.start (fun _ h => h.elim)
 refine callsH_of_wpF (args := [I (w), I (b)]) (rs := [.tmp 4]) Try.func87 rfl Try.ntmps87 Try.results87 (by kernel_rfl) (Nat.le_of_ble_eq_true rfl) ?_
 have y0 : argF [I (w), I (b)] 0 = I (w) := rfl
 have y1 : argF [I (w), I (b)] 1 = I (b) := rfl
 generalize argF [I (w), I (b)] = f0 at *
 refine fcr (fun f H => f 0 = I (w) ∧ f 1 = I (b) ∧ H0 = H) ?_ ?_
 ·refine la (v := B (false)) rfl rfl rfl ?_
  exact ⟨y0, y1, rfl⟩
 clear y0 y1
 rintro f1 _ ⟨y0, y1, rfl⟩
 refine fcr (fun f H => f 4 = B (decide ((0 ≤ w) ∧ (w < ((2 ^ ((b).toNat) : Nat) : Int)))) ∧ H0 = H) ?_ ?_
 ·refine lm (v := I (w)) rfl rfl y0 ?_
  refine lq rfl (q_geq rfl rfl rfl) ?_
  refine lm (v := B (decide (0 ≤ w))) rfl rfl rfl ?_
  by_cases hg2 : 0 ≤ w
  ·have hb3 := Eq.trans rfl (congrArg B (decide_eq_true hg2))
   refine gq rfl rfl rfl hb3 (q_move (v := I (w)) rfl y0) ?_
   refine gq rfl rfl rfl hb3 (q_move (v := I (b)) rfl y1) ?_
   refine gq rfl rfl rfl hb3 (q_shl1 rfl rfl rfl (by omega) (by omega)) ?_
   refine gq rfl rfl rfl hb3 (q_lss rfl rfl rfl) ?_
   refine lq rfl (q_pickT (v := B (decide (w < ((2 ^ ((b).toNat) : Nat) : Int)))) rfl hb3 rfl) ?_
   refine la (v := B (decide (w < ((2 ^ ((b).toNat) : Nat) : Int)))) rfl rfl rfl ?_
   exact ⟨(Eq.trans rfl (congrArg B (decide_congr_of ((Iff.rfl).trans (((and_iff_right hg2).trans Iff.rfl)).symm)))), rfl⟩
  ·have hb4 := Eq.trans rfl (congrArg B (decide_eq_false hg2))
   refine wpL_gs rfl rfl rfl hb4 rfl ?_
   refine wpL_gs rfl rfl rfl hb4 rfl ?_
   refine wpL_gs rfl rfl rfl hb4 rfl ?_
   refine wpL_gs rfl rfl rfl hb4 rfl ?_
   refine lq rfl (q_pickF (v := B (false)) rfl hb4 rfl) ?_
   refine la (v := B (false)) rfl rfl rfl ?_
   exact ⟨(Eq.trans rfl (congrArg B ((decide_eq_false (fun h => hg2 h.1)).symm))), rfl⟩
 clear y0 y1
 rintro f5 _ ⟨y4, rfl⟩
 refine wpF_ret ?_
 refine ⟨_, resT y4 resN, hS0.frame, ?_⟩
 show (B (decide ((0 ≤ w) ∧ (w < ((2 ^ ((b).toNat) : Nat) : Int))))) = B (decide (inW w b))
 rfl
set_option maxRecDepth 100000 in
theorem fits_W {H0 : Heap} (op b n : Int) (hb : 1 ≤ b ∧ b ≤ 8) : CallsH Try.prog 88 #[I (op), I (b), I (n)] H0 (fun rv_ H' => Ext NoB H0 H' ∧ rv_ = B (fitsW op b n)) := by
 have hS0 : St H0 NoB NoB [] H0 := St.start (fun _ h => h.elim)
 refine callsH_of_wpF (args := [I (op), I (b), I (n)]) (rs := [.tmp 6]) Try.func88 rfl Try.ntmps88 Try.results88 (by kernel_rfl) (Nat.le_of_ble_eq_true rfl) ?_
 have y0 : argF [I (op), I (b), I (n)] 0 = I (op) := rfl
 have y1 : argF [I (op), I (b), I (n)] 1 = I (b) := rfl
 have y2 : argF [I (op), I (b), I (n)] 2 = I (n) := rfl
 generalize argF [I (op), I (b), I (n)] = f0 at *
 refine fcr (fun f H => f 0 = I (op) ∧ f 1 = I (b) ∧ f 2 = I (n) ∧ H0 = H) ?_ ?_
 ·refine la (v := B (false)) rfl rfl rfl ?_
  exact ⟨y0, y1, y2, rfl⟩
 clear y0 y1 y2
 rintro f1 _ ⟨y0, y1, y2, rfl⟩
 refine wpF_seq ?_
 refine fcr (fun f H => f 1 = I (b) ∧ f 2 = I (n) ∧ f 7 = I (op) ∧ H0 = H) ?_ ?_
 ·refine lm (v := I (op)) rfl rfl y0 ?_
  exact ⟨y1, y2, rfl, rfl⟩
 clear y0 y1 y2
 rintro f2 _ ⟨y1, y2, y7, rfl⟩
 refine wpF_block ?_
 refine fcr (fun f H => f 1 = I (b) ∧ f 2 = I (n) ∧ f 7 = I (op) ∧ f 8 = B (decide (op = 15)) ∧ H0 = H) ?_ ?_
 ·refine lq rfl (q_eql rfl y7 rfl) ?_
  refine la (v := B (decide (op = 15))) rfl rfl rfl ?_
  exact ⟨y1, y2, y7, rfl, rfl⟩
 clear y1 y2 y7
 rintro f3 _ ⟨y1, y2, y7, y8, rfl⟩
 refine wpF_condP y8 (fun hp4 => ?t17) (fun hp4 => ?e17)
 case t17 =>
  refine fcr (fun f H => f 6 = B (decide (inW n b)) ∧ St H0 NoB NoB [] H) ?_ ?_
  ·refine lm (v := I (n)) rfl rfl y2 ?_
   refine lm (v := I (b)) rfl rfl y1 ?_
   refine lo rfl ?_
   refine e_call rfl Try.call87 (arr2 (v0 := I (n)) (v1 := I (b)) rfl rfl) (in_W n b hb) ?_
   rintro _ H5 ⟨hxx, rfl⟩
   have hS6 := hS0.ext hxx
   refine la (v := B (decide (inW n b))) rfl rfl rfl ?_
   exact ⟨rfl, hS6⟩
  clear y1 y2 y7 y8
  rintro f8 H8 ⟨y6, hS8⟩
  refine wpF_ret ?_
  refine ⟨_, resT y6 resN, hS8.frame, ?_⟩
  show (B (decide (inW n b))) = B (fitsW op b n)
  exact congrArg B (by rw [fitsW, hp4]; rfl)
 refine fcr (fun f H => f 2 = I (n) ∧ f 13 = B (decide (op = 23)) ∧ H0 = H) ?_ ?_
 ·refine lq rfl (q_eql rfl y7 rfl) ?_
  refine la (v := B (decide (op = 23))) rfl rfl rfl ?_
  exact ⟨y2, rfl, rfl⟩
 clear y1 y2 y7 y8
 rintro f9 _ ⟨y2, y13, rfl⟩
 refine wpF_condP y13 (fun hp10 => ?t16) (fun hp10 => ?e16)
 case e16 =>
  refine wpF_skip ?_
  refine fcr (fun f H => f 6 = B (decide (n = 0)) ∧ H0 = H) ?_ ?_
  ·refine lm (v := I (n)) rfl rfl y2 ?_
   refine lq rfl (q_eql rfl rfl rfl) ?_
   refine la (v := B (decide (n = 0))) rfl rfl rfl ?_
   exact ⟨rfl, rfl⟩
  clear y13 y2
  rintro f15 _ ⟨y6, rfl⟩
  refine wpF_ret ?_
  refine ⟨_, resT y6 resN, hS0.frame, ?_⟩
  show (B (decide (n = 0))) = B (fitsW op b n)
  exact congrArg B (by rw [fitsW, if_neg hp4, if_neg hp10])
 refine fcr (fun f H => f 6 = B (decide ((0 ≤ n) ∧ (n ≤ 8))) ∧ H0 = H) ?_ ?_
 ·refine lm (v := I (n)) rfl rfl y2 ?_
  refine lq rfl (q_geq rfl rfl rfl) ?_
  refine lm (v := B (decide (0 ≤ n))) rfl rfl rfl ?_
  by_cases hg11 : 0 ≤ n
  ·have hb12 := Eq.trans rfl (congrArg B (decide_eq_true hg11))
   refine gq rfl rfl rfl hb12 (q_move (v := I (n)) rfl y2) ?_
   refine gq rfl rfl rfl hb12 (q_leq rfl rfl rfl) ?_
   refine lq rfl (q_pickT (v := B (decide (n ≤ 8))) rfl hb12 rfl) ?_
   refine la (v := B (decide (n ≤ 8))) rfl rfl rfl ?_
   exact ⟨(Eq.trans rfl (congrArg B (decide_congr_of ((Iff.rfl).trans (((and_iff_right hg11).trans Iff.rfl)).symm)))), rfl⟩
  ·have hb13 := Eq.trans rfl (congrArg B (decide_eq_false hg11))
   refine wpL_gs rfl rfl rfl hb13 rfl ?_
   refine wpL_gs rfl rfl rfl hb13 rfl ?_
   refine lq rfl (q_pickF (v := B (false)) rfl hb13 rfl) ?_
   refine la (v := B (false)) rfl rfl rfl ?_
   exact ⟨(Eq.trans rfl (congrArg B ((decide_eq_false (fun h => hg11 h.1)).symm))), rfl⟩
 clear y13 y2
 rintro f14 _ ⟨y6, rfl⟩
 refine wpF_ret ?_
 refine ⟨_, resT y6 resN, hS0.frame, ?_⟩
 show (B (decide ((0 ≤ n) ∧ (n ≤ 8)))) = B (fitsW op b n)
 exact congrArg B (by rw [fitsW, hp10]; rfl)
set_option maxHeartbeats 4000000 in
set_option maxRecDepth 100000 in
theorem Do_W {H0 : Heap} (vl : Value) (op b : Int) (l : List Int) (n : Int) (rl : Rd NoB H0 vl l) : CallsH Try.prog 77 #[I (op), I (b), vl, I (n)] H0 (fun rv_ H' => Ext NoB H0 H' ∧ ∃ c_ d_, rv_ = Value.tuple #[I (wordV op b l n), Vg #[I c_, I d_]] ∧ In64 (wordV op b l n)) := by
 have hsm := (Rd.list.1 rl).small
 have hS0 : St H0 NoB NoB [rdE vl l] H0 := St.arg (St.start (fun _ h => h.elim)) (Bl0.nil) rl (fun _ h => h)
 refine callsH_of_wpF (args := [I (op), I (b), vl, I (n)]) (rs := [.tmp 8, .cell 9 28]) Try.func77 rfl Try.ntmps77 Try.results77 (by kernel_rfl) (Nat.le_of_ble_eq_true rfl) ?_
 have y0 : argF [I (op), I (b), vl, I (n)] 0 = I (op) := rfl
 have y1 : argF [I (op), I (b), vl, I (n)] 1 = I (b) := rfl
 have y2 : argF [I (op), I (b), vl, I (n)] 2 = vl := rfl
 have y3 : argF [I (op), I (b), vl, I (n)] 3 = I (n) := rfl
 generalize argF [I (op), I (b), vl, I (n)] = f0 at *
 refine fcr (fun f H => ∃ (g1 : Nat), f 0 = I (op) ∧ f 1 = I (b) ∧ f 2 = vl ∧ f 3 = I (n) ∧ f 9 = PT g1 0 ∧ St H0 NoB NoB [bE g1 #[I (0), I (0)] 28, rdE vl l] H) ?_ ?_
 ·refine la (v := I (0)) rfl rfl rfl ?_
  refine lo rfl ?_
  refine e_alloc rfl Try.zeroValue28 hS0 (fun g1 H2 hS3 hxx => ?_)
  exact ⟨g1, y0, y1, y2, y3, rfl, hS3⟩
 clear y0 y1 y2 y3
 rintro f4 H4 ⟨g1, y0, y1, y2, y3, y9, hS4⟩
 refine wpF_seq ?_
 refine wpF_block ?_
 refine fcr (fun f H => f 0 = I (op) ∧ f 1 = I (b) ∧ f 2 = vl ∧ f 3 = I (n) ∧ f 9 = PT g1 0 ∧ f 13 = B (decide ((op < 15) ∨ (23 < op))) ∧ H4 = H) ?_ ?_
 ·refine lm (v := I (op)) rfl rfl y0 ?_
  refine lq rfl (q_lss rfl rfl rfl) ?_
  refine lm (v := B (decide (op < 15))) rfl rfl rfl ?_
  by_cases hg5 : op < 15
  ·have hb6 := Eq.trans rfl (congrArg B (decide_eq_true hg5))
   refine wpL_gs rfl rfl rfl hb6 rfl ?_
   refine wpL_gs rfl rfl rfl hb6 rfl ?_
   refine lq rfl (q_pickT (v := B (true)) rfl hb6 rfl) ?_
   refine la (v := B (true)) rfl rfl rfl ?_
   exact ⟨y0, y1, y2, y3, y9, (Eq.trans rfl (congrArg B ((decide_eq_true (Or.inl hg5)).symm))), rfl⟩
  ·have hb7 := Eq.trans rfl (congrArg B (decide_eq_false hg5))
   refine gq rfl rfl rfl hb7 (q_move (v := I (op)) rfl y0) ?_
   refine gq rfl rfl rfl hb7 (q_gtr rfl rfl rfl) ?_
   refine lq rfl (q_pickF (v := B (decide (23 < op))) rfl hb7 rfl) ?_
   refine la (v := B (decide (23 < op))) rfl rfl rfl ?_
   exact ⟨y0, y1, y2, y3, y9, (Eq.trans rfl (congrArg B (decide_congr_of ((Iff.rfl).trans (((or_iff_right hg5).trans Iff.rfl)).symm)))), rfl⟩
 clear y0 y1 y2 y3 y9
 rintro f8 _ ⟨y0, y1, y2, y3, y9, y13, rfl⟩
 refine wpF_condP y13 (fun h13 => ?t104) (fun h13 => ?e104)
 case t104 =>
  refine fcr (fun f H => f 8 = I (0) ∧ f 9 = PT g1 0 ∧ St H0 NoB NoB [bE g1 #[I (4), I (0)] 28, rdE vl l] H) ?_ ?_
  ·refine lq rfl (q_build (v := Vg #[I (4), I (0)]) rfl (par1 (v0 := I (4)) rfl) (fun w__ => by kernel_rfl)) ?_
   refine la (v := I (0)) rfl rfl rfl ?_
   refine lo rfl ?_
   refine e_storeBlkA (cs' := #[I (4), I (0)]) rfl y9 rfl Try.sizeOf28 rfl rfl (fa rfl (fa rfl fe)) hS4 (fun H10 hS11 hxx => ?_)
   exact ⟨rfl, y9, hS11⟩
  clear y0 y1 y13 y2 y3 y9
  rintro f12 H12 ⟨y8, y9, hS12⟩
  refine wpF_ret ?_
  refine ⟨_, resT y8 (resC y9 (loadV_blkA Try.isAgg28 Try.sizeOf28 rfl (hS12.blk 0 rfl)) (resN)), hS12.frame, ?_⟩
  show ∃ c_ d_, (Value.tuple #[I (0), Vg #[I (4), I (0)]]) = Value.tuple #[I (wordV op b l n), Vg #[I c_, I d_]] ∧ In64 (wordV op b l n)
  have hq_ : wordV op b l n = _ := wordV_op h13
  exact ⟨_, _, by rw [hq_], by rw [hq_]; exact (by constructor <;> decide : In64 0)⟩
 refine fcr (fun f H => f 0 = I (op) ∧ f 1 = I (b) ∧ f 2 = vl ∧ f 3 = I (n) ∧ f 9 = PT g1 0 ∧ f 21 = B (decide (¬ (1 ≤ b ∧ b ≤ 8))) ∧ St H0 NoB NoB [bE g1 #[I (0), I (0)] 28, rdE vl l] H) ?_ ?_
 ·refine lm (v := I (b)) rfl rfl y1 ?_
  refine lo rfl ?_
  refine e_call rfl Try.call85 (arr1 (v0 := I (b)) rfl) (width_W b) ?_
  rintro _ H13 ⟨hxx, rfl⟩
  have hS14 := hS4.ext hxx
  refine lq rfl (q_notP rfl rfl) ?_
  refine la (v := B (decide (¬ (1 ≤ b ∧ b ≤ 8)))) rfl rfl rfl ?_
  exact ⟨y0, y1, y2, y3, y9, rfl, hS14⟩
 clear y0 y1 y13 y2 y3 y9
 rintro f16 H16 ⟨y0, y1, y2, y3, y9, y21, hS16⟩
 refine wpF_condP y21 (fun h21 => ?t103) (fun h21 => ?e103)
 case t103 =>
  refine fcr (fun f H => f 8 = I (0) ∧ f 9 = PT g1 0 ∧ St H0 NoB NoB [bE g1 #[I (3), I (-1)] 28, rdE vl l] H) ?_ ?_
  ·refine lq rfl (q_build (v := Vg #[I (3), I (-1)]) rfl (par2 (v0 := I (3)) (v1 := I (-1)) rfl rfl) (fun w__ => by kernel_rfl)) ?_
   refine la (v := I (0)) rfl rfl rfl ?_
   refine lo rfl ?_
   refine e_storeBlkA (cs' := #[I (3), I (-1)]) rfl y9 rfl Try.sizeOf28 rfl rfl (fa rfl (fa rfl fe)) hS16 (fun H18 hS19 hxx => ?_)
   exact ⟨rfl, y9, hS19⟩
  clear y0 y1 y2 y21 y3 y9
  rintro f20 H20 ⟨y8, y9, hS20⟩
  refine wpF_ret ?_
  refine ⟨_, resT y8 (resC y9 (loadV_blkA Try.isAgg28 Try.sizeOf28 rfl (hS20.blk 0 rfl)) (resN)), hS20.frame, ?_⟩
  show ∃ c_ d_, (Value.tuple #[I (0), Vg #[I (3), I (-1)]]) = Value.tuple #[I (wordV op b l n), Vg #[I c_, I d_]] ∧ In64 (wordV op b l n)
  have hq_ : wordV op b l n = _ := wordV_b h13 (by simpa using h21)
  exact ⟨_, _, by rw [hq_], by rw [hq_]; exact (by constructor <;> decide : In64 0)⟩
 have h2 : 1 ≤ b ∧ b ≤ 8 := by simpa using h21
 refine fcr (fun f H => f 0 = I (op) ∧ f 1 = I (b) ∧ f 2 = vl ∧ f 3 = I (n) ∧ f 9 = PT g1 0 ∧ f 26 = B (decide ((l.length : Int) ≠ ((opsW op)))) ∧ St H0 NoB NoB [bE g1 #[I (0), I (0)] 28, rdE vl l] H) ?_ ?_
 ·refine lm (v := vl) rfl rfl y2 ?_
  refine lq rfl (q_lenRd rfl Try.underlying24 rfl (hS16.rdl 1 rfl)) ?_
  refine lm (v := I (op)) rfl rfl y0 ?_
  refine lo rfl ?_
  refine e_call rfl Try.call86 (arr1 (v0 := I (op)) rfl) (operands_W  op  ) ?_
  rintro _ H21 ⟨hxx, rfl⟩
  have hS22 := hS16.ext hxx
  refine lq rfl (q_neq rfl rfl rfl) ?_
  refine la (v := B (decide ((l.length : Int) ≠ ((opsW op))))) rfl rfl rfl ?_
  exact ⟨y0, y1, y2, y3, y9, rfl, hS22⟩
 clear y0 y1 y2 y21 y3 y9
 rintro f24 H24 ⟨y0, y1, y2, y3, y9, y26, hS24⟩
 refine wpF_condP y26 (fun h26 => ?t102) (fun h26 => ?e102)
 case t102 =>
  refine fcr (fun f H => f 8 = I (0) ∧ f 9 = PT g1 0 ∧ St H0 NoB NoB [bE g1 #[I (9), I (0)] 28, rdE vl l] H) ?_ ?_
  ·refine lq rfl (q_build (v := Vg #[I (9), I (0)]) rfl (par1 (v0 := I (9)) rfl) (fun w__ => by kernel_rfl)) ?_
   refine la (v := I (0)) rfl rfl rfl ?_
   refine lo rfl ?_
   refine e_storeBlkA (cs' := #[I (9), I (0)]) rfl y9 rfl Try.sizeOf28 rfl rfl (fa rfl (fa rfl fe)) hS24 (fun H26 hS27 hxx => ?_)
   exact ⟨rfl, y9, hS27⟩
  clear y0 y1 y2 y26 y3 y9
  rintro f28 H28 ⟨y8, y9, hS28⟩
  refine wpF_ret ?_
  refine ⟨_, resT y8 (resC y9 (loadV_blkA Try.isAgg28 Try.sizeOf28 rfl (hS28.blk 0 rfl)) (resN)), hS28.frame, ?_⟩
  show ∃ c_ d_, (Value.tuple #[I (0), Vg #[I (9), I (0)]]) = Value.tuple #[I (wordV op b l n), Vg #[I c_, I d_]] ∧ In64 (wordV op b l n)
  have hq_ : wordV op b l n = _ := wordV_len h13 h2 h26
  exact ⟨_, _, by rw [hq_], by rw [hq_]; exact (by constructor <;> decide : In64 0)⟩
 obtain ⟨hl1, hl2⟩ := opsLen h26
 refine wpF_skip ?_
 refine wpF_seq ?_
 refine fcr (fun f H => f 0 = I (op) ∧ f 1 = I (b) ∧ f 2 = vl ∧ f 3 = I (n) ∧ f 9 = PT g1 0 ∧ f 33 = vl ∧ f 34 = I ((l.length : Int)) ∧ f 35 = I (0) ∧ H24 = H) ?_ ?_
 ·refine lm (v := vl) rfl rfl y2 ?_
  refine lq rfl (q_lenRd rfl Try.underlying24 rfl (hS24.rdl 1 rfl)) ?_
  refine lm (v := I (0)) rfl rfl rfl ?_
  exact ⟨y0, y1, y2, y3, y9, rfl, rfl, rfl, rfl⟩
 clear y0 y1 y2 y26 y3 y9
 rintro f29 _ ⟨y0, y1, y2, y3, y9, y33, y34, y35, rfl⟩
 refine wpF_block ?_
 refine wpF_loop (fun mz f H => ∃ (k : Nat), mz = l.length - k ∧ (k ≤ l.length) ∧ (∀ j, j < k → inW (nth l j) b) ∧ f 0 = I (op) ∧ f 1 = I (b) ∧ f 2 = vl ∧ f 3 = I (n) ∧ f 9 = PT g1 0 ∧ f 33 = vl ∧ f 34 = I ((l.length : Int)) ∧ f 35 = I ((k : Int)) ∧ St H0 NoB NoB [bE g1 #[I (0), I (0)] 28, rdE vl l] H) (l.length - 0) ?_ ?_
 ·exact ⟨0, rfl, Nat.zero_le _, (fun j hj => absurd hj (Nat.not_lt_zero j)), y0, y1, y2, y3, y9, y33, y34, (Eq.trans y35 (congrArg I (by omega))), hS24⟩
 intro m30 f30 H30 hI30
 clear y0 y1 y2 y3 y33 y34 y35 y9
 obtain ⟨k, hm30, hk, hp, y0, y1, y2, y3, y9, y33, y34, y35, hS30⟩ := hI30
 refine fcr (fun f H => f 0 = I (op) ∧ f 1 = I (b) ∧ f 2 = vl ∧ f 3 = I (n) ∧ f 9 = PT g1 0 ∧ f 33 = vl ∧ f 34 = I ((l.length : Int)) ∧ f 35 = I ((k : Int)) ∧ f 36 = B (decide ((k : Int) < (l.length : Int))) ∧ H30 = H) ?_ ?_
 ·refine lq rfl (q_lss rfl y35 y34) ?_
  exact ⟨y0, y1, y2, y3, y9, y33, y34, y35, rfl, rfl⟩
 clear y0 y1 y2 y3 y33 y34 y35 y9
 rintro f31 _ ⟨y0, y1, y2, y3, y9, y33, y34, y35, y36, rfl⟩
 refine wpF_seq ?_
 refine wpF_condP y36 (fun hlt => ?t101) (fun hlt => ?e101)
 case t101 =>
  refine wpF_skip ?_
  refine wpF_seq ?_
  refine wpF_block ?_
  refine fcr (fun f H => f 0 = I (op) ∧ f 1 = I (b) ∧ f 2 = vl ∧ f 3 = I (n) ∧ f 9 = PT g1 0 ∧ f 10 = I ((k : Int)) ∧ f 11 = I (nth l k) ∧ f 33 = vl ∧ f 34 = I ((l.length : Int)) ∧ f 35 = I ((k : Int)) ∧ H30 = H) ?_ ?_
  ·refine lm (v := I ((k : Int))) rfl rfl y35 ?_
   refine lq rfl (q_indexRd (k := k) rfl Try.underlying24 el_Int_3_MeanC1 y33 y35 (hS30.rdl 1 rfl) (by omega) (by omega)) ?_
   refine lq rfl (q_loadInt (k := k) rfl rfl el_Int_3_MeanC1 (hS30.rdl 1 rfl) (by omega) (fun _ h => h)) ?_
   refine la (v := I ((k : Int))) rfl rfl rfl ?_
   refine la (v := I (nth l k)) rfl rfl rfl ?_
   exact ⟨y0, y1, y2, y3, y9, rfl, rfl, y33, y34, y35, rfl⟩
  clear y0 y1 y2 y3 y33 y34 y35 y36 y9
  rintro f33 _ ⟨y0, y1, y2, y3, y9, y10, y11, y33, y34, y35, rfl⟩
  refine fcr (fun f H => f 0 = I (op) ∧ f 1 = I (b) ∧ f 2 = vl ∧ f 3 = I (n) ∧ f 9 = PT g1 0 ∧ f 10 = I ((k : Int)) ∧ f 33 = vl ∧ f 34 = I ((l.length : Int)) ∧ f 35 = I ((k : Int)) ∧ f 43 = B (decide (¬ (inW (nth l k) b))) ∧ St H0 NoB NoB [bE g1 #[I (0), I (0)] 28, rdE vl l] H) ?_ ?_
  ·refine lm (v := I (nth l k)) rfl rfl y11 ?_
   refine lm (v := I (b)) rfl rfl y1 ?_
   refine lo rfl ?_
   refine e_call rfl Try.call87 (arr2 (v0 := I (nth l k)) (v1 := I (b)) rfl rfl) (in_W (nth l k) b h2) ?_
   rintro _ H34 ⟨hxx, rfl⟩
   have hS35 := hS30.ext hxx
   refine lq rfl (q_notP rfl rfl) ?_
   exact ⟨y0, y1, y2, y3, y9, y10, y33, y34, y35, rfl, hS35⟩
  clear y0 y1 y10 y11 y2 y3 y33 y34 y35 y9
  rintro f37 H37 ⟨y0, y1, y2, y3, y9, y10, y33, y34, y35, y43, hS37⟩
  refine wpF_condP y43 (fun h43 => ?t43) (fun h43 => ?e43)
  case e43 =>
   refine wpF_skip ?_
   refine wpF_cut (fun f H => f 0 = I (op) ∧ f 1 = I (b) ∧ f 2 = vl ∧ f 3 = I (n) ∧ f 9 = PT g1 0 ∧ f 33 = vl ∧ f 34 = I ((l.length : Int)) ∧ f 35 = I ((k : Int) + 1) ∧ H37 = H) ?_ ?_
   ·refine wpF_region ?_
    refine lq rfl (q_add rfl y35 rfl (by constructor <;> omega)) ?_
    refine lm (v := I ((k : Int) + 1)) rfl rfl rfl ?_
    exact ⟨y0, y1, y2, y3, y9, y33, y34, rfl, rfl⟩
   clear y0 y1 y10 y2 y3 y33 y34 y35 y43 y9
   rintro f42 _ ⟨y0, y1, y2, y3, y9, y33, y34, y35, rfl⟩
   refine ⟨_, ?_, k + 1, rfl, (by omega), (all_succ hp (by simpa using h43)), y0, y1, y2, y3, y9, y33, y34, (Eq.trans y35 (congrArg I (by omega))), hS37⟩
   omega
  refine fcr (fun f H => f 8 = I (0) ∧ f 9 = PT g1 0 ∧ St H0 NoB NoB [bE g1 #[I (3), I ((k : Int))] 28, rdE vl l] H) ?_ ?_
  ·refine lm (v := I ((k : Int))) rfl rfl y10 ?_
   refine lq rfl (q_build (v := Vg #[I (3), I ((k : Int))]) rfl (par2 (v0 := I (3)) (v1 := I ((k : Int))) rfl rfl) (fun w__ => by kernel_rfl)) ?_
   refine la (v := I (0)) rfl rfl rfl ?_
   refine lo rfl ?_
   refine e_storeBlkA (cs' := #[I (3), I ((k : Int))]) rfl y9 rfl Try.sizeOf28 rfl rfl (fa rfl (fa rfl fe)) hS37 (fun H39 hS40 hxx => ?_)
   exact ⟨rfl, y9, hS40⟩
  clear y0 y1 y10 y2 y3 y33 y34 y35 y43 y9
  rintro f41 H41 ⟨y8, y9, hS41⟩
  refine wpF_ret ?_
  refine ⟨_, resT y8 (resC y9 (loadV_blkA Try.isAgg28 Try.sizeOf28 rfl (hS41.blk 0 rfl)) (resN)), hS41.frame, ?_⟩
  show ∃ c_ d_, (Value.tuple #[I (0), Vg #[I (3), I ((k : Int))]]) = Value.tuple #[I (wordV op b l n), Vg #[I c_, I d_]] ∧ In64 (wordV op b l n)
  have hq_ : wordV op b l n = _ := wordV_in h13 h2 h26 (nth_mem (l := l) (k := k) (by omega)) (by simpa using h43)
  exact ⟨_, _, by rw [hq_], by rw [hq_]; exact (by constructor <;> decide : In64 0)⟩
 have hall : ∀ w ∈ l, inW w b := fun w hw => by obtain ⟨j, hj, rfl⟩ := nth_of_mem hw; exact hp j (by omega)
 have hn0 := nth_in h2 hall 0
 have hn1 := nth_in h2 hall 1
 have hmm := mul30 (x := nth l 0) (y := nth l 1) ⟨by omega, by omega⟩ ⟨by omega, by omega⟩
 have hpw := pow_small h2
 refine wpF_exit ?_
 refine atX_here ?_
 refine wpF_seq ?_
 refine fcr (fun f H => f 0 = I (op) ∧ f 1 = I (b) ∧ f 2 = vl ∧ f 3 = I (n) ∧ f 9 = PT g1 0 ∧ f 51 = B (!(fitsW op b n)) ∧ St H0 NoB NoB [bE g1 #[I (0), I (0)] 28, rdE vl l] H) ?_ ?_
 ·refine lm (v := I (op)) rfl rfl y0 ?_
  refine lm (v := I (b)) rfl rfl y1 ?_
  refine lm (v := I (n)) rfl rfl y3 ?_
  refine lo rfl ?_
  refine e_call rfl Try.call88 (arr3 (v0 := I (op)) (v1 := I (b)) (v2 := I (n)) rfl rfl rfl) (fits_W  op b n  h2) ?_
  rintro _ H44 ⟨hxx, rfl⟩
  have hS45 := hS30.ext hxx
  refine lq rfl (q_not rfl rfl) ?_
  exact ⟨y0, y1, y2, y3, y9, rfl, hS45⟩
 clear y0 y1 y2 y3 y33 y34 y35 y36 y9
 rintro f47 H47 ⟨y0, y1, y2, y3, y9, y51, hS47⟩
 refine wpF_cond y51 (fun h51 => ?t100) (fun h51 => ?e100)
 case t100 =>
  refine fcr (fun f H => f 8 = I (0) ∧ f 9 = PT g1 0 ∧ St H0 NoB NoB [bE g1 #[I (5), I (0)] 28, rdE vl l] H) ?_ ?_
  ·refine lq rfl (q_build (v := Vg #[I (5), I (0)]) rfl (par1 (v0 := I (5)) rfl) (fun w__ => by kernel_rfl)) ?_
   refine la (v := I (0)) rfl rfl rfl ?_
   refine lo rfl ?_
   refine e_storeBlkA (cs' := #[I (5), I (0)]) rfl y9 rfl Try.sizeOf28 rfl rfl (fa rfl (fa rfl fe)) hS47 (fun H49 hS50 hxx => ?_)
   exact ⟨rfl, y9, hS50⟩
  clear y0 y1 y2 y3 y51 y9
  rintro f51 H51 ⟨y8, y9, hS51⟩
  refine wpF_ret ?_
  refine ⟨_, resT y8 (resC y9 (loadV_blkA Try.isAgg28 Try.sizeOf28 rfl (hS51.blk 0 rfl)) (resN)), hS51.frame, ?_⟩
  show ∃ c_ d_, (Value.tuple #[I (0), Vg #[I (5), I (0)]]) = Value.tuple #[I (wordV op b l n), Vg #[I c_, I d_]] ∧ In64 (wordV op b l n)
  have hq_ : wordV op b l n = _ := wordV_fit h13 h2 h26 hall (by simpa using h51)
  exact ⟨_, _, by rw [hq_], by rw [hq_]; exact (by constructor <;> decide : In64 0)⟩
 have hfn := fits_n (op := op) (b := b) (n := n) (by simpa using h51)
 refine wpF_skip ?_
 refine fcr (fun f H => f 0 = I (op) ∧ f 1 = I (b) ∧ f 2 = vl ∧ f 3 = I (n) ∧ f 9 = PT g1 0 ∧ f 12 = I (n) ∧ H47 = H) ?_ ?_
 ·refine lm (v := I (n)) rfl rfl y3 ?_
  refine la (v := I (n)) rfl rfl rfl ?_
  exact ⟨y0, y1, y2, y3, y9, rfl, rfl⟩
 clear y0 y1 y2 y3 y51 y9
 rintro f52 _ ⟨y0, y1, y2, y3, y9, y12, rfl⟩
 refine wpF_seq ?_
 refine fcr (fun f H => f 1 = I (b) ∧ f 2 = vl ∧ f 3 = I (n) ∧ f 9 = PT g1 0 ∧ f 12 = I (n) ∧ f 54 = I (op) ∧ H47 = H) ?_ ?_
 ·refine lm (v := I (op)) rfl rfl y0 ?_
  exact ⟨y1, y2, y3, y9, y12, rfl, rfl⟩
 clear y0 y1 y12 y2 y3 y9
 rintro f53 _ ⟨y1, y2, y3, y9, y12, y54, rfl⟩
 refine wpF_cut (fun f H => f 1 = I (b) ∧ f 9 = PT g1 0 ∧ f 12 = I (outW op l n) ∧ St H0 NoB NoB [bE g1 #[I (0), I (0)] 28, rdE vl l] H) ?_ ?_
 ·refine wpF_block ?_
  refine fcr (fun f H => f 1 = I (b) ∧ f 2 = vl ∧ f 3 = I (n) ∧ f 9 = PT g1 0 ∧ f 12 = I (n) ∧ f 54 = I (op) ∧ f 55 = B (decide (op = 16)) ∧ H47 = H) ?_ ?_
  ·refine lq rfl (q_eql rfl y54 rfl) ?_
   refine la (v := B (decide (op = 16))) rfl rfl rfl ?_
   exact ⟨y1, y2, y3, y9, y12, y54, rfl, rfl⟩
  clear y1 y12 y2 y3 y54 y9
  rintro f55 _ ⟨y1, y2, y3, y9, y12, y54, y55, rfl⟩
  refine wpF_condP y55 (fun hp56 => ?t96) (fun hp56 => ?e96)
  case t96 =>
   refine wpF_cut (fun f H => f 1 = I (b) ∧ f 9 = PT g1 0 ∧ f 12 = I (notI (nth l 0)) ∧ H47 = H) ?_ ?_
   ·refine wpF_region ?_
    refine lm (v := vl) rfl rfl y2 ?_
    refine lq rfl (q_indexRd (k := 0) rfl Try.underlying24 el_Int_3_MeanC1 rfl rfl (hS47.rdl 1 rfl) (by omega) (by omega)) ?_
    refine lq rfl (q_loadInt (k := 0) rfl rfl el_Int_3_MeanC1 (hS47.rdl 1 rfl) (by omega) (fun _ h => h)) ?_
    refine lq rfl (q_notI rfl rfl) ?_
    refine la (v := I (notI (nth l 0))) rfl rfl rfl ?_
    exact ⟨y1, y9, rfl, rfl⟩
   clear y1 y12 y2 y3 y54 y55 y9
   rintro f57 _ ⟨y1, y9, y12, rfl⟩
   exact ⟨y1, y9, (Eq.trans y12 (congrArg I (by rw [outW, hp56]; rfl))), hS47⟩
  refine fcr (fun f H => f 1 = I (b) ∧ f 2 = vl ∧ f 3 = I (n) ∧ f 9 = PT g1 0 ∧ f 12 = I (n) ∧ f 54 = I (op) ∧ f 61 = B (decide (op = 17)) ∧ H47 = H) ?_ ?_
  ·refine lq rfl (q_eql rfl y54 rfl) ?_
   refine la (v := B (decide (op = 17))) rfl rfl rfl ?_
   exact ⟨y1, y2, y3, y9, y12, y54, rfl, rfl⟩
  clear y1 y12 y2 y3 y54 y55 y9
  rintro f58 _ ⟨y1, y2, y3, y9, y12, y54, y61, rfl⟩
  refine wpF_condP y61 (fun hp59 => ?t95) (fun hp59 => ?e95)
  case t95 =>
   refine wpF_cut (fun f H => f 1 = I (b) ∧ f 9 = PT g1 0 ∧ f 12 = I (andI (nth l 0) (nth l 1)) ∧ H47 = H) ?_ ?_
   ·refine wpF_drawn [] [] (fun _ _ => False) (by kernel_rfl) (by kernel_rfl) ?_
    refine rq 0 (by kernel_rfl) rfl rfl (q_move (v := vl) rfl y2) ?_
    refine rq 1 (by kernel_rfl) rfl rfl (q_indexRd (k := 0) rfl Try.underlying24 el_Int_3_MeanC1 rfl rfl (hS47.rdl 1 rfl) (by omega) (by omega)) ?_
    refine rq 2 (by kernel_rfl) rfl rfl (q_loadInt (k := 0) rfl rfl el_Int_3_MeanC1 (hS47.rdl 1 rfl) (by omega) (labU_sub [] rfl (fe))) ?_
    refine rq 3 (by kernel_rfl) rfl rfl (q_move (v := vl) rfl y2) ?_
    refine rq 4 (by kernel_rfl) rfl rfl (q_indexRd (k := 1) rfl Try.underlying24 el_Int_3_MeanC1 rfl rfl (hS47.rdl 1 rfl) (by omega) (by omega)) ?_
    refine rq 5 (by kernel_rfl) rfl rfl (q_loadInt (k := 1) rfl rfl el_Int_3_MeanC1 (hS47.rdl 1 rfl) (by omega) (labU_sub [] rfl (fe))) ?_
    refine rq 6 (by kernel_rfl) rfl rfl (q_andI rfl rfl rfl) ?_
    refine rq 7 (by kernel_rfl) rfl rfl (q_assign (v := I (andI (nth l 0) (nth l 1))) rfl rfl) ?_
    refine wpR_end (by kernel_rfl) ?_
    exact ⟨y1, y9, rfl, rfl⟩
   clear y1 y12 y2 y3 y54 y61 y9
   rintro f61 _ ⟨y1, y9, y12, rfl⟩
   exact ⟨y1, y9, (Eq.trans y12 (congrArg I (by rw [outW, hp59]; rfl))), hS47⟩
  refine fcr (fun f H => f 1 = I (b) ∧ f 2 = vl ∧ f 3 = I (n) ∧ f 9 = PT g1 0 ∧ f 12 = I (n) ∧ f 54 = I (op) ∧ f 70 = B (decide (op = 18)) ∧ H47 = H) ?_ ?_
  ·refine lq rfl (q_eql rfl y54 rfl) ?_
   refine la (v := B (decide (op = 18))) rfl rfl rfl ?_
   exact ⟨y1, y2, y3, y9, y12, y54, rfl, rfl⟩
  clear y1 y12 y2 y3 y54 y61 y9
  rintro f62 _ ⟨y1, y2, y3, y9, y12, y54, y70, rfl⟩
  refine wpF_condP y70 (fun hp63 => ?t94) (fun hp63 => ?e94)
  case t94 =>
   refine wpF_cut (fun f H => f 1 = I (b) ∧ f 9 = PT g1 0 ∧ f 12 = I (orI (nth l 0) (nth l 1)) ∧ H47 = H) ?_ ?_
   ·refine wpF_drawn [] [] (fun _ _ => False) (by kernel_rfl) (by kernel_rfl) ?_
    refine rq 0 (by kernel_rfl) rfl rfl (q_move (v := vl) rfl y2) ?_
    refine rq 1 (by kernel_rfl) rfl rfl (q_indexRd (k := 0) rfl Try.underlying24 el_Int_3_MeanC1 rfl rfl (hS47.rdl 1 rfl) (by omega) (by omega)) ?_
    refine rq 2 (by kernel_rfl) rfl rfl (q_loadInt (k := 0) rfl rfl el_Int_3_MeanC1 (hS47.rdl 1 rfl) (by omega) (labU_sub [] rfl (fe))) ?_
    refine rq 3 (by kernel_rfl) rfl rfl (q_move (v := vl) rfl y2) ?_
    refine rq 4 (by kernel_rfl) rfl rfl (q_indexRd (k := 1) rfl Try.underlying24 el_Int_3_MeanC1 rfl rfl (hS47.rdl 1 rfl) (by omega) (by omega)) ?_
    refine rq 5 (by kernel_rfl) rfl rfl (q_loadInt (k := 1) rfl rfl el_Int_3_MeanC1 (hS47.rdl 1 rfl) (by omega) (labU_sub [] rfl (fe))) ?_
    refine rq 6 (by kernel_rfl) rfl rfl (q_orI rfl rfl rfl) ?_
    refine rq 7 (by kernel_rfl) rfl rfl (q_assign (v := I (orI (nth l 0) (nth l 1))) rfl rfl) ?_
    refine wpR_end (by kernel_rfl) ?_
    exact ⟨y1, y9, rfl, rfl⟩
   clear y1 y12 y2 y3 y54 y70 y9
   rintro f65 _ ⟨y1, y9, y12, rfl⟩
   exact ⟨y1, y9, (Eq.trans y12 (congrArg I (by rw [outW, hp63]; rfl))), hS47⟩
  refine fcr (fun f H => f 1 = I (b) ∧ f 2 = vl ∧ f 3 = I (n) ∧ f 9 = PT g1 0 ∧ f 12 = I (n) ∧ f 54 = I (op) ∧ f 79 = B (decide (op = 19)) ∧ H47 = H) ?_ ?_
  ·refine lq rfl (q_eql rfl y54 rfl) ?_
   refine la (v := B (decide (op = 19))) rfl rfl rfl ?_
   exact ⟨y1, y2, y3, y9, y12, y54, rfl, rfl⟩
  clear y1 y12 y2 y3 y54 y70 y9
  rintro f66 _ ⟨y1, y2, y3, y9, y12, y54, y79, rfl⟩
  refine wpF_condP y79 (fun hp67 => ?t93) (fun hp67 => ?e93)
  case t93 =>
   refine wpF_cut (fun f H => f 1 = I (b) ∧ f 9 = PT g1 0 ∧ f 12 = I (xorI (nth l 0) (nth l 1)) ∧ H47 = H) ?_ ?_
   ·refine wpF_drawn [] [] (fun _ _ => False) (by kernel_rfl) (by kernel_rfl) ?_
    refine rq 0 (by kernel_rfl) rfl rfl (q_move (v := vl) rfl y2) ?_
    refine rq 1 (by kernel_rfl) rfl rfl (q_indexRd (k := 0) rfl Try.underlying24 el_Int_3_MeanC1 rfl rfl (hS47.rdl 1 rfl) (by omega) (by omega)) ?_
    refine rq 2 (by kernel_rfl) rfl rfl (q_loadInt (k := 0) rfl rfl el_Int_3_MeanC1 (hS47.rdl 1 rfl) (by omega) (labU_sub [] rfl (fe))) ?_
    refine rq 3 (by kernel_rfl) rfl rfl (q_move (v := vl) rfl y2) ?_
    refine rq 4 (by kernel_rfl) rfl rfl (q_indexRd (k := 1) rfl Try.underlying24 el_Int_3_MeanC1 rfl rfl (hS47.rdl 1 rfl) (by omega) (by omega)) ?_
    refine rq 5 (by kernel_rfl) rfl rfl (q_loadInt (k := 1) rfl rfl el_Int_3_MeanC1 (hS47.rdl 1 rfl) (by omega) (labU_sub [] rfl (fe))) ?_
    refine rq 6 (by kernel_rfl) rfl rfl (q_xorI rfl rfl rfl) ?_
    refine rq 7 (by kernel_rfl) rfl rfl (q_assign (v := I (xorI (nth l 0) (nth l 1))) rfl rfl) ?_
    refine wpR_end (by kernel_rfl) ?_
    exact ⟨y1, y9, rfl, rfl⟩
   clear y1 y12 y2 y3 y54 y79 y9
   rintro f69 _ ⟨y1, y9, y12, rfl⟩
   exact ⟨y1, y9, (Eq.trans y12 (congrArg I (by rw [outW, hp67]; rfl))), hS47⟩
  refine fcr (fun f H => f 1 = I (b) ∧ f 2 = vl ∧ f 3 = I (n) ∧ f 9 = PT g1 0 ∧ f 12 = I (n) ∧ f 54 = I (op) ∧ f 88 = B (decide (op = 20)) ∧ H47 = H) ?_ ?_
  ·refine lq rfl (q_eql rfl y54 rfl) ?_
   refine la (v := B (decide (op = 20))) rfl rfl rfl ?_
   exact ⟨y1, y2, y3, y9, y12, y54, rfl, rfl⟩
  clear y1 y12 y2 y3 y54 y79 y9
  rintro f70 _ ⟨y1, y2, y3, y9, y12, y54, y88, rfl⟩
  refine wpF_condP y88 (fun hp71 => ?t92) (fun hp71 => ?e92)
  case t92 =>
   refine wpF_cut (fun f H => f 1 = I (b) ∧ f 9 = PT g1 0 ∧ f 12 = I ((nth l 0) + (nth l 1)) ∧ H47 = H) ?_ ?_
   ·refine wpF_drawn [] [] (fun _ _ => False) (by kernel_rfl) (by kernel_rfl) ?_
    refine rq 0 (by kernel_rfl) rfl rfl (q_move (v := vl) rfl y2) ?_
    refine rq 1 (by kernel_rfl) rfl rfl (q_indexRd (k := 0) rfl Try.underlying24 el_Int_3_MeanC1 rfl rfl (hS47.rdl 1 rfl) (by omega) (by omega)) ?_
    refine rq 2 (by kernel_rfl) rfl rfl (q_loadInt (k := 0) rfl rfl el_Int_3_MeanC1 (hS47.rdl 1 rfl) (by omega) (labU_sub [] rfl (fe))) ?_
    refine rq 3 (by kernel_rfl) rfl rfl (q_move (v := vl) rfl y2) ?_
    refine rq 4 (by kernel_rfl) rfl rfl (q_indexRd (k := 1) rfl Try.underlying24 el_Int_3_MeanC1 rfl rfl (hS47.rdl 1 rfl) (by omega) (by omega)) ?_
    refine rq 5 (by kernel_rfl) rfl rfl (q_loadInt (k := 1) rfl rfl el_Int_3_MeanC1 (hS47.rdl 1 rfl) (by omega) (labU_sub [] rfl (fe))) ?_
    refine rq 6 (by kernel_rfl) rfl rfl (q_add rfl rfl rfl (by constructor <;> omega)) ?_
    refine rq 7 (by kernel_rfl) rfl rfl (q_assign (v := I ((nth l 0) + (nth l 1))) rfl rfl) ?_
    refine wpR_end (by kernel_rfl) ?_
    exact ⟨y1, y9, rfl, rfl⟩
   clear y1 y12 y2 y3 y54 y88 y9
   rintro f73 _ ⟨y1, y9, y12, rfl⟩
   exact ⟨y1, y9, (Eq.trans y12 (congrArg I (by rw [outW, hp71]; rfl))), hS47⟩
  refine fcr (fun f H => f 1 = I (b) ∧ f 2 = vl ∧ f 3 = I (n) ∧ f 9 = PT g1 0 ∧ f 12 = I (n) ∧ f 54 = I (op) ∧ f 97 = B (decide (op = 21)) ∧ H47 = H) ?_ ?_
  ·refine lq rfl (q_eql rfl y54 rfl) ?_
   refine la (v := B (decide (op = 21))) rfl rfl rfl ?_
   exact ⟨y1, y2, y3, y9, y12, y54, rfl, rfl⟩
  clear y1 y12 y2 y3 y54 y88 y9
  rintro f74 _ ⟨y1, y2, y3, y9, y12, y54, y97, rfl⟩
  refine wpF_condP y97 (fun hp75 => ?t91) (fun hp75 => ?e91)
  case t91 =>
   refine wpF_cut (fun f H => f 1 = I (b) ∧ f 9 = PT g1 0 ∧ f 12 = I ((nth l 0) * (nth l 1)) ∧ H47 = H) ?_ ?_
   ·refine wpF_drawn [] [] (fun _ _ => False) (by kernel_rfl) (by kernel_rfl) ?_
    refine rq 0 (by kernel_rfl) rfl rfl (q_move (v := vl) rfl y2) ?_
    refine rq 1 (by kernel_rfl) rfl rfl (q_indexRd (k := 0) rfl Try.underlying24 el_Int_3_MeanC1 rfl rfl (hS47.rdl 1 rfl) (by omega) (by omega)) ?_
    refine rq 2 (by kernel_rfl) rfl rfl (q_loadInt (k := 0) rfl rfl el_Int_3_MeanC1 (hS47.rdl 1 rfl) (by omega) (labU_sub [] rfl (fe))) ?_
    refine rq 3 (by kernel_rfl) rfl rfl (q_move (v := vl) rfl y2) ?_
    refine rq 4 (by kernel_rfl) rfl rfl (q_indexRd (k := 1) rfl Try.underlying24 el_Int_3_MeanC1 rfl rfl (hS47.rdl 1 rfl) (by omega) (by omega)) ?_
    refine rq 5 (by kernel_rfl) rfl rfl (q_loadInt (k := 1) rfl rfl el_Int_3_MeanC1 (hS47.rdl 1 rfl) (by omega) (labU_sub [] rfl (fe))) ?_
    refine rq 6 (by kernel_rfl) rfl rfl (q_mul rfl rfl rfl (by constructor <;> omega)) ?_
    refine rq 7 (by kernel_rfl) rfl rfl (q_assign (v := I ((nth l 0) * (nth l 1))) rfl rfl) ?_
    refine wpR_end (by kernel_rfl) ?_
    exact ⟨y1, y9, rfl, rfl⟩
   clear y1 y12 y2 y3 y54 y9 y97
   rintro f77 _ ⟨y1, y9, y12, rfl⟩
   exact ⟨y1, y9, (Eq.trans y12 (congrArg I (by rw [outW, hp75]; rfl))), hS47⟩
  refine fcr (fun f H => f 1 = I (b) ∧ f 2 = vl ∧ f 3 = I (n) ∧ f 9 = PT g1 0 ∧ f 12 = I (n) ∧ f 54 = I (op) ∧ f 106 = B (decide (op = 23)) ∧ H47 = H) ?_ ?_
  ·refine lq rfl (q_eql rfl y54 rfl) ?_
   refine la (v := B (decide (op = 23))) rfl rfl rfl ?_
   exact ⟨y1, y2, y3, y9, y12, y54, rfl, rfl⟩
  clear y1 y12 y2 y3 y54 y9 y97
  rintro f78 _ ⟨y1, y2, y3, y9, y12, y54, y106, rfl⟩
  refine wpF_condP y106 (fun hp79 => ?t90) (fun hp79 => ?e90)
  case t90 =>
   refine wpF_cut (fun f H => f 1 = I (b) ∧ f 9 = PT g1 0 ∧ f 12 = I (shlI (nth l 0) n) ∧ H47 = H) ?_ ?_
   ·refine wpF_region ?_
    refine lm (v := vl) rfl rfl y2 ?_
    refine lq rfl (q_indexRd (k := 0) rfl Try.underlying24 el_Int_3_MeanC1 rfl rfl (hS47.rdl 1 rfl) (by omega) (by omega)) ?_
    refine lq rfl (q_loadInt (k := 0) rfl rfl el_Int_3_MeanC1 (hS47.rdl 1 rfl) (by omega) (fun _ h => h)) ?_
    refine lm (v := I (n)) rfl rfl y3 ?_
    refine lq rfl (q_shlI rfl rfl rfl (by omega)) ?_
    refine la (v := I (shlI (nth l 0) n)) rfl rfl rfl ?_
    exact ⟨y1, y9, rfl, rfl⟩
   clear y1 y106 y12 y2 y3 y54 y9
   rintro f80 _ ⟨y1, y9, y12, rfl⟩
   exact ⟨y1, y9, (Eq.trans y12 (congrArg I (by rw [outW, hp79]; rfl))), hS47⟩
  refine fcr (fun f H => f 1 = I (b) ∧ f 2 = vl ∧ f 9 = PT g1 0 ∧ f 12 = I (n) ∧ f 113 = B (decide (op = 22)) ∧ H47 = H) ?_ ?_
  ·refine lq rfl (q_eql rfl y54 rfl) ?_
   refine la (v := B (decide (op = 22))) rfl rfl rfl ?_
   exact ⟨y1, y2, y9, y12, rfl, rfl⟩
  clear y1 y106 y12 y2 y3 y54 y9
  rintro f81 _ ⟨y1, y2, y9, y12, y113, rfl⟩
  refine wpF_condP y113 (fun hp82 => ?t89) (fun hp82 => ?e89)
  case e89 =>
   refine wpF_skip ?_
   exact ⟨y1, y9, (Eq.trans y12 (congrArg I (by rw [outW, if_neg hp56, if_neg hp59, if_neg hp63, if_neg hp67, if_neg hp71, if_neg hp75, if_neg hp79, if_neg hp82]))), hS47⟩
  refine fcr (fun f H => f 1 = I (b) ∧ f 2 = vl ∧ f 9 = PT g1 0 ∧ f 12 = I (0) ∧ H47 = H) ?_ ?_
  ·refine la (v := I (0)) rfl rfl rfl ?_
   exact ⟨y1, y2, y9, rfl, rfl⟩
  clear y1 y113 y12 y2 y9
  rintro f83 _ ⟨y1, y2, y9, y12, rfl⟩
  refine sc (fun f H => f 1 = I (b) ∧ f 9 = PT g1 0 ∧ f 12 = I (0) ∧ f 121 = B (decide ((nth l 0) < (nth l 1))) ∧ H47 = H) ?_ ?_
  ·refine wpF_drawn [] [] (fun _ _ => False) (by kernel_rfl) (by kernel_rfl) ?_
   refine rq 0 (by kernel_rfl) rfl rfl (q_move (v := vl) rfl y2) ?_
   refine rq 1 (by kernel_rfl) rfl rfl (q_indexRd (k := 0) rfl Try.underlying24 el_Int_3_MeanC1 rfl rfl (hS47.rdl 1 rfl) (by omega) (by omega)) ?_
   refine rq 2 (by kernel_rfl) rfl rfl (q_loadInt (k := 0) rfl rfl el_Int_3_MeanC1 (hS47.rdl 1 rfl) (by omega) (labU_sub [] rfl (fe))) ?_
   refine rq 3 (by kernel_rfl) rfl rfl (q_move (v := vl) rfl y2) ?_
   refine rq 4 (by kernel_rfl) rfl rfl (q_indexRd (k := 1) rfl Try.underlying24 el_Int_3_MeanC1 rfl rfl (hS47.rdl 1 rfl) (by omega) (by omega)) ?_
   refine rq 5 (by kernel_rfl) rfl rfl (q_loadInt (k := 1) rfl rfl el_Int_3_MeanC1 (hS47.rdl 1 rfl) (by omega) (labU_sub [] rfl (fe))) ?_
   refine rq 6 (by kernel_rfl) rfl rfl (q_lss rfl rfl rfl) ?_
   refine wpR_end (by kernel_rfl) ?_
   exact ⟨y1, y9, y12, rfl, rfl⟩
  clear y1 y12 y2 y9
  rintro f85 _ ⟨y1, y9, y12, y121, rfl⟩
  refine wpF_condP y121 (fun h121 => ?t88) (fun h121 => ?e88)
  case e88 =>
   refine wpF_skip ?_
   exact ⟨y1, y9, (Eq.trans y12 (congrArg I (by rw [outW, hp82]; exact (if_neg h121).symm))), hS47⟩
  refine wpF_cut (fun f H => f 1 = I (b) ∧ f 9 = PT g1 0 ∧ f 12 = I (1) ∧ H47 = H) ?_ ?_
  ·refine wpF_region ?_
   refine la (v := I (1)) rfl rfl rfl ?_
   exact ⟨y1, y9, rfl, rfl⟩
  clear y1 y12 y121 y9
  rintro f87 _ ⟨y1, y9, y12, rfl⟩
  exact ⟨y1, y9, (Eq.trans y12 (congrArg I (by rw [outW, hp82]; exact (if_pos h121).symm))), hS47⟩
 clear y1 y12 y2 y3 y54 y9
 rintro f54 H54 ⟨y1, y9, y12, hS54⟩
 refine fcr (fun f H => f 8 = I (andI (outW op l n) (((2 ^ ((b).toNat) : Nat) : Int) - 1)) ∧ f 9 = PT g1 0 ∧ St H0 NoB NoB [bE g1 #[I (0), I (0)] 28, rdE vl l] H) ?_ ?_
 ·refine lm (v := I (outW op l n)) rfl rfl y12 ?_
  refine lm (v := I (b)) rfl rfl y1 ?_
  refine lq rfl (q_shl1 rfl rfl rfl (by omega) (by omega)) ?_
  refine lq rfl (q_sub rfl rfl rfl (by constructor <;> omega)) ?_
  refine lq rfl (q_andI rfl rfl rfl) ?_
  refine lq rfl (q_build (v := Vg #[I (0), I (0)]) rfl par0 (fun w__ => by kernel_rfl)) ?_
  refine la (v := I (andI (outW op l n) (((2 ^ ((b).toNat) : Nat) : Int) - 1))) rfl rfl rfl ?_
  refine lo rfl ?_
  refine e_storeBlkA (cs' := #[I (0), I (0)]) rfl y9 rfl Try.sizeOf28 rfl rfl (fa rfl (fa rfl fe)) hS54 (fun H97 hS98 hxx => ?_)
  exact ⟨rfl, y9, hS98⟩
 clear y1 y12 y9
 rintro f99 H99 ⟨y8, y9, hS99⟩
 refine wpF_ret ?_
 refine ⟨_, resT y8 (resC y9 (loadV_blkA Try.isAgg28 Try.sizeOf28 rfl (hS99.blk 0 rfl)) (resN)), hS99.frame, ?_⟩
 show ∃ c_ d_, (Value.tuple #[I (andI (outW op l n) (((2 ^ ((b).toNat) : Nat) : Int) - 1)), Vg #[I (0), I (0)]]) = Value.tuple #[I (wordV op b l n), Vg #[I c_, I d_]] ∧ In64 (wordV op b l n)
 have hq_ : wordV op b l n = _ := wordV_ok h13 h2 h26 hall (by simpa using h51)
 exact ⟨_, _, by rw [hq_], by rw [hq_]; exact wrap_in64⟩
end Go.Um
