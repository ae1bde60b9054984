import Derived.Test.YtbfgipgojdinoaaProg
import Derived.Test.YtbfgipgojdinoaaCardC1
import Derived.Test.YtbfgipgojdinoaaUmTopCountsC
namespace Go.Um
open Go.Proofs
open GoT (sz ag rdc)
open KeyT (kv)
theorem el_Int_3_CardC3 : ElT Try.prog Int 3 := ⟨Try.isAgg3, Try.sizeOf3⟩
theorem em_Int_3_CardC3 : ElemOk Try.prog Int 3 := ⟨Try.t3, (.int .i64 0), by kernel_rfl, by kernel_rfl, by kernel_rfl, by kernel_rfl, by kernel_rfl⟩
set_option maxRecDepth 100000 in
theorem New_T {H0 : Heap} {S : Nat → Prop} (vC : Value) (C : List (List Int)) (rC : Rd S H0 vC C) : CallsH Try.prog 24 #[vC] H0 (fun rv_ H' => Ext NoB H0 H' ∧ ∃ g_ r_, rv_ = PT g_ 0 ∧ Fresh S [bE g_ #[vC, nS, nS, (Value.map (some r_))] 80, mapE r_ ([] : List (Int × Bool))] H0 H' ∧ [bE g_ #[vC, nS, nS, (Value.map (some r_))] 80, mapE r_ ([] : List (Int × Bool))].Pairwise fun e e' => ∀ b, e.blocks b → ¬ e'.blocks b) := by
 have hS0 : St H0 NoB (SZ S H0) [rdE vC C] H0 := St.arg (St.start (fun _ h => h.2)) (Bl0.nil) rC (fun _ h => h.1)
 refine callsH_of_wpF (args := [vC]) (rs := [.tmp 2]) Try.func24 rfl Try.ntmps24 Try.results24 (by kernel_rfl) (Nat.le_of_ble_eq_true rfl) ?_
 have y0 : argF [vC] 0 = vC := rfl
 generalize argF [vC] = f0 at *
 refine wpF_seq ?_
 refine wpF_region ?_
 refine la (v := (Value.pointer none)) rfl rfl rfl ?_
 refine wpL_nil ?_
 refine wpF_seq ?_
 refine wpF_region ?_
 refine lm (v := vC) rfl rfl y0 ?_
 refine lo rfl ?_
 refine e_makeMap (κ := Int) (β := Bool) rfl hS0 (fun r1 H2 hS3 hxx => ?_)
 refine lq rfl (q_build (v := Vg #[vC, nS, nS, (Value.map (some r1))]) rfl (par2 (v0 := vC) (v1 := (Value.map (some r1))) rfl rfl) ((hS3.rdl 1 rfl).slc (fun zz0 => ∀ w__, (Instr.build 80 #[(0, zz0), (3, (Value.map (some r1)))]).run Try.prog w__ = .ok (Vg #[zz0, nS, nS, (Value.map (some r1))]) w__) (fun a0 n0 c0 => (fun w__ => by kernel_rfl)))) ?_
 refine lo rfl ?_
 refine e_box (v := Vg #[vC, nS, nS, (Value.map (some r1))]) rfl rfl hS3 (fun g4 H5 hS6 hxx => ?_)
 refine la (v := PT g4 0) rfl rfl rfl ?_
 refine wpL_nil ?_
 refine wpF_ret ?_
 refine ⟨_, resT rfl resN, hS6.frame, ?_⟩
 show ∃ g_ r_, (PT g4 0) = PT g_ 0 ∧ Fresh S [bE g_ #[vC, nS, nS, (Value.map (some r_))] 80, mapE r_ ([] : List (Int × Bool))] H0 H5 ∧ [bE g_ #[vC, nS, nS, (Value.map (some r_))] 80, mapE r_ ([] : List (Int × Bool))].Pairwise fun e e' => ∀ b, e.blocks b → ¬ e'.blocks b
 have hL : St H0 NoB (SZ S H0) [bE g4 #[vC, nS, nS, (Value.map (some r1))] 80, mapE r1 ([] : List (Int × Bool))] H5 := (hS6.drop (sk (sk (sn (List.Sublist.slnil)))))
 exact ⟨_, _, rfl, St.freshN hL⟩
set_option maxRecDepth 100000 in
theorem Has_T {H0 : Heap} (gt mr : Nat) (vC vl vw : Value) (T : List Int) (l : Int) (hb : H0[gt]? = some (.cells #[vC, vl, vw, (Value.map (some mr))] 80)) (hm : (mapE mr (marks T)).ok NoB H0) : CallsH Try.prog 59 #[PT gt 0, I (l)] H0 (fun rv_ H' => Ext NoB H0 H' ∧ rv_ = B (decide (l ∈ T))) := by
 have hS0 : St H0 NoB NoB [fixE gt (.cells #[vC, vl, vw, (Value.map (some mr))] 80), fixM mr (marks T : List (Int × Bool))] H0 := St.argFix (St.argMap (St.start (fun _ h => h.elim)) (Bl0.nil) hm (fun h => h) (fun _ h => h)) (Bl0.consM (Bl0.nil)) hb (fun h => h)
 refine callsH_of_wpF (args := [PT gt 0, I (l)]) (rs := [.tmp 4]) Try.func59 rfl Try.ntmps59 Try.results59 (by kernel_rfl) (Nat.le_of_ble_eq_true rfl) ?_
 have y0 : argF [PT gt 0, I (l)] 0 = PT gt 0 := rfl
 have y1 : argF [PT gt 0, I (l)] 1 = I (l) := rfl
 generalize argF [PT gt 0, I (l)] = f0 at *
 refine wpF_seq ?_
 refine wpF_region ?_
 refine la (v := B (false)) rfl rfl rfl ?_
 refine wpL_nil ?_
 refine wpF_seq ?_
 refine wpF_region ?_
 refine lm (v := PT gt 0) rfl rfl y0 ?_
 refine lq rfl (q_nilCheck rfl rfl) ?_
 refine lq rfl (q_fieldAddr rfl Try.underlying80 rfl Try.sizeOf78 rfl) ?_
 refine lq rfl (q_loadBlk rfl rfl Try.isAgg78 (hS0.fixd 0 rfl) rfl (fun h => h)) ?_
 refine lm (v := I (l)) rfl rfl y1 ?_
 obtain ⟨u1, hlu1, hru1⟩ := lookD (t := 78) (d := (false : Bool)) Try.underlying78 (keyLaw_int Try.underlying3) Try.zeroValue4 (fun _ _ => Rd.bool.2 rfl) l (hS0.get 1 rfl).2
 obtain rfl := Rd.bool.1 hru1
 refine lq rfl (q_lookup0 rfl rfl rfl (hlu1 _ (fun h => h))) ?_
 refine la (v := B ((mget (marks T) l).getD false)) rfl rfl rfl ?_
 refine wpL_nil ?_
 refine wpF_ret ?_
 refine ⟨_, resT rfl resN, hS0.frame, ?_⟩
 show (B ((mget (marks T) l).getD false)) = B (decide (l ∈ T))
 exact congrArg B marks_get
set_option maxRecDepth 100000 in
theorem state_T {H0 : Heap} (gt mr : Nat) (vC vl vw : Value) (vc : Value) (T c : List Int) (hb : H0[gt]? = some (.cells #[vC, vl, vw, (Value.map (some mr))] 80)) (hm : (mapE mr (marks T)).ok NoB H0) (rc : Rd NoB H0 vc c) (hc : litsIn c) : CallsH Try.prog 74 #[PT gt 0, vc] H0 (fun rv_ H' => Ext NoB H0 H' ∧ rv_ = Value.tuple #[B (stateL T c).1, I (stateL T c).2]) := by
 have hsm := (Rd.list.1 rc).small
 have hS0 : St H0 NoB NoB [fixE gt (.cells #[vC, vl, vw, (Value.map (some mr))] 80), fixM mr (marks T : List (Int × Bool)), rdE vc c] H0 := St.argFix (St.argMap (St.arg (St.start (fun _ h => h.elim)) (Bl0.nil) rc (fun _ h => h)) (Bl0.cons (Bl0.nil)) hm (fun h => h) (fun _ h => h)) (Bl0.consM (Bl0.cons (Bl0.nil))) hb (fun h => h)
 refine callsH_of_wpF (args := [PT gt 0, vc]) (rs := [.tmp 4, .tmp 5]) Try.func74 rfl Try.ntmps74 Try.results74 (by kernel_rfl) (Nat.le_of_ble_eq_true rfl) ?_
 have y0 : argF [PT gt 0, vc] 0 = PT gt 0 := rfl
 have y1 : argF [PT gt 0, vc] 1 = vc := rfl
 generalize argF [PT gt 0, vc] = f0 at *
 refine wpF_seq ?_
 refine wpF_region ?_
 refine la (v := B (false)) rfl rfl rfl ?_
 refine la (v := I (0)) rfl rfl rfl ?_
 refine wpL_nil ?_
 refine wpF_seq ?_
 refine wpF_region ?_
 refine la (v := I (0)) rfl rfl rfl ?_
 refine wpL_nil ?_
 refine wpF_seq ?_
 refine wpF_seq ?_
 refine wpF_region ?_
 refine lm (v := vc) rfl rfl y1 ?_
 refine lq rfl (q_lenRd rfl Try.underlying22 rfl (hS0.rdl 2 rfl)) ?_
 refine lm (v := I (0)) rfl rfl rfl ?_
 refine wpL_nil ?_
 refine wpF_block ?_
 refine wpF_loop (fun mz f H => ∃ (k : Nat), ∃ (o : Int), mz = c.length - k ∧ (k ≤ c.length) ∧ (stateF T (c.drop k) o = stateL T c) ∧ f 0 = PT gt 0 ∧ f 6 = I (o) ∧ f 9 = vc ∧ f 10 = I ((c.length : Int)) ∧ f 11 = I ((k : Int)) ∧ St H0 NoB NoB [fixE gt (.cells #[vC, vl, vw, (Value.map (some mr))] 80), fixM mr (marks T : List (Int × Bool)), rdE vc c] H) (c.length - 0) ?_ ?_
 ·exact ⟨0, 0, rfl, Nat.zero_le _, rfl, y0, rfl, rfl, rfl, (Eq.trans rfl (congrArg I (by omega))), hS0⟩
 intro m1 f1 H1 hI1
 clear y0
 obtain ⟨k, o, hm1, hk, hq, y0, y6, y9, y10, y11, hS1⟩ := hI1
 refine wpF_seq ?_
 refine wpF_region ?_
 refine lq rfl (q_lss rfl y11 y10) ?_
 refine wpL_nil ?_
 refine wpF_seq ?_
 refine wpF_condP rfl (fun hlt => ?t13) (fun hlt => ?e13)
 case e13 =>
  rw [stF_end (by omega)] at hq
  refine wpF_exit ?_
  refine atX_here ?_
  refine wpF_seq ?_
  refine wpF_region ?_
  refine lm (v := I (o)) rfl rfl y6 ?_
  refine lq rfl (q_eql rfl rfl rfl) ?_
  refine lm (v := I (o)) rfl rfl y6 ?_
  refine la (v := B (decide (o = 0))) rfl rfl rfl ?_
  refine la (v := I (o)) rfl rfl rfl ?_
  refine wpL_nil ?_
  refine wpF_ret ?_
  refine ⟨_, resT rfl (resT rfl resN), hS1.frame, ?_⟩
  show (Value.tuple #[B (decide (o = 0)), I (o)]) = Value.tuple #[B (stateL T c).1, I (stateL T c).2]
  rw [← hq]
 obtain ⟨hc1, hc2⟩ := hc k (by omega)
 refine wpF_skip ?_
 refine wpF_seq ?_
 refine wpF_block ?_
 refine wpF_seq ?_
 refine wpF_region ?_
 refine lq rfl (q_indexRd (k := k) rfl Try.underlying22 el_Int_3_CardC3 y9 y11 (hS1.rdl 2 rfl) (by omega) (by omega)) ?_
 refine lq rfl (q_loadInt (k := k) rfl rfl el_Int_3_CardC3 (hS1.rdl 2 rfl) (by omega) (fun _ h => h)) ?_
 refine la (v := I (nth c k)) rfl rfl rfl ?_
 refine wpL_nil ?_
 refine wpF_block ?_
 refine wpF_seq ?_
 refine wpF_region ?_
 refine lm (v := PT gt 0) rfl rfl y0 ?_
 refine lq rfl (q_nilCheck rfl rfl) ?_
 refine lq rfl (q_fieldAddr rfl Try.underlying80 rfl Try.sizeOf78 rfl) ?_
 refine lq rfl (q_loadBlk rfl rfl Try.isAgg78 (hS1.fixd 0 rfl) rfl (fun h => h)) ?_
 refine lm (v := I (nth c k)) rfl rfl rfl ?_
 refine lq rfl (q_neg rfl rfl (by constructor <;> omega)) ?_
 obtain ⟨u3, hlu3, hru3⟩ := lookD (t := 78) (d := (false : Bool)) Try.underlying78 (keyLaw_int Try.underlying3) Try.zeroValue4 (fun _ _ => Rd.bool.2 rfl) (-(nth c k)) (hS1.get 1 rfl).2
 obtain rfl := Rd.bool.1 hru3
 refine lq rfl (q_lookup0 rfl rfl rfl (hlu3 _ (fun h => h))) ?_
 refine la (v := B ((mget (marks T) (-(nth c k))).getD false)) rfl rfl rfl ?_
 refine wpL_nil ?_
 refine wpF_cond rfl (fun h16 => ?t12) (fun h16 => ?e12)
 case t12 =>
  have hq2 := (stF_skip (o := o) (show k < c.length by omega) (marks_yes h16)).symm.trans hq
  refine wpF_skip ?_
  refine wpF_region ?_
  refine lq rfl (q_add rfl y11 rfl (by constructor <;> omega)) ?_
  refine lm (v := I ((k : Int) + 1)) rfl rfl rfl ?_
  refine wpL_nil ?_
  refine ⟨_, ?_, k + 1, o, rfl, (by omega), hq2, y0, y6, y9, y10, (Eq.trans rfl (congrArg I (by omega))), hS1⟩
  omega
 refine fcr (fun f H => f 0 = PT gt 0 ∧ f 8 = I (nth c k) ∧ f 9 = vc ∧ f 10 = I ((c.length : Int)) ∧ f 11 = I ((k : Int)) ∧ f 24 = B (decide ((((mget (marks T) (nth c k)).getD false) = true) ∨ (o ≠ 0))) ∧ H1 = H) ?_ ?_
 ·refine lm (v := PT gt 0) rfl rfl y0 ?_
  refine lq rfl (q_nilCheck rfl rfl) ?_
  refine lq rfl (q_fieldAddr rfl Try.underlying80 rfl Try.sizeOf78 rfl) ?_
  refine lq rfl (q_loadBlk rfl rfl Try.isAgg78 (hS1.fixd 0 rfl) rfl (fun h => h)) ?_
  refine lm (v := I (nth c k)) rfl rfl rfl ?_
  obtain ⟨u5, hlu5, hru5⟩ := lookD (t := 78) (d := (false : Bool)) Try.underlying78 (keyLaw_int Try.underlying3) Try.zeroValue4 (fun _ _ => Rd.bool.2 rfl) (nth c k) (hS1.get 1 rfl).2
  obtain rfl := Rd.bool.1 hru5
  refine lq rfl (q_lookup0 rfl rfl rfl (hlu5 _ (fun h => h))) ?_
  refine lm (v := B ((mget (marks T) (nth c k)).getD false)) rfl rfl rfl ?_
  by_cases hg6 : ((mget (marks T) (nth c k)).getD false) = true
  ·have hb7 := Eq.trans rfl (congrArg B hg6)
   refine wpL_gs rfl rfl rfl hb7 rfl ?_
   refine wpL_gs rfl rfl rfl hb7 rfl ?_
   refine lq rfl (q_pickT (v := B (true)) rfl hb7 rfl) ?_
   refine la (v := B (true)) rfl rfl rfl ?_
   exact ⟨y0, rfl, y9, y10, y11, (Eq.trans rfl (congrArg B ((decide_eq_true (Or.inl hg6)).symm))), rfl⟩
  ·have hb8 := Eq.trans rfl (congrArg B (Bool.eq_false_iff.2 hg6))
   refine gq rfl rfl rfl hb8 (q_move (v := I (o)) rfl y6) ?_
   refine gq rfl rfl rfl hb8 (q_neq rfl rfl rfl) ?_
   refine lq rfl (q_pickF (v := B (decide (o ≠ 0))) rfl hb8 rfl) ?_
   refine la (v := B (decide (o ≠ 0))) rfl rfl rfl ?_
   exact ⟨y0, rfl, y9, y10, y11, (Eq.trans rfl (congrArg B (decide_congr_of ((Iff.rfl).trans (((or_iff_right hg6).trans Iff.rfl)).symm)))), rfl⟩
 clear y0 y10 y11 y6 y9
 rintro f9 _ ⟨y0, y8, y9, y10, y11, y24, rfl⟩
 refine wpF_condP y24 (fun h24 => ?t11) (fun h24 => ?e11)
 case t11 =>
  have hq2 := (stF_early (show k < c.length by omega) (marks_nf h16) (by simpa only [marks_get, decide_eq_true_eq] using h24)).symm.trans hq
  refine wpF_seq ?_
  refine wpF_region ?_
  refine la (v := B (false)) rfl rfl rfl ?_
  refine la (v := I (0)) rfl rfl rfl ?_
  refine wpL_nil ?_
  refine wpF_ret ?_
  refine ⟨_, resT rfl (resT rfl resN), hS1.frame, ?_⟩
  show (Value.tuple #[B (false), I (0)]) = Value.tuple #[B (stateL T c).1, I (stateL T c).2]
  rw [← hq2]
 have hq2 := (stF_open (show k < c.length by omega) (marks_nf h16) (by simpa only [marks_get, decide_eq_true_eq] using h24)).symm.trans hq
 refine wpF_region ?_
 refine lm (v := I (nth c k)) rfl rfl y8 ?_
 refine la (v := I (nth c k)) rfl rfl rfl ?_
 refine wpL_nil ?_
 refine wpF_region ?_
 refine lq rfl (q_add rfl y11 rfl (by constructor <;> omega)) ?_
 refine lm (v := I ((k : Int) + 1)) rfl rfl rfl ?_
 refine wpL_nil ?_
 refine ⟨_, ?_, k + 1, nth c k, rfl, (by omega), hq2, y0, (Eq.trans rfl (congrArg I (by omega))), y9, y10, (Eq.trans rfl (congrArg I (by omega))), hS1⟩
 omega
set_option maxHeartbeats 1000000 in
set_option maxRecDepth 100000 in
theorem Add_T {H0 : Heap} (S : Nat → Prop) (gt mr : Nat) (vC vl vw : Value) (T W : List Int) (l w : Int) (hg : Given S [rowE 3 vl (T : List Int), rowE 3 vw (W : List Int), bE gt #[vC, vl, vw, (Value.map (some mr))] 80, mapE mr (marks T : List (Int × Bool))] H0) (hT : T.length ≤ 1000) (hW : W.length ≤ 1000) (hl : In64 l) (hw : In64 w) : CallsH Try.prog 58 #[PT gt 0, I (l), I (w)] H0 (fun rv_ H' => Ext (own [rowE 3 vl (T : List Int), rowE 3 vw (W : List Int), bE gt #[vC, vl, vw, (Value.map (some mr))] 80, mapE mr (marks T : List (Int × Bool))]) H0 H' ∧ ∃ vl_ vw_, rv_ = Value.tuple #[] ∧ Gone S [rowE 3 vl (T : List Int), rowE 3 vw (W : List Int), bE gt #[vC, vl, vw, (Value.map (some mr))] 80, mapE mr (marks T : List (Int × Bool))] [rowE 3 vl_ (T ++ [l] : List Int), rowE 3 vw_ (W ++ [w] : List Int), bE gt #[vC, vl_, vw_, (Value.map (some mr))] 80, mapE mr (marks (T ++ [l]) : List (Int × Bool))] H0 H') := by
 have hS0 : St H0 (own [rowE 3 vl (T : List Int), rowE 3 vw (W : List Int), bE gt #[vC, vl, vw, (Value.map (some mr))] 80, mapE mr (marks T : List (Int × Bool))]) (fun b => S b ∧ ¬ own [rowE 3 vl (T : List Int), rowE 3 vw (W : List Int), bE gt #[vC, vl, vw, (Value.map (some mr))] 80, mapE mr (marks T : List (Int × Bool))] b) [rowE 3 vl (T : List Int), rowE 3 vw (W : List Int), bE gt #[vC, vl, vw, (Value.map (some mr))] 80, mapE mr (marks T : List (Int × Bool))] H0 := hg.st
 refine callsH_of_wpF (args := [PT gt 0, I (l), I (w)]) (rs := []) Try.func58 rfl Try.ntmps58 Try.results58 (by kernel_rfl) (Nat.le_of_ble_eq_true rfl) ?_
 have y0 : argF [PT gt 0, I (l), I (w)] 0 = PT gt 0 := rfl
 have y1 : argF [PT gt 0, I (l), I (w)] 1 = I (l) := rfl
 have y2 : argF [PT gt 0, I (l), I (w)] 2 = I (w) := rfl
 generalize argF [PT gt 0, I (l), I (w)] = f0 at *
 refine sc (fun f H => ∃ (v1o8 : Value), ∃ (v1o15 : Value), f 0 = PT gt 0 ∧ f 1 = I (l) ∧ St H0 (own [rowE 3 vl (T : List Int), rowE 3 vw (W : List Int), bE gt #[vC, vl, vw, (Value.map (some mr))] 80, mapE mr (marks T : List (Int × Bool))]) (fun b => S b ∧ ¬ own [rowE 3 vl (T : List Int), rowE 3 vw (W : List Int), bE gt #[vC, vl, vw, (Value.map (some mr))] 80, mapE mr (marks T : List (Int × Bool))] b) [bE gt #[vC, v1o8, v1o15, (Value.map (some mr))] 80, rowE 3 v1o15 (W ++ ([w]) : List Int), rowE 3 v1o8 (T ++ ([l]) : List Int), mapE mr (marks T : List (Int × Bool))] H) ?_ ?_
 ·refine wpF_drawn [none, none, none, none, none, none, none, none, some 0, none, none, none, none, none, none, some 1, none, none, some 2, none, none, some 3] [[0, 1], [0, 1, 2], [], [], [], [], [], [], [], [0], [0], [0], [0], [0], [0], [], [], [], [], [], [], []] (fun l b => match l with | 0 => rowB vl b | 1 => rowB vw b | 2 => b = gt | 3 => True | _ => False) (by kernel_rfl) (by kernel_rfl) ?_
  refine rq 0 (by kernel_rfl) rfl rfl (q_move (v := PT gt 0) rfl y0) ?_
  refine rq 1 (by kernel_rfl) rfl rfl (q_move (v := PT gt 0) rfl y0) ?_
  refine rq 2 (by kernel_rfl) rfl rfl (q_move (v := PT gt 0) rfl y0) ?_
  refine rq 3 (by kernel_rfl) rfl rfl (q_nilCheck rfl rfl) ?_
  refine rq 4 (by kernel_rfl) rfl rfl (q_fieldAddr rfl Try.underlying80 rfl Try.sizeOf22 rfl) ?_
  refine rq 5 (by kernel_rfl) rfl rfl (q_loadBlk rfl rfl Try.isAgg22 (hS0.blk 2 rfl) rfl (labU_not [] rfl (fe))) ?_
  refine rq 6 (by kernel_rfl) rfl rfl (q_move (v := I (l)) rfl y1) ?_
  refine rq 9 (by kernel_rfl) rfl rfl (q_move (v := PT gt 0) rfl y0) ?_
  refine rq 10 (by kernel_rfl) rfl rfl (q_nilCheck rfl rfl) ?_
  refine rq 11 (by kernel_rfl) rfl rfl (q_fieldAddr rfl Try.underlying80 rfl Try.sizeOf22 rfl) ?_
  refine rq 12 (by kernel_rfl) rfl rfl (q_loadBlk rfl rfl Try.isAgg22 (hS0.blk 2 rfl) rfl (labU_not [0] rfl (fa (fun hb => hS0.dis 0 2 (by decide) rfl rfl _ hb rfl) fe))) ?_
  refine rq 13 (by kernel_rfl) rfl rfl (q_move (v := I (w)) rfl y2) ?_
  refine wpR_n [7, 14] (by kernel_rfl) ?_
  refine fa ?_ (fa ?_ fe)
  ·refine exE rfl rfl ?_
   refine e_buildSlice (vs := [I (l)]) (xs := ([l] : List Int)) rfl Try.underlying22 Try.zeroValue3 rfl Try.sizeOf3 (par1 (v0 := I (l)) rfl) rfl hS0 (RdVs.cons (Rd.int.2 ⟨rfl, by constructor <;> omega⟩) (RdVs.nil)) (by decide) (by decide) (fun v1o7 H1o7 hS1o7 hxx hvv1o7 => ?_)
   refine ⟨Ext.mono hxx (fun _ h => h.elim), ?_⟩
   refine wpR_n [8, 14] (by kernel_rfl) ?_
   refine fa ?_ (fa ?_ fe)
   ·have hS1o8 : St H0 (own [rowE 3 vl (T : List Int), rowE 3 vw (W : List Int), bE gt #[vC, vl, vw, (Value.map (some mr))] 80, mapE mr (marks T : List (Int × Bool))]) (fun b => S b ∧ ¬ own [rowE 3 vl (T : List Int), rowE 3 vw (W : List Int), bE gt #[vC, vl, vw, (Value.map (some mr))] 80, mapE mr (marks T : List (Int × Bool))] b) [rdE v1o7 ([l] : List Int), rowE 3 vl (T : List Int), rowE 3 vw (W : List Int), bE gt #[vC, vl, vw, (Value.map (some mr))] 80, mapE mr (marks T : List (Int × Bool))] H1o7 := St.fin hS1o7
    have hS1o8x2 := (hS1o8.front 1 rfl)
    refine exE rfl rfl ?_
    refine e_append rfl Try.underlying22 em_Int_3_CardC3 rfl rfl hS1o8x2 (hS1o8x2.rdS 1 rfl) (fun _ h => h) (by have hb : GoT.bytes Int = 8 := rfl; simp [hb]; omega) (by decide) (fun v1o8 H1o8 hS1o8x3 hxx => ?_)
    refine ⟨Ext.mono hxx (labS_of 0 rfl (fun b hb => hb)), ?_⟩
    refine wpR_n [14] (by kernel_rfl) ?_
    refine fa ?_ fe
    refine exE rfl rfl ?_
    refine e_buildSlice (vs := [I (w)]) (xs := ([w] : List Int)) rfl Try.underlying22 Try.zeroValue3 rfl Try.sizeOf3 (par1 (v0 := I (w)) rfl) rfl hS1o8x3 (RdVs.cons (Rd.int.2 ⟨rfl, by constructor <;> omega⟩) (RdVs.nil)) (by decide) (by decide) (fun v1o14 H1o14 hS1o14 hxx hvv1o14 => ?_)
    refine ⟨Ext.mono hxx (fun _ h => h.elim), ?_⟩
    refine wpR_n [15] (by kernel_rfl) ?_
    refine fa ?_ fe
    have hS1o15 : St H0 (own [rowE 3 vl (T : List Int), rowE 3 vw (W : List Int), bE gt #[vC, vl, vw, (Value.map (some mr))] 80, mapE mr (marks T : List (Int × Bool))]) (fun b => S b ∧ ¬ own [rowE 3 vl (T : List Int), rowE 3 vw (W : List Int), bE gt #[vC, vl, vw, (Value.map (some mr))] 80, mapE mr (marks T : List (Int × Bool))] b) [rdE v1o14 ([w] : List Int), rowE 3 v1o8 (T ++ ([l]) : List Int), rdE v1o7 ([l] : List Int), rowE 3 vw (W : List Int), bE gt #[vC, vl, vw, (Value.map (some mr))] 80, mapE mr (marks T : List (Int × Bool))] H1o14 := St.fin hS1o14
    have hS1o15x2 := (hS1o15.front 3 rfl)
    refine exE rfl rfl ?_
    refine e_append rfl Try.underlying22 em_Int_3_CardC3 rfl rfl hS1o15x2 (hS1o15x2.rdS 1 rfl) (fun _ h => h) (by have hb : GoT.bytes Int = 8 := rfl; simp [hb]; omega) (by decide) (fun v1o15 H1o15 hS1o15x3 hxx => ?_)
    refine ⟨Ext.mono hxx (labS_of 1 rfl (fun b hb => hb)), ?_⟩
    refine rq 16 (by kernel_rfl) rfl rfl (q_nilCheck rfl rfl) ?_
    refine rq 17 (by kernel_rfl) rfl rfl (q_fieldAddr rfl Try.underlying80 rfl Try.sizeOf22 rfl) ?_
    refine wpR_n [18] (by kernel_rfl) ?_
    refine fa ?_ fe
    refine exE rfl rfl ?_
    refine e_storeBlk (v := v1o8) rfl rfl rfl (oneCell_rdL (hS1o15x3.rowl 2 rfl)) Try.sizeOf22 (by show _ < 4; decide) (hS1o15x3.front 4 rfl) (fun H1o18 hS1o18 hxx => ?_)
    refine ⟨Ext.mono hxx (labS_of 2 rfl (fun b hb => hb)), ?_⟩
    refine rq 19 (by kernel_rfl) rfl rfl (q_nilCheck rfl rfl) ?_
    refine rq 20 (by kernel_rfl) rfl rfl (q_fieldAddr rfl Try.underlying80 rfl Try.sizeOf22 rfl) ?_
    refine wpR_n [21] (by kernel_rfl) ?_
    refine fa ?_ fe
    refine exE rfl rfl ?_
    refine e_storeBlk (v := v1o15) rfl rfl rfl (oneCell_rdL (hS1o18.rowl 1 rfl)) Try.sizeOf22 (by show _ < 4; decide) hS1o18 (fun H1o21 hS1o21 hxx => ?_)
    refine ⟨Ext.mono hxx (labS_of 3 rfl (fun _ _ => trivial)), ?_⟩
    refine wpR_end (by kernel_rfl) ?_
    exact ⟨v1o8, v1o15, y0, y1, (hS1o21.drop (sk (sk (sn (sk (sn (sk (List.Sublist.slnil))))))))⟩
   ·refine exE rfl rfl ?_
    refine e_buildSlice (vs := [I (w)]) (xs := ([w] : List Int)) rfl Try.underlying22 Try.zeroValue3 rfl Try.sizeOf3 (par1 (v0 := I (w)) rfl) rfl hS1o7 (RdVs.cons (Rd.int.2 ⟨rfl, by constructor <;> omega⟩) (RdVs.nil)) (by decide) (by decide) (fun v1o14 H1o14 hS1o14 hxx hvv1o14 => ?_)
    refine ⟨Ext.mono hxx (fun _ h => h.elim), ?_⟩
    refine wpR_n [8] (by kernel_rfl) ?_
    refine fa ?_ fe
    have hS1o8 : St H0 (own [rowE 3 vl (T : List Int), rowE 3 vw (W : List Int), bE gt #[vC, vl, vw, (Value.map (some mr))] 80, mapE mr (marks T : List (Int × Bool))]) (fun b => S b ∧ ¬ own [rowE 3 vl (T : List Int), rowE 3 vw (W : List Int), bE gt #[vC, vl, vw, (Value.map (some mr))] 80, mapE mr (marks T : List (Int × Bool))] b) [rdE v1o7 ([l] : List Int), rowE 3 v1o14 ([w] : List Int), rowE 3 vl (T : List Int), rowE 3 vw (W : List Int), bE gt #[vC, vl, vw, (Value.map (some mr))] 80, mapE mr (marks T : List (Int × Bool))] H1o14 := St.fin (hS1o14.front 1 rfl)
    have hS1o8x2 := (hS1o8.front 2 rfl)
    refine exE rfl rfl ?_
    refine e_append rfl Try.underlying22 em_Int_3_CardC3 rfl rfl hS1o8x2 (hS1o8x2.rdS 1 rfl) (fun _ h => h) (by have hb : GoT.bytes Int = 8 := rfl; simp [hb]; omega) (by decide) (fun v1o8 H1o8 hS1o8x3 hxx => ?_)
    refine ⟨Ext.mono hxx (labS_of 0 rfl (fun b hb => hb)), ?_⟩
    refine wpR_n [15] (by kernel_rfl) ?_
    refine fa ?_ fe
    have hS1o15 : St H0 (own [rowE 3 vl (T : List Int), rowE 3 vw (W : List Int), bE gt #[vC, vl, vw, (Value.map (some mr))] 80, mapE mr (marks T : List (Int × Bool))]) (fun b => S b ∧ ¬ own [rowE 3 vl (T : List Int), rowE 3 vw (W : List Int), bE gt #[vC, vl, vw, (Value.map (some mr))] 80, mapE mr (marks T : List (Int × Bool))] b) [rdE v1o14 ([w] : List Int), rowE 3 v1o8 (T ++ ([l]) : List Int), rdE v1o7 ([l] : List Int), rowE 3 vw (W : List Int), bE gt #[vC, vl, vw, (Value.map (some mr))] 80, mapE mr (marks T : List (Int × Bool))] H1o8 := St.fin (hS1o8x3.front 2 rfl)
    have hS1o15x2 := (hS1o15.front 3 rfl)
    refine exE rfl rfl ?_
    refine e_append rfl Try.underlying22 em_Int_3_CardC3 rfl rfl hS1o15x2 (hS1o15x2.rdS 1 rfl) (fun _ h => h) (by have hb : GoT.bytes Int = 8 := rfl; simp [hb]; omega) (by decide) (fun v1o15 H1o15 hS1o15x3 hxx => ?_)
    refine ⟨Ext.mono hxx (labS_of 1 rfl (fun b hb => hb)), ?_⟩
    refine rq 16 (by kernel_rfl) rfl rfl (q_nilCheck rfl rfl) ?_
    refine rq 17 (by kernel_rfl) rfl rfl (q_fieldAddr rfl Try.underlying80 rfl Try.sizeOf22 rfl) ?_
    refine wpR_n [18] (by kernel_rfl) ?_
    refine fa ?_ fe
    refine exE rfl rfl ?_
    refine e_storeBlk (v := v1o8) rfl rfl rfl (oneCell_rdL (hS1o15x3.rowl 2 rfl)) Try.sizeOf22 (by show _ < 4; decide) (hS1o15x3.front 4 rfl) (fun H1o18 hS1o18 hxx => ?_)
    refine ⟨Ext.mono hxx (labS_of 2 rfl (fun b hb => hb)), ?_⟩
    refine rq 19 (by kernel_rfl) rfl rfl (q_nilCheck rfl rfl) ?_
    refine rq 20 (by kernel_rfl) rfl rfl (q_fieldAddr rfl Try.underlying80 rfl Try.sizeOf22 rfl) ?_
    refine wpR_n [21] (by kernel_rfl) ?_
    refine fa ?_ fe
    refine exE rfl rfl ?_
    refine e_storeBlk (v := v1o15) rfl rfl rfl (oneCell_rdL (hS1o18.rowl 1 rfl)) Try.sizeOf22 (by show _ < 4; decide) hS1o18 (fun H1o21 hS1o21 hxx => ?_)
    refine ⟨Ext.mono hxx (labS_of 3 rfl (fun _ _ => trivial)), ?_⟩
    refine wpR_end (by kernel_rfl) ?_
    exact ⟨v1o8, v1o15, y0, y1, (hS1o21.drop (sk (sk (sn (sk (sn (sk (List.Sublist.slnil))))))))⟩
  ·refine exE rfl rfl ?_
   refine e_buildSlice (vs := [I (w)]) (xs := ([w] : List Int)) rfl Try.underlying22 Try.zeroValue3 rfl Try.sizeOf3 (par1 (v0 := I (w)) rfl) rfl hS0 (RdVs.cons (Rd.int.2 ⟨rfl, by constructor <;> omega⟩) (RdVs.nil)) (by decide) (by decide) (fun v1o14 H1o14 hS1o14 hxx hvv1o14 => ?_)
   refine ⟨Ext.mono hxx (fun _ h => h.elim), ?_⟩
   refine wpR_n [7] (by kernel_rfl) ?_
   refine fa ?_ fe
   refine exE rfl rfl ?_
   refine e_buildSlice (vs := [I (l)]) (xs := ([l] : List Int)) rfl Try.underlying22 Try.zeroValue3 rfl Try.sizeOf3 (par1 (v0 := I (l)) rfl) rfl hS1o14 (RdVs.cons (Rd.int.2 ⟨rfl, by constructor <;> omega⟩) (RdVs.nil)) (by decide) (by decide) (fun v1o7 H1o7 hS1o7 hxx hvv1o7 => ?_)
   refine ⟨Ext.mono hxx (fun _ h => h.elim), ?_⟩
   refine wpR_n [8] (by kernel_rfl) ?_
   refine fa ?_ fe
   have hS1o8 : St H0 (own [rowE 3 vl (T : List Int), rowE 3 vw (W : List Int), bE gt #[vC, vl, vw, (Value.map (some mr))] 80, mapE mr (marks T : List (Int × Bool))]) (fun b => S b ∧ ¬ own [rowE 3 vl (T : List Int), rowE 3 vw (W : List Int), bE gt #[vC, vl, vw, (Value.map (some mr))] 80, mapE mr (marks T : List (Int × Bool))] b) [rdE v1o7 ([l] : List Int), rowE 3 v1o14 ([w] : List Int), rowE 3 vl (T : List Int), rowE 3 vw (W : List Int), bE gt #[vC, vl, vw, (Value.map (some mr))] 80, mapE mr (marks T : List (Int × Bool))] H1o7 := St.fin hS1o7
   have hS1o8x2 := (hS1o8.front 2 rfl)
   refine exE rfl rfl ?_
   refine e_append rfl Try.underlying22 em_Int_3_CardC3 rfl rfl hS1o8x2 (hS1o8x2.rdS 1 rfl) (fun _ h => h) (by have hb : GoT.bytes Int = 8 := rfl; simp [hb]; omega) (by decide) (fun v1o8 H1o8 hS1o8x3 hxx => ?_)
   refine ⟨Ext.mono hxx (labS_of 0 rfl (fun b hb => hb)), ?_⟩
   refine wpR_n [15] (by kernel_rfl) ?_
   refine fa ?_ fe
   have hS1o15 : St H0 (own [rowE 3 vl (T : List Int), rowE 3 vw (W : List Int), bE gt #[vC, vl, vw, (Value.map (some mr))] 80, mapE mr (marks T : List (Int × Bool))]) (fun b => S b ∧ ¬ own [rowE 3 vl (T : List Int), rowE 3 vw (W : List Int), bE gt #[vC, vl, vw, (Value.map (some mr))] 80, mapE mr (marks T : List (Int × Bool))] b) [rdE v1o14 ([w] : List Int), rowE 3 v1o8 (T ++ ([l]) : List Int), rdE v1o7 ([l] : List Int), rowE 3 vw (W : List Int), bE gt #[vC, vl, vw, (Value.map (some mr))] 80, mapE mr (marks T : List (Int × Bool))] H1o8 := St.fin (hS1o8x3.front 2 rfl)
   have hS1o15x2 := (hS1o15.front 3 rfl)
   refine exE rfl rfl ?_
   refine e_append rfl Try.underlying22 em_Int_3_CardC3 rfl rfl hS1o15x2 (hS1o15x2.rdS 1 rfl) (fun _ h => h) (by have hb : GoT.bytes Int = 8 := rfl; simp [hb]; omega) (by decide) (fun v1o15 H1o15 hS1o15x3 hxx => ?_)
   refine ⟨Ext.mono hxx (labS_of 1 rfl (fun b hb => hb)), ?_⟩
   refine rq 16 (by kernel_rfl) rfl rfl (q_nilCheck rfl rfl) ?_
   refine rq 17 (by kernel_rfl) rfl rfl (q_fieldAddr rfl Try.underlying80 rfl Try.sizeOf22 rfl) ?_
   refine wpR_n [18] (by kernel_rfl) ?_
   refine fa ?_ fe
   refine exE rfl rfl ?_
   refine e_storeBlk (v := v1o8) rfl rfl rfl (oneCell_rdL (hS1o15x3.rowl 2 rfl)) Try.sizeOf22 (by show _ < 4; decide) (hS1o15x3.front 4 rfl) (fun H1o18 hS1o18 hxx => ?_)
   refine ⟨Ext.mono hxx (labS_of 2 rfl (fun b hb => hb)), ?_⟩
   refine rq 19 (by kernel_rfl) rfl rfl (q_nilCheck rfl rfl) ?_
   refine rq 20 (by kernel_rfl) rfl rfl (q_fieldAddr rfl Try.underlying80 rfl Try.sizeOf22 rfl) ?_
   refine wpR_n [21] (by kernel_rfl) ?_
   refine fa ?_ fe
   refine exE rfl rfl ?_
   refine e_storeBlk (v := v1o15) rfl rfl rfl (oneCell_rdL (hS1o18.rowl 1 rfl)) Try.sizeOf22 (by show _ < 4; decide) hS1o18 (fun H1o21 hS1o21 hxx => ?_)
   refine ⟨Ext.mono hxx (labS_of 3 rfl (fun _ _ => trivial)), ?_⟩
   refine wpR_end (by kernel_rfl) ?_
   exact ⟨v1o8, v1o15, y0, y1, (hS1o21.drop (sk (sk (sn (sk (sn (sk (List.Sublist.slnil))))))))⟩
 clear y0 y1 y2
 rintro f2 H2 ⟨v1o8, v1o15, y0, y1, hS2⟩
 refine wpF_region ?_
 refine lm (v := PT gt 0) rfl rfl y0 ?_
 refine lq rfl (q_nilCheck rfl rfl) ?_
 refine lq rfl (q_fieldAddr rfl Try.underlying80 rfl Try.sizeOf78 rfl) ?_
 refine lq rfl (q_loadBlk rfl rfl Try.isAgg78 (hS2.blk 0 rfl) rfl (fun h => h)) ?_
 refine lm (v := I (l)) rfl rfl y1 ?_
 have hS3 := (hS2.front 3 rfl)
 refine lo rfl ?_
 refine e_mapUpdate (k := l) (.inl rfl) Try.underlying78 (keyLaw_int Try.underlying3) rfl rfl rfl hS3 (Rd.bool.2 rfl) (fun H4 hS5 hxx => ?_)
 refine wpL_nil ?_
 refine ⟨_, resN, hS5.frameM, ?_⟩
 show ∃ vl_ vw_, (Value.tuple #[]) = Value.tuple #[] ∧ Gone S [rowE 3 vl (T : List Int), rowE 3 vw (W : List Int), bE gt #[vC, vl, vw, (Value.map (some mr))] 80, mapE mr (marks T : List (Int × Bool))] [rowE 3 vl_ (T ++ [l] : List Int), rowE 3 vw_ (W ++ [w] : List Int), bE gt #[vC, vl_, vw_, (Value.map (some mr))] 80, mapE mr (marks (T ++ [l]) : List (Int × Bool))] H0 H4
 have hL : St H0 (own [rowE 3 vl (T : List Int), rowE 3 vw (W : List Int), bE gt #[vC, vl, vw, (Value.map (some mr))] 80, mapE mr (marks T : List (Int × Bool))]) (fun b => S b ∧ ¬ own [rowE 3 vl (T : List Int), rowE 3 vw (W : List Int), bE gt #[vC, vl, vw, (Value.map (some mr))] 80, mapE mr (marks T : List (Int × Bool))] b) [rowE 3 v1o8 (T ++ ([l]) : List Int), rowE 3 v1o15 (W ++ ([w]) : List Int), bE gt #[vC, v1o8, v1o15, (Value.map (some mr))] 80, mapE mr (mset (marks T) l true : List (Int × Bool))] H4 := (St.drop (show St H0 (own [rowE 3 vl (T : List Int), rowE 3 vw (W : List Int), bE gt #[vC, vl, vw, (Value.map (some mr))] 80, mapE mr (marks T : List (Int × Bool))]) (fun b => S b ∧ ¬ own [rowE 3 vl (T : List Int), rowE 3 vw (W : List Int), bE gt #[vC, vl, vw, (Value.map (some mr))] 80, mapE mr (marks T : List (Int × Bool))] b) [rowE 3 v1o8 (T ++ ([l]) : List Int), rowE 3 v1o15 (W ++ ([w]) : List Int), bE gt #[vC, v1o8, v1o15, (Value.map (some mr))] 80, mapE mr (mset (marks T) l true : List (Int × Bool))] H4 from (((hS5.front 1 rfl).front 2 rfl).front 3 rfl)) (sk (sk (sk (sk (List.Sublist.slnil))))))
 rw [← marks_app] at hL
 exact ⟨v1o8, v1o15, rfl, St.leave3 hL⟩
end Go.Um
