import Derived.Test.YtbfgipgojdinoaaProg
import Derived.Test.YtbfgipgojdinoaaCardC1
import Derived.Test.YtbfgipgojdinoaaUmTopCardsC
namespace Go.Um
open Go.Proofs
open GoT (sz ag rdc)
open KeyT (kv)
theorem el_Int_3_CardC2 : ElT Try.prog Int 3 := ⟨Try.isAgg3, Try.sizeOf3⟩
theorem em_Int_3_CardC2 : ElemOk Try.prog Int 3 := ⟨Try.t3, (.int .i64 0), by kernel_rfl, by kernel_rfl, by kernel_rfl, by kernel_rfl, by kernel_rfl⟩
theorem em_LInt_22_CardC2 : ElemOk Try.prog (List Int) 22 := ⟨Try.t22, (.slice none 0 0), by kernel_rfl, by kernel_rfl, by kernel_rfl, by kernel_rfl, by kernel_rfl⟩
set_option maxRecDepth 100000 in
theorem check_C {H0 : Heap} (vl : Value) (l : List Int) (vars : Int) (rl : Rd NoB H0 vl l) (hv : 0 ≤ vars ∧ vars ≤ 16) (hl8 : l.length ≤ 8) (hok : litsOk vars l) : CallsH Try.prog 46 #[I (vars), vl] H0 (fun rv_ H' => Ext NoB H0 H' ∧ rv_ = Vg #[I (0), I (0)]) := by
 have hS0 : St H0 NoB NoB [rdE vl l] H0 := St.arg (St.start (fun _ h => h.elim)) (Bl0.nil) rl (fun _ h => h)
 refine callsH_of_wpF (args := [I (vars), vl]) (rs := [.cell 4 28]) Try.func46 rfl Try.ntmps46 Try.results46 (by kernel_rfl) (Nat.le_of_ble_eq_true rfl) ?_
 have y0 : argF [I (vars), vl] 0 = I (vars) := rfl
 have y1 : argF [I (vars), vl] 1 = vl := rfl
 generalize argF [I (vars), vl] = f0 at *
 refine wpF_seq ?_
 refine wpF_region ?_
 refine lo rfl ?_
 refine e_alloc rfl Try.zeroValue28 hS0 (fun g1 H2 hS3 hxx => ?_)
 refine wpL_nil ?_
 refine wpF_seq ?_
 refine wpF_block ?_
 refine fcr (fun f H => f 0 = I (vars) ∧ f 1 = vl ∧ f 4 = PT g1 0 ∧ f 5 = B (decide ((vars < 0) ∨ (16 < vars))) ∧ H2 = H) ?_ ?_
 ·refine lm (v := I (vars)) rfl rfl y0 ?_
  refine lq rfl (q_lss rfl rfl rfl) ?_
  refine lm (v := B (decide (vars < 0))) rfl rfl rfl ?_
  by_cases hg4 : vars < 0
  ·have hb5 := Eq.trans rfl (congrArg B (decide_eq_true hg4))
   refine wpL_gs rfl rfl rfl hb5 rfl ?_
   refine wpL_gs rfl rfl rfl hb5 rfl ?_
   refine lq rfl (q_pickT (v := B (true)) rfl hb5 rfl) ?_
   refine la (v := B (true)) rfl rfl rfl ?_
   exact ⟨y0, y1, rfl, (Eq.trans rfl (congrArg B ((decide_eq_true (Or.inl hg4)).symm))), rfl⟩
  ·have hb6 := Eq.trans rfl (congrArg B (decide_eq_false hg4))
   refine gq rfl rfl rfl hb6 (q_move (v := I (vars)) rfl y0) ?_
   refine gq rfl rfl rfl hb6 (q_gtr rfl rfl rfl) ?_
   refine lq rfl (q_pickF (v := B (decide (16 < vars))) rfl hb6 rfl) ?_
   refine la (v := B (decide (16 < vars))) rfl rfl rfl ?_
   exact ⟨y0, y1, rfl, (Eq.trans rfl (congrArg B (decide_congr_of ((Iff.rfl).trans (((or_iff_right hg4).trans Iff.rfl)).symm)))), rfl⟩
 clear y0 y1
 rintro f7 _ ⟨y0, y1, y4, y5, rfl⟩
 refine wpF_condP y5 (fun h5 => ?t20) (fun h5 => ?e20)
 case t20 =>
  refine wpF_seq ?_
  refine wpF_region ?_
  refine lq rfl (q_build (v := Vg #[I (3), I (0)]) rfl (par1 (v0 := I (3)) rfl) (fun w__ => by kernel_rfl)) ?_
  refine lo rfl ?_
  refine e_storeBlkA (cs' := #[I (3), I (0)]) rfl y4 rfl Try.sizeOf28 rfl rfl (fa rfl (fa rfl fe)) hS3 (fun H9 hS10 hxx => ?_)
  refine wpL_nil ?_
  refine wpF_ret ?_
  refine ⟨_, resC y4 (loadV_blkA Try.isAgg28 Try.sizeOf28 rfl (hS10.blk 0 rfl)) (resN), hS10.frame, ?_⟩
  show (Vg #[I (3), I (0)]) = Vg #[I (0), I (0)]
  exact absurd h5 (by omega)
 refine wpF_seq ?_
 refine wpF_region ?_
 refine lm (v := vl) rfl rfl y1 ?_
 refine lq rfl (q_lenRd rfl Try.underlying22 rfl (hS3.rdl 1 rfl)) ?_
 refine lq rfl (q_gtr rfl rfl rfl) ?_
 refine la (v := B (decide (8 < (l.length : Int)))) rfl rfl rfl ?_
 refine wpL_nil ?_
 refine wpF_condP rfl (fun h13 => ?t19) (fun h13 => ?e19)
 case t19 =>
  refine wpF_seq ?_
  refine wpF_region ?_
  refine lq rfl (q_build (v := Vg #[I (2), I (0)]) rfl (par1 (v0 := I (2)) rfl) (fun w__ => by kernel_rfl)) ?_
  refine lo rfl ?_
  refine e_storeBlkA (cs' := #[I (2), I (0)]) rfl y4 rfl Try.sizeOf28 rfl rfl (fa rfl (fa rfl fe)) hS3 (fun H12 hS13 hxx => ?_)
  refine wpL_nil ?_
  refine wpF_ret ?_
  refine ⟨_, resC y4 (loadV_blkA Try.isAgg28 Try.sizeOf28 rfl (hS13.blk 0 rfl)) (resN), hS13.frame, ?_⟩
  show (Vg #[I (2), I (0)]) = Vg #[I (0), I (0)]
  exact absurd h13 (by omega)
 refine wpF_skip ?_
 refine wpF_seq ?_
 refine wpF_region ?_
 refine lm (v := vl) rfl rfl y1 ?_
 refine lm (v := I (vars)) rfl rfl y0 ?_
 refine lo rfl ?_
 refine e_call rfl Try.call47 (arr2 (v0 := vl) (v1 := I (vars)) rfl rfl) (List_C vl l vars (hS3.rdN 1 rfl) (by omega) hok) ?_
 rintro _ H14 ⟨hxx, rfl⟩
 have hS15 := hS3.ext hxx
 refine lo rfl ?_
 refine e_storeBlkA (cs' := #[I (0), I (0)]) rfl y4 rfl Try.sizeOf28 rfl rfl (fa rfl (fa rfl fe)) hS15 (fun H17 hS18 hxx => ?_)
 refine wpL_nil ?_
 refine wpF_ret ?_
 refine ⟨_, resC y4 (loadV_blkA Try.isAgg28 Try.sizeOf28 rfl (hS18.blk 0 rfl)) (resN), hS18.frame, ?_⟩
 show (Vg #[I (0), I (0)]) = Vg #[I (0), I (0)]
 rfl
set_option maxRecDepth 100000 in
theorem counted_C {H0 : Heap} (vl : Value) (l : List Int) (vars k : Int) (rl : Rd NoB H0 vl l) (hv : 0 ≤ vars ∧ vars ≤ 16) (hl8 : l.length ≤ 8) (hok : litsOk vars l) (hk : 0 ≤ k ∧ k ≤ 8) : CallsH Try.prog 20 #[I (vars), vl, I (k)] H0 (fun rv_ H' => Ext NoB H0 H' ∧ rv_ = Vg #[I (0), I (0)]) := by
 have hS0 : St H0 NoB NoB [rdE vl l] H0 := St.arg (St.start (fun _ h => h.elim)) (Bl0.nil) rl (fun _ h => h)
 refine callsH_of_wpF (args := [I (vars), vl, I (k)]) (rs := [.cell 6 28]) Try.func20 rfl Try.ntmps20 Try.results20 (by kernel_rfl) (Nat.le_of_ble_eq_true rfl) ?_
 have y0 : argF [I (vars), vl, I (k)] 0 = I (vars) := rfl
 have y1 : argF [I (vars), vl, I (k)] 1 = vl := rfl
 have y2 : argF [I (vars), vl, I (k)] 2 = I (k) := rfl
 generalize argF [I (vars), vl, I (k)] = f0 at *
 refine wpF_seq ?_
 refine wpF_region ?_
 refine lo rfl ?_
 refine e_alloc rfl Try.zeroValue28 hS0 (fun g1 H2 hS3 hxx => ?_)
 refine wpL_nil ?_
 refine wpF_seq ?_
 refine wpF_seq ?_
 refine wpF_region ?_
 refine lm (v := I (vars)) rfl rfl y0 ?_
 refine lm (v := vl) rfl rfl y1 ?_
 refine lo rfl ?_
 refine e_call rfl Try.call46 (arr2 (v0 := I (vars)) (v1 := vl) rfl rfl) (check_C vl l vars (hS3.rdN 1 rfl) (by omega) hl8 hok) ?_
 rintro _ H4 ⟨hxx, rfl⟩
 have hS5 := hS3.ext hxx
 refine lo rfl ?_
 refine e_alloc rfl Try.zeroValue28 hS5 (fun g7 H8 hS9 hxx => ?_)
 refine lo rfl ?_
 refine e_storeBlkA (cs' := #[I (0), I (0)]) rfl rfl rfl Try.sizeOf28 rfl rfl (fa rfl (fa rfl fe)) hS9 (fun H10 hS11 hxx => ?_)
 refine wpL_nil ?_
 refine wpF_seq ?_
 refine wpF_region ?_
 refine lq rfl (q_fieldAddr rfl Try.underlying28 rfl Try.sizeOf3 rfl) ?_
 refine lq rfl (q_loadBlk rfl rfl Try.isAgg3 (hS11.blk 0 rfl) rfl (fun h => h)) ?_
 refine lq rfl (q_neq rfl rfl rfl) ?_
 refine wpL_nil ?_
 refine wpF_condF (Eq.trans rfl (congrArg B (decide_eq_false (by decide)))) ?_
 refine wpF_skip ?_
 refine wpF_seq ?_
 refine fcr (fun f H => f 6 = PT g1 0 ∧ f 20 = B (decide ((k < 0) ∨ (8 < k))) ∧ H10 = H) ?_ ?_
 ·refine lm (v := I (k)) rfl rfl y2 ?_
  refine lq rfl (q_lss rfl rfl rfl) ?_
  refine lm (v := B (decide (k < 0))) rfl rfl rfl ?_
  by_cases hg12 : k < 0
  ·have hb13 := Eq.trans rfl (congrArg B (decide_eq_true hg12))
   refine wpL_gs rfl rfl rfl hb13 rfl ?_
   refine wpL_gs rfl rfl rfl hb13 rfl ?_
   refine lq rfl (q_pickT (v := B (true)) rfl hb13 rfl) ?_
   exact ⟨rfl, (Eq.trans rfl (congrArg B ((decide_eq_true (Or.inl hg12)).symm))), rfl⟩
  ·have hb14 := Eq.trans rfl (congrArg B (decide_eq_false hg12))
   refine gq rfl rfl rfl hb14 (q_move (v := I (k)) rfl y2) ?_
   refine gq rfl rfl rfl hb14 (q_gtr rfl rfl rfl) ?_
   refine lq rfl (q_pickF (v := B (decide (8 < k))) rfl hb14 rfl) ?_
   exact ⟨rfl, (Eq.trans rfl (congrArg B (decide_congr_of ((Iff.rfl).trans (((or_iff_right hg12).trans Iff.rfl)).symm)))), rfl⟩
 clear y2
 rintro f15 _ ⟨y6, y20, rfl⟩
 refine wpF_condP y20 (fun h20 => ?t21) (fun h20 => ?e21)
 case t21 =>
  refine wpF_seq ?_
  refine wpF_region ?_
  refine lq rfl (q_build (v := Vg #[I (3), I (-1)]) rfl (par2 (v0 := I (3)) (v1 := I (-1)) rfl rfl) (fun w__ => by kernel_rfl)) ?_
  refine lo rfl ?_
  refine e_storeBlkA (cs' := #[I (3), I (-1)]) rfl y6 rfl Try.sizeOf28 rfl rfl (fa rfl (fa rfl fe)) (hS11.front 1 rfl) (fun H17 hS18 hxx => ?_)
  refine wpL_nil ?_
  refine wpF_ret ?_
  refine ⟨_, resC y6 (loadV_blkA Try.isAgg28 Try.sizeOf28 rfl (hS18.blk 0 rfl)) (resN), hS18.frame, ?_⟩
  show (Vg #[I (3), I (-1)]) = Vg #[I (0), I (0)]
  exact absurd h20 (by omega)
 refine wpF_skip ?_
 refine wpF_seq ?_
 refine wpF_region ?_
 refine lq rfl (q_build (v := Vg #[I (0), I (0)]) rfl par0 (fun w__ => by kernel_rfl)) ?_
 refine lo rfl ?_
 refine e_storeBlkA (cs' := #[I (0), I (0)]) rfl y6 rfl Try.sizeOf28 rfl rfl (fa rfl (fa rfl fe)) (hS11.front 1 rfl) (fun H19 hS20 hxx => ?_)
 refine wpL_nil ?_
 refine wpF_ret ?_
 refine ⟨_, resC y6 (loadV_blkA Try.isAgg28 Try.sizeOf28 rfl (hS20.blk 0 rfl)) (resN), hS20.frame, ?_⟩
 show (Vg #[I (0), I (0)]) = Vg #[I (0), I (0)]
 rfl
set_option maxHeartbeats 1000000 in
set_option maxRecDepth 100000 in
theorem some_C {H0 : Heap} {S : Nat → Prop} (vl : Value) (l : List Int) (z : Int) (m : Nat) (rl : Rd S H0 vl l) (hl8 : l.length ≤ 8) (hz : z = (m : Int)) : CallsH Try.prog 21 #[vl, I (z)] H0 (fun rv_ H' => Ext NoB H0 H' ∧ Rd (SZ S H0) H' rv_ (someL l m)) := by
 have h256 := two_pow8 hl8
 have hsm := (Rd.list.1 rl).small
 have hS0 : St H0 NoB (SZ S H0) [rdE vl l] H0 := St.arg (St.start (fun _ h => h.2)) (Bl0.nil) rl (fun _ h => h.1)
 refine callsH_of_wpF (args := [vl, I (z)]) (rs := [.tmp 4]) Try.func21 rfl Try.ntmps21 Try.results21 (by kernel_rfl) (Nat.le_of_ble_eq_true rfl) ?_
 have y0 : argF [vl, I (z)] 0 = vl := rfl
 have y1 : argF [vl, I (z)] 1 = I (z) := rfl
 generalize argF [vl, I (z)] = f0 at *
 refine wpF_seq ?_
 refine wpF_region ?_
 refine la (v := nS) rfl rfl rfl ?_
 refine wpL_nil ?_
 refine wpF_seq ?_
 refine wpF_region ?_
 refine la (v := nS) rfl rfl rfl ?_
 refine wpL_nil ?_
 have hS1 : St H0 NoB (SZ S H0) [rowE 22 nS ([] : List (List Int)), rdE vl l] H0 := hS0.row0 22
 refine wpF_seq ?_
 refine wpF_seq ?_
 refine wpF_region ?_
 refine lm (v := vl) rfl rfl y0 ?_
 refine lq rfl (q_lenRd rfl Try.underlying22 rfl (hS1.rdl 1 rfl)) ?_
 refine lq rfl (q_shl1 rfl rfl rfl (by omega) (by omega)) ?_
 refine lm (v := I (0)) rfl rfl rfl ?_
 refine wpL_nil ?_
 refine wpF_block ?_
 refine wpF_loop (fun mz f H => ∃ (s : Nat), ∃ (vo : Value), mz = 2 ^ l.length - s ∧ (s ≤ 2 ^ l.length) ∧ f 0 = vl ∧ f 1 = I (z) ∧ f 5 = vo ∧ f 12 = I (((2 ^ l.length : Nat) : Int)) ∧ f 13 = I ((s : Int)) ∧ St H0 NoB (SZ S H0) [rowE 22 vo (someTo l m s : List (List Int)), rdE vl l] H) (2 ^ l.length - 0) ?_ ?_
 ·exact ⟨0, nS, rfl, Nat.zero_le _, y0, y1, rfl, rfl, (Eq.trans rfl (congrArg I (by omega))), (show St H0 NoB (SZ S H0) [rowE 22 nS (someTo l m 0 : List (List Int)), rdE vl l] H0 from hS1)⟩
 intro m2 f2 H2 hI2
 clear y0 y1
 obtain ⟨s, vo, hm2, hs, y0, y1, y5, y12, y13, hS2⟩ := hI2
 refine wpF_seq ?_
 refine wpF_region ?_
 refine lq rfl (q_lss rfl y13 y12) ?_
 refine wpL_nil ?_
 refine wpF_seq ?_
 refine wpF_condP rfl (fun hlt => ?t34) (fun hlt => ?e34)
 case e34 =>
  obtain rfl : s = (2 ^ l.length) := by omega
  refine wpF_exit ?_
  refine atX_here ?_
  refine wpF_seq ?_
  refine wpF_region ?_
  refine lm (v := vo) rfl rfl y5 ?_
  refine la (v := vo) rfl rfl rfl ?_
  refine wpL_nil ?_
  refine wpF_ret ?_
  refine ⟨_, resT rfl resN, hS2.frame, ?_⟩
  show Rd (SZ S H0) H2 vo (someL l m)
  have hS33 : St H0 NoB (SZ S H0) [rdE vo (someTo l m (2 ^ l.length)), rdE vl l] H2 := St.fin hS2
  exact (hS33.result (hS33.rdS 0 rfl))
 refine wpF_skip ?_
 refine wpF_seq ?_
 refine wpF_block ?_
 refine wpF_seq ?_
 refine wpF_region ?_
 refine lm (v := I ((s : Int))) rfl rfl y13 ?_
 refine la (v := I ((s : Int))) rfl rfl rfl ?_
 refine wpL_nil ?_
 refine wpF_seq ?_
 refine wpF_region ?_
 refine la (v := nS) rfl rfl rfl ?_
 refine wpL_nil ?_
 have hS4 : St H0 NoB (SZ S H0) [rowE 3 nS ([] : List Int), rowE 22 vo (someTo l m s : List (List Int)), rdE vl l] H2 := hS2.row0 3
 refine wpF_seq ?_
 refine wpF_seq ?_
 refine wpF_region ?_
 refine lm (v := vl) rfl rfl y0 ?_
 refine lq rfl (q_lenRd rfl Try.underlying22 rfl (hS4.rdl 2 rfl)) ?_
 refine lm (v := I (0)) rfl rfl rfl ?_
 refine wpL_nil ?_
 refine wpF_block ?_
 refine wpF_loop (fun mz f H => ∃ (i : Nat), ∃ (vc : Value), mz = l.length - i ∧ (i ≤ l.length) ∧ f 0 = vl ∧ f 1 = I (z) ∧ f 5 = vo ∧ f 6 = I ((s : Int)) ∧ f 7 = vc ∧ f 12 = I (((2 ^ l.length : Nat) : Int)) ∧ f 13 = I ((s : Int)) ∧ f 16 = vl ∧ f 17 = I ((l.length : Int)) ∧ f 18 = I ((i : Int)) ∧ St H0 NoB (SZ S H0) [rowE 3 vc (pickTo l s i : List Int), rowE 22 vo (someTo l m s : List (List Int)), rdE vl l] H) (l.length - 0) ?_ ?_
 ·exact ⟨0, nS, rfl, Nat.zero_le _, y0, y1, y5, rfl, rfl, y12, y13, rfl, rfl, (Eq.trans rfl (congrArg I (by omega))), (show St H0 NoB (SZ S H0) [rowE 3 nS (pickTo l s 0 : List Int), rowE 22 vo (someTo l m s : List (List Int)), rdE vl l] H2 from hS4)⟩
 intro m5 f5 H5 hI5
 clear y0 y1 y12 y13 y5
 obtain ⟨i, vc, hm5, hi, y0, y1, y5, y6, y7, y12, y13, y16, y17, y18, hS5⟩ := hI5
 refine wpF_seq ?_
 refine wpF_region ?_
 refine lq rfl (q_lss rfl y18 y17) ?_
 refine wpL_nil ?_
 refine wpF_seq ?_
 refine wpF_condP rfl (fun hlti => ?t32) (fun hlti => ?e32)
 case e32 =>
  obtain rfl : i = l.length := by omega
  refine wpF_exit ?_
  refine atX_here ?_
  refine wpF_seq ?_
  refine wpF_region ?_
  refine lm (v := vc) rfl rfl y7 ?_
  refine lq rfl (q_lenRd rfl Try.underlying22 rfl (hS5.rowl 0 rfl)) ?_
  refine lm (v := I (z)) rfl rfl y1 ?_
  refine lq rfl (q_eql rfl rfl rfl) ?_
  refine wpL_nil ?_
  refine wpF_condP rfl (fun h36 => ?t31) (fun h36 => ?e31)
  case e31 =>
   have hS20 : St H0 NoB (SZ S H0) [rowE 3 vc (pickTo l s l.length : List Int), rowE 22 vo (someTo l m (s + 1) : List (List Int)), rdE vl l] H5 := by have h__ := hS5; rw [some_no (by omega)] at h__; exact h__
   refine wpF_skip ?_
   refine wpF_region ?_
   refine lq rfl (q_add rfl y13 rfl (by constructor <;> omega)) ?_
   refine lm (v := I ((s : Int) + 1)) rfl rfl rfl ?_
   refine wpL_nil ?_
   refine ⟨_, ?_, s + 1, vo, rfl, (by omega), y0, y1, y5, y12, (Eq.trans rfl (congrArg I (by omega))), (hS20.drop (sn (sk (sk (List.Sublist.slnil)))))⟩
   omega
  refine wpF_region ?_
  refine lm (v := vo) rfl rfl y5 ?_
  refine lm (v := vc) rfl rfl y7 ?_
  have hS21 : St H0 NoB (SZ S H0) [rdE vc (pickTo l s l.length), rowE 22 vo (someTo l m s : List (List Int)), rdE vl l] H5 := St.fin hS5
  refine lo rfl ?_
  refine e_buildSlice (vs := [vc]) (xs := ([pickTo l s l.length] : List (List Int))) rfl Try.underlying24 Try.zeroValue22 rfl Try.sizeOf22 (par1 (v0 := vc) rfl) rfl hS21 (RdVs.cons (hS21.rdS 0 rfl) (RdVs.nil)) (by decide) (by decide) (fun v22 H23 hS24 hxx hvv22 => ?_)
  have hS25 : St H0 NoB (SZ S H0) [rdE v22 ([pickTo l s l.length] : List (List Int)), rdE vc (pickTo l s l.length), rowE 22 vo (someTo l m s : List (List Int)), rdE vl l] H23 := St.fin hS24
  have hS26 := (hS25.front 2 rfl)
  refine lo rfl ?_
  refine e_append rfl Try.underlying24 em_LInt_22_CardC2 rfl rfl hS26 (hS26.rdS 1 rfl) (fun _ h => h) (by have hb : GoT.bytes (List Int) = 24 := rfl; have := some_len (l := l) (m := m) (s := s); simp [hb]; omega) (by decide) (fun v27 H28 hS29 hxx => ?_)
  have hS30 : St H0 NoB (SZ S H0) [rowE 22 v27 (someTo l m (s + 1) : List (List Int)), rdE v22 ([pickTo l s l.length] : List (List Int)), rdE vc (pickTo l s l.length), rdE vl l] H28 := by rw [show (someTo l m (s + 1)) = ((someTo l m s) ++ ([pickTo l s l.length])) from (some_yes (by omega))]; exact hS29
  refine la (v := v27) rfl rfl rfl ?_
  refine wpL_nil ?_
  refine wpF_region ?_
  refine lq rfl (q_add rfl y13 rfl (by constructor <;> omega)) ?_
  refine lm (v := I ((s : Int) + 1)) rfl rfl rfl ?_
  refine wpL_nil ?_
  refine ⟨_, ?_, s + 1, v27, rfl, (by omega), y0, y1, rfl, y12, (Eq.trans rfl (congrArg I (by omega))), (hS30.drop (sk (sn (sn (sk (List.Sublist.slnil))))))⟩
  omega
 have h6i := (Rd.list.1 rl).in64 (k := i) (by omega)
 refine wpF_skip ?_
 refine wpF_seq ?_
 refine wpF_block ?_
 refine wpF_seq ?_
 refine wpF_region ?_
 refine lm (v := I ((i : Int))) rfl rfl y18 ?_
 refine lq rfl (q_indexRd (k := i) rfl Try.underlying22 el_Int_3_CardC2 y16 y18 (hS5.rdl 2 rfl) (by omega) (by omega)) ?_
 refine lq rfl (q_loadInt (k := i) rfl rfl el_Int_3_CardC2 (hS5.rdl 2 rfl) (by omega) (fun _ h => h)) ?_
 refine la (v := I ((i : Int))) rfl rfl rfl ?_
 refine la (v := I (nth l i)) rfl rfl rfl ?_
 refine wpL_nil ?_
 refine wpF_seq ?_
 refine wpF_region ?_
 refine lm (v := I ((s : Int))) rfl rfl y6 ?_
 refine lm (v := I ((i : Int))) rfl rfl rfl ?_
 refine lq rfl (q_shrN (a := s) rfl rfl rfl (by omega) (by omega)) ?_
 refine lq rfl (q_andN (a := s >>> i) (b := 1) rfl rfl rfl (by first | omega | exact lt62_andNot (by omega) (by omega) | exact lt62_and (by omega) | exact shr_lt (by omega)) (by first | omega | exact lt62_andNot (by omega) (by omega) | exact lt62_and (by omega) | exact shr_lt (by omega))) ?_
 refine lq rfl (q_eql rfl rfl rfl) ?_
 refine wpL_nil ?_
 refine wpF_condP rfl (fun h27 => ?t18) (fun h27 => ?e18)
 case e18 =>
  have hS8 : St H0 NoB (SZ S H0) [rowE 3 vc (pickTo l s (i + 1) : List Int), rowE 22 vo (someTo l m s : List (List Int)), rdE vl l] H5 := by have h__ := hS5; rw [pick_no (by rw [← bit_one]; simpa using h27)] at h__; exact h__
  refine wpF_skip ?_
  refine wpF_region ?_
  refine lq rfl (q_add rfl y18 rfl (by constructor <;> omega)) ?_
  refine lm (v := I ((i : Int) + 1)) rfl rfl rfl ?_
  refine wpL_nil ?_
  refine ⟨_, ?_, i + 1, vc, rfl, (by omega), y0, y1, y5, y6, y7, y12, y13, y16, y17, (Eq.trans rfl (congrArg I (by omega))), hS8⟩
  omega
 refine wpF_region ?_
 refine lm (v := vc) rfl rfl y7 ?_
 refine lm (v := I (nth l i)) rfl rfl rfl ?_
 refine lo rfl ?_
 refine e_buildSlice (vs := [I (nth l i)]) (xs := ([nth l i] : List Int)) rfl Try.underlying22 Try.zeroValue3 rfl Try.sizeOf3 (par1 (v0 := I (nth l i)) rfl) rfl hS5 (RdVs.cons (Rd.int.2 ⟨rfl, by first | assumption | (constructor <;> omega)⟩) (RdVs.nil)) (by decide) (by decide) (fun v9 H10 hS11 hxx hvv9 => ?_)
 have hS12 : St H0 NoB (SZ S H0) [rdE v9 ([nth l i] : List Int), rowE 3 vc (pickTo l s i : List Int), rowE 22 vo (someTo l m s : List (List Int)), rdE vl l] H10 := St.fin hS11
 have hS13 := (hS12.front 1 rfl)
 refine lo rfl ?_
 refine e_append rfl Try.underlying22 em_Int_3_CardC2 rfl rfl hS13 (hS13.rdS 1 rfl) (fun _ h => h) (by have hb : GoT.bytes Int = 8 := rfl; have := pick_len (l := l) (s := s) (i := i); simp [hb]; omega) (by decide) (fun v14 H15 hS16 hxx => ?_)
 have hS17 : St H0 NoB (SZ S H0) [rowE 3 v14 (pickTo l s (i + 1) : List Int), rdE v9 ([nth l i] : List Int), rowE 22 vo (someTo l m s : List (List Int)), rdE vl l] H15 := by rw [show (pickTo l s (i + 1)) = ((pickTo l s i) ++ ([nth l i])) from (pick_yes (by rw [← bit_one]; simpa using h27))]; exact hS16
 refine la (v := v14) rfl rfl rfl ?_
 refine wpL_nil ?_
 refine wpF_region ?_
 refine lq rfl (q_add rfl y18 rfl (by constructor <;> omega)) ?_
 refine lm (v := I ((i : Int) + 1)) rfl rfl rfl ?_
 refine wpL_nil ?_
 refine ⟨_, ?_, i + 1, v14, rfl, (by omega), y0, y1, y5, y6, rfl, y12, y13, y16, y17, (Eq.trans rfl (congrArg I (by omega))), (hS17.drop (sk (sn (sk (sk (List.Sublist.slnil))))))⟩
 omega
set_option maxHeartbeats 1000000 in
set_option maxRecDepth 100000 in
theorem Most_C {H0 : Heap} {S : Nat → Prop} (vl : Value) (l : List Int) (vars k : Int) (n : Nat) (rl : Rd S H0 vl l) (hv : 0 ≤ vars ∧ vars ≤ 16) (hl8 : l.length ≤ 8) (hok : litsOk vars l) (hk : k = (n : Int)) (hn8 : n ≤ 8) : CallsH Try.prog 6 #[I (vars), vl, I (k)] H0 (fun rv_ H' => Ext NoB H0 H' ∧ ∃ w_, rv_ = Value.tuple #[Vg #[I vars, w_], Vg #[I (0), I (0)]] ∧ Rd (SZ S H0) H' w_ (atMost l n)) := by
 have hsm := (Rd.list.1 rl).small
 have hS0 : St H0 NoB (SZ S H0) [rdE vl l] H0 := St.arg (St.start (fun _ h => h.2)) (Bl0.nil) rl (fun _ h => h.1)
 refine callsH_of_wpF (args := [I (vars), vl, I (k)]) (rs := [.cell 6 26, .cell 7 28]) Try.func6 rfl Try.ntmps6 Try.results6 (by kernel_rfl) (Nat.le_of_ble_eq_true rfl) ?_
 have y0 : argF [I (vars), vl, I (k)] 0 = I (vars) := rfl
 have y1 : argF [I (vars), vl, I (k)] 1 = vl := rfl
 have y2 : argF [I (vars), vl, I (k)] 2 = I (k) := rfl
 generalize argF [I (vars), vl, I (k)] = f0 at *
 refine wpF_seq ?_
 refine wpF_region ?_
 refine lo rfl ?_
 refine e_alloc rfl Try.zeroValue26 hS0 (fun g1 H2 hS3 hxx => ?_)
 refine lo rfl ?_
 refine e_alloc rfl Try.zeroValue28 hS3 (fun g4 H5 hS6 hxx => ?_)
 refine wpL_nil ?_
 refine wpF_seq ?_
 refine wpF_seq ?_
 refine wpF_region ?_
 refine lm (v := I (vars)) rfl rfl y0 ?_
 refine lm (v := vl) rfl rfl y1 ?_
 refine lm (v := I (k)) rfl rfl y2 ?_
 refine lo rfl ?_
 refine e_call rfl Try.call20 (arr3 (v0 := I (vars)) (v1 := vl) (v2 := I (k)) rfl rfl rfl) (counted_C vl l vars k (hS6.rdN 2 rfl) (by omega) hl8 hok (by omega)) ?_
 rintro _ H7 ⟨hxx, rfl⟩
 have hS8 := hS6.ext hxx
 refine lo rfl ?_
 refine e_alloc rfl Try.zeroValue28 hS8 (fun g10 H11 hS12 hxx => ?_)
 refine lo rfl ?_
 refine e_storeBlkA (cs' := #[I (0), I (0)]) rfl rfl rfl Try.sizeOf28 rfl rfl (fa rfl (fa rfl fe)) hS12 (fun H13 hS14 hxx => ?_)
 refine wpL_nil ?_
 refine wpF_seq ?_
 refine wpF_region ?_
 refine lq rfl (q_fieldAddr rfl Try.underlying28 rfl Try.sizeOf3 rfl) ?_
 refine lq rfl (q_loadBlk rfl rfl Try.isAgg3 (hS14.blk 0 rfl) rfl (fun h => h)) ?_
 refine lq rfl (q_neq rfl rfl rfl) ?_
 refine wpL_nil ?_
 refine wpF_condF (Eq.trans rfl (congrArg B (decide_eq_false (by decide)))) ?_
 refine wpF_skip ?_
 refine wpF_seq ?_
 refine wpF_region ?_
 refine la (v := nS) rfl rfl rfl ?_
 refine wpL_nil ?_
 have hS15 : St H0 NoB (SZ S H0) [rowE 3 nS ([] : List Int), bE g10 #[I (0), I (0)] 28, bE g4 #[I (0), I (0)] 28, bE g1 #[I (0), nS] 26, rdE vl l] H13 := hS14.row0 3
 refine wpF_seq ?_
 refine wpF_seq ?_
 refine wpF_region ?_
 refine lm (v := vl) rfl rfl y1 ?_
 refine lq rfl (q_lenRd rfl Try.underlying22 rfl (hS15.rdl 4 rfl)) ?_
 refine lm (v := I (0)) rfl rfl rfl ?_
 refine wpL_nil ?_
 refine wpF_block ?_
 refine wpF_loop (fun mz f H => ∃ (i : Nat), ∃ (vo : Value), mz = l.length - i ∧ (i ≤ l.length) ∧ f 0 = I (vars) ∧ f 2 = I (k) ∧ f 6 = PT g1 0 ∧ f 7 = PT g4 0 ∧ f 9 = vo ∧ f 21 = vl ∧ f 22 = I ((l.length : Int)) ∧ f 23 = I ((i : Int)) ∧ St H0 NoB (SZ S H0) [rowE 3 vo (negL (l.take i) : List Int), bE g10 #[I (0), I (0)] 28, bE g4 #[I (0), I (0)] 28, bE g1 #[I (0), nS] 26, rdE vl l] H) (l.length - 0) ?_ ?_
 ·exact ⟨0, nS, rfl, Nat.zero_le _, y0, y2, rfl, rfl, rfl, rfl, rfl, (Eq.trans rfl (congrArg I (by omega))), (show St H0 NoB (SZ S H0) [rowE 3 nS (negL (l.take 0) : List Int), bE g10 #[I (0), I (0)] 28, bE g4 #[I (0), I (0)] 28, bE g1 #[I (0), nS] 26, rdE vl l] H13 from hS15)⟩
 intro m16 f16 H16 hI16
 clear y0 y2
 obtain ⟨i, vo, hm16, hi, y0, y2, y6, y7, y9, y21, y22, y23, hS16⟩ := hI16
 refine wpF_seq ?_
 refine wpF_region ?_
 refine lq rfl (q_lss rfl y23 y22) ?_
 refine wpL_nil ?_
 refine wpF_seq ?_
 refine wpF_condP rfl (fun hlt => ?t37) (fun hlt => ?e37)
 case e37 =>
  obtain rfl : i = l.length := by omega
  refine wpF_exit ?_
  refine atX_here ?_
  refine wpF_seq ?_
  have hS27 : St H0 NoB (SZ S H0) [rowE 3 vo (negL l : List Int), bE g10 #[I (0), I (0)] 28, bE g4 #[I (0), I (0)] 28, bE g1 #[I (0), nS] 26, rdE vl l] H16 := by have h__ := hS16; rw [List.take_length] at h__; exact h__
  refine wpF_region ?_
  refine lm (v := I (vars)) rfl rfl y0 ?_
  refine lm (v := vo) rfl rfl y9 ?_
  refine lm (v := I (k)) rfl rfl y2 ?_
  refine lq rfl (q_add rfl rfl rfl (by constructor <;> omega)) ?_
  have hS28 : St H0 NoB (SZ S H0) [rdE vo (negL l), bE g10 #[I (0), I (0)] 28, bE g4 #[I (0), I (0)] 28, bE g1 #[I (0), nS] 26, rdE vl l] H16 := St.fin hS27
  refine lo rfl ?_
  refine e_call rfl Try.call21 (arr2 (v0 := vo) (v1 := I (k + 1)) rfl rfl) (some_C vo (negL l) (k + 1) (n + 1) (hS28.rdS 0 rfl) (by rw [negL, List.length_map]; exact hl8) (by omega)) ?_
  rintro r29 H30 ⟨hxx, hrr29⟩
  have hS31 := hS28.res hxx hrr29
  refine lq rfl (q_build (v := Vg #[I (vars), r29]) rfl (par2 (v0 := I (vars)) (v1 := r29) rfl rfl) ((hS31.rdl 0 rfl).slc (fun zz0 => ∀ w__, (Instr.build 26 #[(0, I (vars)), (1, zz0)]).run Try.prog w__ = .ok (Vg #[I (vars), zz0]) w__) (fun a0 n0 c0 => (fun w__ => by kernel_rfl)))) ?_
  refine lq rfl (q_build (v := Vg #[I (0), I (0)]) rfl par0 (fun w__ => by kernel_rfl)) ?_
  refine lo rfl ?_
  refine e_storeBlkA (cs' := #[I (vars), r29]) rfl y6 rfl Try.sizeOf26 rfl rfl (fa rfl (fa ((oneCell_rdL (hS31.rdl 0 rfl))) fe)) (hS31.front 4 rfl) (fun H33 hS34 hxx => ?_)
  refine lo rfl ?_
  refine e_storeBlkA (cs' := #[I (0), I (0)]) rfl y7 rfl Try.sizeOf28 rfl rfl (fa rfl (fa rfl fe)) (hS34.front 4 rfl) (fun H35 hS36 hxx => ?_)
  refine wpL_nil ?_
  refine wpF_ret ?_
  refine ⟨_, resC y6 (loadV_blkA Try.isAgg26 Try.sizeOf26 rfl (hS36.blk 1 rfl)) (resC y7 (loadV_blkA Try.isAgg28 Try.sizeOf28 rfl (hS36.blk 0 rfl)) (resN)), hS36.frame, ?_⟩
  show ∃ w_, (Value.tuple #[Vg #[I (vars), r29], Vg #[I (0), I (0)]]) = Value.tuple #[Vg #[I vars, w_], Vg #[I (0), I (0)]] ∧ Rd (SZ S H0) H35 w_ (atMost l n)
  exact ⟨_, rfl, (hS36.result (hS36.rdS 2 rfl))⟩
 have h6 := lit_in (i := i) hok (by omega) (by omega)
 refine wpF_skip ?_
 refine wpF_seq ?_
 refine wpF_block ?_
 refine wpF_seq ?_
 refine wpF_region ?_
 refine lq rfl (q_indexRd (k := i) rfl Try.underlying22 el_Int_3_CardC2 y21 y23 (hS16.rdl 4 rfl) (by omega) (by omega)) ?_
 refine lq rfl (q_loadInt (k := i) rfl rfl el_Int_3_CardC2 (hS16.rdl 4 rfl) (by omega) (fun _ h => h)) ?_
 refine la (v := I (nth l i)) rfl rfl rfl ?_
 refine wpL_nil ?_
 refine wpF_region ?_
 refine lm (v := vo) rfl rfl y9 ?_
 refine lm (v := I (nth l i)) rfl rfl rfl ?_
 refine lq rfl (q_neg rfl rfl (by constructor <;> omega)) ?_
 refine lo rfl ?_
 refine e_buildSlice (vs := [I (-(nth l i))]) (xs := ([-(nth l i)] : List Int)) rfl Try.underlying22 Try.zeroValue3 rfl Try.sizeOf3 (par1 (v0 := I (-(nth l i))) rfl) rfl hS16 (RdVs.cons (Rd.int.2 ⟨rfl, by first | assumption | (constructor <;> omega)⟩) (RdVs.nil)) (by decide) (by decide) (fun v18 H19 hS20 hxx hvv18 => ?_)
 have hS21 : St H0 NoB (SZ S H0) [rdE v18 ([-(nth l i)] : List Int), rowE 3 vo (negL (l.take i) : List Int), bE g10 #[I (0), I (0)] 28, bE g4 #[I (0), I (0)] 28, bE g1 #[I (0), nS] 26, rdE vl l] H19 := St.fin hS20
 have hS22 := (hS21.front 1 rfl)
 refine lo rfl ?_
 refine e_append rfl Try.underlying22 em_Int_3_CardC2 rfl rfl hS22 (hS22.rdS 1 rfl) (fun _ h => h) (by have hb : GoT.bytes Int = 8 := rfl; simp [hb, negL]; omega) (by decide) (fun v23 H24 hS25 hxx => ?_)
 have hS26 : St H0 NoB (SZ S H0) [rowE 3 v23 (negL (l.take (i + 1)) : List Int), rdE v18 ([-(nth l i)] : List Int), bE g10 #[I (0), I (0)] 28, bE g4 #[I (0), I (0)] 28, bE g1 #[I (0), nS] 26, rdE vl l] H24 := by rw [show (negL (l.take (i + 1))) = ((negL (l.take i)) ++ ([-(nth l i)])) from (neg_next (by omega))]; exact hS25
 refine la (v := v23) rfl rfl rfl ?_
 refine wpL_nil ?_
 refine wpF_region ?_
 refine lq rfl (q_add rfl y23 rfl (by constructor <;> omega)) ?_
 refine lm (v := I ((i : Int) + 1)) rfl rfl rfl ?_
 refine wpL_nil ?_
 refine ⟨_, ?_, i + 1, v23, rfl, (by omega), y0, y2, y6, y7, rfl, y21, y22, (Eq.trans rfl (congrArg I (by omega))), (hS26.drop (sk (sn (sk (sk (sk (sk (List.Sublist.slnil))))))))⟩
 omega
set_option maxHeartbeats 1000000 in
set_option maxRecDepth 100000 in
theorem Least_C {H0 : Heap} {S : Nat → Prop} (vl : Value) (l : List Int) (vars k : Int) (n : Nat) (rl : Rd S H0 vl l) (hv : 0 ≤ vars ∧ vars ≤ 16) (hl8 : l.length ≤ 8) (hok : litsOk vars l) (hk : k = (n : Int)) (hn8 : n ≤ 8) : CallsH Try.prog 7 #[I (vars), vl, I (k)] H0 (fun rv_ H' => Ext NoB H0 H' ∧ ∃ w_, rv_ = Value.tuple #[Vg #[I vars, w_], Vg #[I (0), I (0)]] ∧ Rd (SZ S H0) H' w_ (atLeast l n)) := by
 have hsm := (Rd.list.1 rl).small
 have hS0 : St H0 NoB (SZ S H0) [rdE vl l] H0 := St.arg (St.start (fun _ h => h.2)) (Bl0.nil) rl (fun _ h => h.1)
 refine callsH_of_wpF (args := [I (vars), vl, I (k)]) (rs := [.cell 6 26, .cell 7 28]) Try.func7 rfl Try.ntmps7 Try.results7 (by kernel_rfl) (Nat.le_of_ble_eq_true rfl) ?_
 have y0 : argF [I (vars), vl, I (k)] 0 = I (vars) := rfl
 have y1 : argF [I (vars), vl, I (k)] 1 = vl := rfl
 have y2 : argF [I (vars), vl, I (k)] 2 = I (k) := rfl
 generalize argF [I (vars), vl, I (k)] = f0 at *
 refine wpF_seq ?_
 refine wpF_region ?_
 refine lo rfl ?_
 refine e_alloc rfl Try.zeroValue26 hS0 (fun g1 H2 hS3 hxx => ?_)
 refine lo rfl ?_
 refine e_alloc rfl Try.zeroValue28 hS3 (fun g4 H5 hS6 hxx => ?_)
 refine wpL_nil ?_
 refine wpF_seq ?_
 refine wpF_seq ?_
 refine wpF_region ?_
 refine lm (v := I (vars)) rfl rfl y0 ?_
 refine lm (v := vl) rfl rfl y1 ?_
 refine lm (v := I (k)) rfl rfl y2 ?_
 refine lo rfl ?_
 refine e_call rfl Try.call20 (arr3 (v0 := I (vars)) (v1 := vl) (v2 := I (k)) rfl rfl rfl) (counted_C vl l vars k (hS6.rdN 2 rfl) (by omega) hl8 hok (by omega)) ?_
 rintro _ H7 ⟨hxx, rfl⟩
 have hS8 := hS6.ext hxx
 refine lo rfl ?_
 refine e_alloc rfl Try.zeroValue28 hS8 (fun g10 H11 hS12 hxx => ?_)
 refine lo rfl ?_
 refine e_storeBlkA (cs' := #[I (0), I (0)]) rfl rfl rfl Try.sizeOf28 rfl rfl (fa rfl (fa rfl fe)) hS12 (fun H13 hS14 hxx => ?_)
 refine wpL_nil ?_
 refine wpF_seq ?_
 refine wpF_region ?_
 refine lq rfl (q_fieldAddr rfl Try.underlying28 rfl Try.sizeOf3 rfl) ?_
 refine lq rfl (q_loadBlk rfl rfl Try.isAgg3 (hS14.blk 0 rfl) rfl (fun h => h)) ?_
 refine lq rfl (q_neq rfl rfl rfl) ?_
 refine wpL_nil ?_
 refine wpF_condF (Eq.trans rfl (congrArg B (decide_eq_false (by decide)))) ?_
 refine wpF_skip ?_
 refine wpF_seq ?_
 refine wpF_block ?_
 refine wpF_seq ?_
 refine wpF_region ?_
 refine lm (v := I (k)) rfl rfl y2 ?_
 refine lq rfl (q_eql rfl rfl rfl) ?_
 refine la (v := B (decide (k = 0))) rfl rfl rfl ?_
 refine wpL_nil ?_
 refine wpF_condP rfl (fun h18 => ?t42) (fun h18 => ?e42)
 case t42 =>
  refine wpF_seq ?_
  refine wpF_region ?_
  refine lm (v := I (vars)) rfl rfl y0 ?_
  refine lq rfl (q_build (v := Vg #[I (vars), nS]) rfl (par1 (v0 := I (vars)) rfl) (fun w__ => by kernel_rfl)) ?_
  refine lq rfl (q_build (v := Vg #[I (0), I (0)]) rfl par0 (fun w__ => by kernel_rfl)) ?_
  refine lo rfl ?_
  refine e_storeBlkA (cs' := #[I (vars), nS]) rfl rfl rfl Try.sizeOf26 rfl rfl (fa rfl (fa rfl fe)) (hS14.front 2 rfl) (fun H16 hS17 hxx => ?_)
  refine lo rfl ?_
  refine e_storeBlkA (cs' := #[I (0), I (0)]) rfl rfl rfl Try.sizeOf28 rfl rfl (fa rfl (fa rfl fe)) (hS17.front 2 rfl) (fun H18 hS19 hxx => ?_)
  refine wpL_nil ?_
  refine wpF_ret ?_
  refine ⟨_, resC rfl (loadV_blkA Try.isAgg26 Try.sizeOf26 rfl (hS19.blk 1 rfl)) (resC rfl (loadV_blkA Try.isAgg28 Try.sizeOf28 rfl (hS19.blk 0 rfl)) (resN)), hS19.frame, ?_⟩
  show ∃ w_, (Value.tuple #[Vg #[I (vars), nS], Vg #[I (0), I (0)]]) = Value.tuple #[Vg #[I vars, w_], Vg #[I (0), I (0)]] ∧ Rd (SZ S H0) H18 w_ (atLeast l n)
  have hq_ : atLeast l n = [] := if_pos (by omega)
  exact ⟨_, rfl, by rw [hq_]; exact rdNil⟩
 refine wpF_seq ?_
 refine wpF_region ?_
 refine lm (v := I (k)) rfl rfl y2 ?_
 refine lm (v := vl) rfl rfl y1 ?_
 refine lq rfl (q_lenRd rfl Try.underlying22 rfl (hS14.rdl 3 rfl)) ?_
 refine lq rfl (q_gtr rfl rfl rfl) ?_
 refine la (v := B (decide ((l.length : Int) < k))) rfl rfl rfl ?_
 refine wpL_nil ?_
 refine wpF_condP rfl (fun h24 => ?t41) (fun h24 => ?e41)
 case t41 =>
  refine wpF_seq ?_
  refine wpF_region ?_
  refine lm (v := I (vars)) rfl rfl y0 ?_
  refine lo rfl ?_
  refine e_buildSlice (vs := []) (xs := ([] : List Int)) rfl Try.underlying22 Try.zeroValue3 rfl Try.sizeOf3 par0 rfl hS14 (RdVs.nil) (by decide) (by decide) (fun v21 H22 hS23 hxx hvv21 => ?_)
  have hS24 : St H0 NoB (SZ S H0) [rdE v21 ([] : List Int), bE g10 #[I (0), I (0)] 28, bE g4 #[I (0), I (0)] 28, bE g1 #[I (0), nS] 26, rdE vl l] H22 := St.fin hS23
  refine lo rfl ?_
  refine e_buildSlice (vs := [v21]) (xs := ([[]] : List (List Int))) rfl Try.underlying24 Try.zeroValue22 rfl Try.sizeOf22 (par1 (v0 := v21) rfl) rfl hS24 (RdVs.cons (hS24.rdS 0 rfl) (RdVs.nil)) (by decide) (by decide) (fun v25 H26 hS27 hxx hvv25 => ?_)
  refine lq rfl (q_build (v := Vg #[I (vars), v25]) rfl (par2 (v0 := I (vars)) (v1 := v25) rfl rfl) ((hS27.rowl 0 rfl).slc (fun zz0 => ∀ w__, (Instr.build 26 #[(0, I (vars)), (1, zz0)]).run Try.prog w__ = .ok (Vg #[I (vars), zz0]) w__) (fun a0 n0 c0 => (fun w__ => by kernel_rfl)))) ?_
  refine lq rfl (q_build (v := Vg #[I (0), I (0)]) rfl par0 (fun w__ => by kernel_rfl)) ?_
  refine lo rfl ?_
  refine e_storeBlkA (cs' := #[I (vars), v25]) rfl rfl rfl Try.sizeOf26 rfl rfl (fa rfl (fa ((oneCell_rdL (hS27.rowl 0 rfl))) fe)) (hS27.front 4 rfl) (fun H28 hS29 hxx => ?_)
  refine lo rfl ?_
  refine e_storeBlkA (cs' := #[I (0), I (0)]) rfl rfl rfl Try.sizeOf28 rfl rfl (fa rfl (fa rfl fe)) (hS29.front 4 rfl) (fun H30 hS31 hxx => ?_)
  refine wpL_nil ?_
  refine wpF_ret ?_
  refine ⟨_, resC rfl (loadV_blkA Try.isAgg26 Try.sizeOf26 rfl (hS31.blk 1 rfl)) (resC rfl (loadV_blkA Try.isAgg28 Try.sizeOf28 rfl (hS31.blk 0 rfl)) (resN)), hS31.frame, ?_⟩
  show ∃ w_, (Value.tuple #[Vg #[I (vars), v25], Vg #[I (0), I (0)]]) = Value.tuple #[Vg #[I vars, w_], Vg #[I (0), I (0)]] ∧ Rd (SZ S H0) H30 w_ (atLeast l n)
  have hS32 : St H0 NoB (SZ S H0) [rdE v25 ([[]] : List (List Int)), bE g4 #[I (0), I (0)] 28, bE g1 #[I (vars), v25] 26, rdE v21 ([] : List Int), bE g10 #[I (0), I (0)] 28, rdE vl l] H30 := St.fin (hS31.front 2 rfl)
  have hq_ : atLeast l n = [[]] := by rw [atLeast, if_neg (by omega), if_pos (by omega)]
  exact ⟨_, rfl, by rw [hq_]; exact (hS32.result (hS32.rdS 0 rfl))⟩
 refine wpF_skip ?_
 refine wpF_seq ?_
 refine wpF_region ?_
 refine lm (v := I (vars)) rfl rfl y0 ?_
 refine lm (v := vl) rfl rfl y1 ?_
 refine lm (v := vl) rfl rfl y1 ?_
 refine lq rfl (q_lenRd rfl Try.underlying22 rfl (hS14.rdl 3 rfl)) ?_
 refine lm (v := I (k)) rfl rfl y2 ?_
 refine lq rfl (q_sub rfl rfl rfl (by constructor <;> omega)) ?_
 refine lq rfl (q_add rfl rfl rfl (by constructor <;> omega)) ?_
 refine lo rfl ?_
 refine e_call rfl Try.call21 (arr2 (v0 := vl) (v1 := I (((l.length : Int) - k) + 1)) rfl rfl) (some_C vl l (((l.length : Int) - k) + 1) (l.length - n + 1) (hS14.rdS 3 rfl) hl8 (by omega)) ?_
 rintro r33 H34 ⟨hxx, hrr33⟩
 have hS35 := hS14.res hxx hrr33
 refine lq rfl (q_build (v := Vg #[I (vars), r33]) rfl (par2 (v0 := I (vars)) (v1 := r33) rfl rfl) ((hS35.rdl 0 rfl).slc (fun zz0 => ∀ w__, (Instr.build 26 #[(0, I (vars)), (1, zz0)]).run Try.prog w__ = .ok (Vg #[I (vars), zz0]) w__) (fun a0 n0 c0 => (fun w__ => by kernel_rfl)))) ?_
 refine lq rfl (q_build (v := Vg #[I (0), I (0)]) rfl par0 (fun w__ => by kernel_rfl)) ?_
 refine lo rfl ?_
 refine e_storeBlkA (cs' := #[I (vars), r33]) rfl rfl rfl Try.sizeOf26 rfl rfl (fa rfl (fa ((oneCell_rdL (hS35.rdl 0 rfl))) fe)) (hS35.front 3 rfl) (fun H37 hS38 hxx => ?_)
 refine lo rfl ?_
 refine e_storeBlkA (cs' := #[I (0), I (0)]) rfl rfl rfl Try.sizeOf28 rfl rfl (fa rfl (fa rfl fe)) (hS38.front 3 rfl) (fun H39 hS40 hxx => ?_)
 refine wpL_nil ?_
 refine wpF_ret ?_
 refine ⟨_, resC rfl (loadV_blkA Try.isAgg26 Try.sizeOf26 rfl (hS40.blk 1 rfl)) (resC rfl (loadV_blkA Try.isAgg28 Try.sizeOf28 rfl (hS40.blk 0 rfl)) (resN)), hS40.frame, ?_⟩
 show ∃ w_, (Value.tuple #[Vg #[I (vars), r33], Vg #[I (0), I (0)]]) = Value.tuple #[Vg #[I vars, w_], Vg #[I (0), I (0)]] ∧ Rd (SZ S H0) H39 w_ (atLeast l n)
 have hq_ : atLeast l n = someL l (l.length - n + 1) := by rw [atLeast, if_neg (by omega), if_neg (by omega)]
 exact ⟨_, rfl, by rw [hq_]; exact (hS40.result (hS40.rdS 2 rfl))⟩
set_option maxRecDepth 100000 in
theorem options_C {H0 : Heap} (n : Int) (hn6 : In64 n) : CallsH Try.prog 9 #[I (n)] H0 (fun rv_ H' => Ext NoB H0 H' ∧ ∃ s_ r_ q_ p_, rv_ = Vg #[I s_, I r_, I q_, I p_] ∧ (0 ≤ s_ ∧ s_ ≤ 1000) ∧ (0 ≤ r_ ∧ r_ ≤ 1000000) ∧ (0 ≤ q_ ∧ q_ ≤ 1000000) ∧ (0 ≤ p_ ∧ p_ ≤ 2)) := by
 obtain ⟨hn7, hn8⟩ := hn6
 have hS0 : St H0 NoB NoB [] H0 := St.start (fun _ h => h.elim)
 refine callsH_of_wpF (args := [I (n)]) (rs := [.cell 2 38]) Try.func9 rfl Try.ntmps9 Try.results9 (by kernel_rfl) (Nat.le_of_ble_eq_true rfl) ?_
 have y0 : argF [I (n)] 0 = I (n) := rfl
 generalize argF [I (n)] = f0 at *
 refine wpF_seq ?_
 refine wpF_region ?_
 refine lo rfl ?_
 refine e_alloc rfl Try.zeroValue38 hS0 (fun g1 H2 hS3 hxx => ?_)
 refine wpL_nil ?_
 refine wpF_seq ?_
 refine wpF_region ?_
 refine lm (v := I (n)) rfl rfl y0 ?_
 refine lo rfl ?_
 refine e_call rfl Try.call5 (arr2 (v0 := I (n)) (v1 := I (1001)) rfl rfl) (Picked n 1001 (by omega)) ?_
 rintro _ H5 ⟨hxx, rfl, pk4⟩
 have hS6 := hS3.ext hxx
 refine lm (v := I (n)) rfl rfl y0 ?_
 refine lq rfl (q_quo rfl rfl rfl (by first | assumption | omega) (by omega)) ?_
 refine lo rfl ?_
 refine e_call rfl Try.call5 (arr2 (v0 := I (n.tdiv 7)) (v1 := I (4)) rfl rfl) (Picked (n.tdiv 7) 4 (by omega)) ?_
 rintro _ H9 ⟨hxx, rfl, pk8⟩
 have hS10 := hS6.ext hxx
 refine lm (v := I (n)) rfl rfl y0 ?_
 refine lq rfl (q_quo rfl rfl rfl (by first | assumption | omega) (by omega)) ?_
 refine lo rfl ?_
 refine e_call rfl Try.call5 (arr2 (v0 := I (n.tdiv 28)) (v1 := I (3)) rfl rfl) (Picked (n.tdiv 28) 3 (by omega)) ?_
 rintro _ H13 ⟨hxx, rfl, pk12⟩
 have hS14 := hS10.ext hxx
 refine lq rfl (q_mul rfl rfl rfl (by constructor <;> omega)) ?_
 refine lm (v := I (n)) rfl rfl y0 ?_
 refine lq rfl (q_quo rfl rfl rfl (by first | assumption | omega) (by omega)) ?_
 refine lo rfl ?_
 refine e_call rfl Try.call5 (arr2 (v0 := I (n.tdiv 84)) (v1 := I (3)) rfl rfl) (Picked (n.tdiv 84) 3 (by omega)) ?_
 rintro _ H17 ⟨hxx, rfl, pk16⟩
 have hS18 := hS14.ext hxx
 refine lq rfl (q_build (v := Vg #[I (pickI n 1001), I (pickI (n.tdiv 7) 4), I ((pickI (n.tdiv 28) 3) * 5), I (pickI (n.tdiv 84) 3)]) rfl (par4 (v0 := I (pickI n 1001)) (v1 := I (pickI (n.tdiv 7) 4)) (v2 := I ((pickI (n.tdiv 28) 3) * 5)) (v3 := I (pickI (n.tdiv 84) 3)) rfl rfl rfl rfl) (fun w__ => by kernel_rfl)) ?_
 refine lo rfl ?_
 refine e_storeBlkA (cs' := #[I (pickI n 1001), I (pickI (n.tdiv 7) 4), I ((pickI (n.tdiv 28) 3) * 5), I (pickI (n.tdiv 84) 3)]) rfl rfl rfl Try.sizeOf38 rfl rfl (fa rfl (fa rfl (fa rfl (fa rfl fe)))) hS18 (fun H20 hS21 hxx => ?_)
 refine wpL_nil ?_
 refine wpF_ret ?_
 refine ⟨_, resC rfl (loadV_blkA Try.isAgg38 Try.sizeOf38 rfl (hS21.blk 0 rfl)) (resN), hS21.frame, ?_⟩
 show ∃ s_ r_ q_ p_, (Vg #[I (pickI n 1001), I (pickI (n.tdiv 7) 4), I ((pickI (n.tdiv 28) 3) * 5), I (pickI (n.tdiv 84) 3)]) = Vg #[I s_, I r_, I q_, I p_] ∧ (0 ≤ s_ ∧ s_ ≤ 1000) ∧ (0 ≤ r_ ∧ r_ ≤ 1000000) ∧ (0 ≤ q_ ∧ q_ ≤ 1000000) ∧ (0 ≤ p_ ∧ p_ ≤ 2)
 exact ⟨_, _, _, _, rfl, by omega, by omega, by omega, by omega⟩
end Go.Um
