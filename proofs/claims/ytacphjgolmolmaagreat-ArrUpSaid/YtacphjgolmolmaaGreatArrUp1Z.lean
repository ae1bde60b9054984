import Derived.Test.YtacphjgolmolmaaGreatProg
import Derived.Test.YtacphjgolmolmaaGreatUpC2Z
import Derived.Test.YtacphjgolmolmaaGreatUmArrUpB
namespace Go.Um
open Go.Proofs
open GoT (sz ag rdc)
open KeyT (kv)
set_option maxHeartbeats 8000000 in
set_option maxRecDepth 100000 in
theorem ArrUp_L {H0 : Heap} (vD vN vH vM : Value) (a : Ask) (w : Wld) (rvD : Rd NoB H0 vD a.Decls) (rvN : Rd NoB H0 vN a.Nodes) (rvH : Rd NoB H0 vH a.Hold) (rvM : Rd NoB H0 vM w.Means) : CallsH Tryz.prog 3 #[Vg #[vD, vN, vH], Vg #[vM]] H0 (fun rv_ H' => Ext NoB H0 H' ∧ rv_ = B true) := by
 have hsD : a.Decls.length * 48 ≤ 140737488355328 := (Rd.list.1 rvD).bound
 have hsN : a.Nodes.length * 64 ≤ 140737488355328 := (Rd.list.1 rvN).bound
 have hsM : w.Means.length * 72 ≤ 140737488355328 := (Rd.list.1 rvM).bound
 have hS0 : St H0 NoB NoB [rdE vD a.Decls, rdE vN a.Nodes, rdE vH a.Hold, rdE vM w.Means] H0 := St.arg (St.arg (St.arg (St.arg (St.start (fun _ h => h.elim)) (Bl0.nil) rvM (fun _ h => h)) (Bl0.cons (Bl0.nil)) rvH (fun _ h => h)) (Bl0.cons (Bl0.cons (Bl0.nil))) rvN (fun _ h => h)) (Bl0.cons (Bl0.cons (Bl0.cons (Bl0.nil)))) rvD (fun _ h => h)
 refine callsH_of_wpF (args := [Vg #[vD, vN, vH], Vg #[vM]]) (rs := [.tmp 4]) Tryz.func3 rfl Tryz.ntmps3 Tryz.results3 (by kernel_rfl) (Nat.le_of_ble_eq_true rfl) ?_
 have y0 : argF [Vg #[vD, vN, vH], Vg #[vM]] 0 = Vg #[vD, vN, vH] := rfl
 have y1 : argF [Vg #[vD, vN, vH], Vg #[vM]] 1 = Vg #[vM] := rfl
 generalize argF [Vg #[vD, vN, vH], Vg #[vM]] = f0 at *
 refine wpF_seq ?_
 refine wpF_region ?_
 refine lo rfl ?_
 refine e_box (v := Vg #[vD, vN, vH]) rfl y0 hS0 (fun g1 H2 hS3 hxx => ?_)
 refine lo rfl ?_
 refine e_box (v := Vg #[vM]) rfl y1 hS3 (fun g4 H5 hS6 hxx => ?_)
 refine la (v := B (false)) rfl rfl rfl ?_
 refine wpL_nil ?_
 refine wpF_seq ?_
 refine wpF_region ?_
 refine lo rfl ?_
 refine e_call rfl Tryz.call4 arr0 (arrFact_L) ?_
 rintro _ H7 ⟨hxx, rfl⟩
 have hS8 := hS6.ext hxx
 refine la (v := B (true)) rfl rfl rfl ?_
 refine wpL_nil ?_
 refine wpF_seq ?_
 refine wpF_seq ?_
 refine wpF_region ?_
 refine lm (v := B (true)) rfl rfl rfl ?_
 refine lq rfl (q_not rfl rfl) ?_
 refine wpL_nil ?_
 refine wpF_condF rfl ?_
 refine wpF_skip ?_
 refine wpF_seq ?_
 refine wpF_region ?_
 refine lq rfl (q_loadBlkA rfl rfl Tryz.isAgg26 Tryz.sizeOf26 rfl (hS8.blk 1 rfl) (fun h => h)) ?_
 refine lo rfl ?_
 refine e_call rfl Tryz.call5 (arr1 (v0 := Vg #[vD, vN, vH]) rfl) (Do_L vD vN vH a (hS8.rdS 2 rfl) (hS8.rdS 3 rfl) (hS8.rdS 4 rfl)) ?_
 rintro _ H13 ⟨hxx, r10, r11, r12, rfl, hrr10, hrr11, hrr12⟩
 have hS14 := ((((hS8.ext hxx).rd (hrr12.sub fun b hb => ⟨hb, SL.lt hS8 hb⟩)).rd (hrr11.sub fun b hb => ⟨(SL_rd hb), SL.lt hS8 (SL_rd hb)⟩)).rd (hrr10.sub fun b hb => ⟨(SL_rd (SL_rd hb)), SL.lt hS8 (SL_rd (SL_rd hb))⟩))
 refine lm (v := Value.tuple #[Vg #[r10, r11, r12], Vg #[I ((doF a).1), I ((doF a).2)]]) rfl rfl rfl ?_
 refine lq rfl (q_extract (vs := #[Vg #[r10, r11, r12], Vg #[I ((doF a).1), I ((doF a).2)]]) (v := Vg #[r10, r11, r12]) rfl rfl rfl) ?_
 refine lq rfl (q_extract (vs := #[Vg #[r10, r11, r12], Vg #[I ((doF a).1), I ((doF a).2)]]) (v := Vg #[I ((doF a).1), I ((doF a).2)]) rfl rfl rfl) ?_
 refine lo rfl ?_
 refine e_alloc rfl Tryz.zeroValue26 hS14 (fun g16 H17 hS18 hxx => ?_)
 refine lo rfl ?_
 refine e_alloc rfl Tryz.zeroValue32 hS18 (fun g19 H20 hS21 hxx => ?_)
 refine lo rfl ?_
 refine e_storeBlkA (cs' := #[r10, r11, r12]) rfl rfl rfl Tryz.sizeOf26 rfl rfl (fa ((oneCell_rdL (hS21.rdl 2 rfl))) (fa ((oneCell_rdL (hS21.rdl 3 rfl))) (fa ((oneCell_rdL (hS21.rdl 4 rfl))) fe))) (hS21.front 1 rfl) (fun H22 hS23 hxx => ?_)
 refine lo rfl ?_
 refine e_storeBlkA (cs' := #[I ((doF a).1), I ((doF a).2)]) rfl rfl rfl Tryz.sizeOf32 rfl rfl (fa rfl (fa rfl fe)) (hS23.front 1 rfl) (fun H24 hS25 hxx => ?_)
 refine wpL_nil ?_
 refine wpF_seq ?_
 refine wpF_region ?_
 refine lq rfl (q_loadBlkA rfl rfl Tryz.isAgg26 Tryz.sizeOf26 rfl (hS25.blk 6 rfl) (fun h => h)) ?_
 refine lq rfl (q_loadBlkA rfl rfl Tryz.isAgg29 Tryz.sizeOf29 rfl (hS25.blk 5 rfl) (fun h => h)) ?_
 refine lo rfl ?_
 refine e_call rfl Tryz.call6 (arr2 (v0 := Vg #[vD, vN, vH]) (v1 := Vg #[vM]) rfl rfl) (Up_A vD vN vH vM a w (hS25.rdS 7 rfl) (hS25.rdS 8 rfl) (hS25.rdS 9 rfl) (hS25.rdS 10 rfl)) ?_
 rintro _ H27 ⟨hxx, r26, rfl, hrr26⟩
 have hS28 := ((hS25.ext hxx).rd (hrr26.sub fun b hb => ⟨hb, SL.lt hS25 hb⟩))
 refine lm (v := Value.tuple #[Vg #[r26], Vg #[I ((upF a w).1), I ((upF a w).2)]]) rfl rfl rfl ?_
 refine lq rfl (q_extract (vs := #[Vg #[r26], Vg #[I ((upF a w).1), I ((upF a w).2)]]) (v := Vg #[r26]) rfl rfl rfl) ?_
 refine lq rfl (q_extract (vs := #[Vg #[r26], Vg #[I ((upF a w).1), I ((upF a w).2)]]) (v := Vg #[I ((upF a w).1), I ((upF a w).2)]) rfl rfl rfl) ?_
 refine lo rfl ?_
 refine e_alloc rfl Tryz.zeroValue29 hS28 (fun g30 H31 hS32 hxx => ?_)
 refine lo rfl ?_
 refine e_alloc rfl Tryz.zeroValue32 hS32 (fun g33 H34 hS35 hxx => ?_)
 refine lo rfl ?_
 refine e_storeBlkA (cs' := #[r26]) rfl rfl rfl Tryz.sizeOf29 rfl rfl (fa ((oneCell_rdL (hS35.rdl 2 rfl))) fe) (hS35.front 1 rfl) (fun H36 hS37 hxx => ?_)
 refine lo rfl ?_
 refine e_storeBlkA (cs' := #[I ((upF a w).1), I ((upF a w).2)]) rfl rfl rfl Tryz.sizeOf32 rfl rfl (fa rfl (fa rfl fe)) (hS37.front 1 rfl) (fun H38 hS39 hxx => ?_)
 refine wpL_nil ?_
 refine wpF_seq ?_
 refine fcr (fun f H => f 2 = PT g1 0 ∧ f 3 = PT g4 0 ∧ f 6 = PT g16 0 ∧ f 7 = PT g19 0 ∧ f 8 = PT g30 0 ∧ f 9 = PT g33 0 ∧ f 35 = B (decide ((((doF a).1) ≠ 0) ∨ (((upF a w).1) ≠ 0))) ∧ H38 = H) ?_ ?_
 ·refine lq rfl (q_fieldAddr rfl Tryz.underlying32 rfl Tryz.sizeOf3 rfl) ?_
  refine lq rfl (q_loadBlk rfl rfl Tryz.isAgg3 (hS39.blk 3 rfl) rfl (fun h => h)) ?_
  refine lq rfl (q_neq rfl rfl rfl) ?_
  refine lm (v := B (decide (((doF a).1) ≠ 0))) rfl rfl rfl ?_
  by_cases hg40 : ((doF a).1) ≠ 0
  ·have hb41 := Eq.trans rfl (congrArg B (decide_eq_true hg40))
   refine wpL_gs rfl rfl rfl hb41 rfl ?_
   refine wpL_gs rfl rfl rfl hb41 rfl ?_
   refine wpL_gs rfl rfl rfl hb41 rfl ?_
   refine lq rfl (q_pickT (v := B (true)) rfl hb41 rfl) ?_
   exact ⟨rfl, rfl, rfl, rfl, rfl, rfl, (Eq.trans rfl (congrArg B ((decide_eq_true (Or.inl hg40)).symm))), rfl⟩
  ·have hb42 := Eq.trans rfl (congrArg B (decide_eq_false hg40))
   refine gq rfl rfl rfl hb42 (q_fieldAddr rfl Tryz.underlying32 rfl Tryz.sizeOf3 rfl) ?_
   refine gq rfl rfl rfl hb42 (q_loadBlk rfl rfl Tryz.isAgg3 (hS39.blk 0 rfl) rfl (fun h => h)) ?_
   refine gq rfl rfl rfl hb42 (q_neq rfl rfl rfl) ?_
   refine lq rfl (q_pickF (v := B (decide (((upF a w).1) ≠ 0))) rfl hb42 rfl) ?_
   exact ⟨rfl, rfl, rfl, rfl, rfl, rfl, (Eq.trans rfl (congrArg B (decide_congr_of ((Iff.rfl).trans (((or_iff_right hg40).trans Iff.rfl)).symm)))), rfl⟩
 rintro f43 _ ⟨y2, y3, y6, y7, y8, y9, y35, rfl⟩
 refine wpF_condP y35 (fun h35 => ?t92) (fun h35 => ?e92)
 case t92 =>
  refine fcr (fun f H => f 4 = B (decide ((((upF a w).1) = 0) ∨ ((((upW a w).Means).length : Int) = 0))) ∧ H38 = H) ?_ ?_
  ·refine lq rfl (q_fieldAddr rfl Tryz.underlying32 rfl Tryz.sizeOf3 y9) ?_
   refine lq rfl (q_loadBlk rfl rfl Tryz.isAgg3 (hS39.blk 0 rfl) rfl (fun h => h)) ?_
   refine lq rfl (q_eql rfl rfl rfl) ?_
   refine lm (v := B (decide (((upF a w).1) = 0))) rfl rfl rfl ?_
   by_cases hg45 : ((upF a w).1) = 0
   ·have hb46 := Eq.trans rfl (congrArg B (decide_eq_true hg45))
    refine wpL_gs rfl rfl rfl hb46 rfl ?_
    refine wpL_gs rfl rfl rfl hb46 rfl ?_
    refine wpL_gs rfl rfl rfl hb46 rfl ?_
    refine wpL_gs rfl rfl rfl hb46 rfl ?_
    refine lq rfl (q_pickT (v := B (true)) rfl hb46 rfl) ?_
    refine la (v := B (true)) rfl rfl rfl ?_
    exact ⟨(Eq.trans rfl (congrArg B ((decide_eq_true (Or.inl hg45)).symm))), rfl⟩
   ·have hb47 := Eq.trans rfl (congrArg B (decide_eq_false hg45))
    refine gq rfl rfl rfl hb47 (q_fieldAddr rfl Tryz.underlying29 rfl Tryz.sizeOf27 y8) ?_
    refine gq rfl rfl rfl hb47 (q_loadBlk rfl rfl Tryz.isAgg27 (hS39.blk 1 rfl) rfl (fun h => h)) ?_
    refine gq rfl rfl rfl hb47 (q_lenRd rfl Tryz.underlying27 rfl (hS39.rdl 2 rfl)) ?_
    refine gq rfl rfl rfl hb47 (q_eql rfl rfl rfl) ?_
    refine lq rfl (q_pickF (v := B (decide ((((upW a w).Means).length : Int) = 0))) rfl hb47 rfl) ?_
    refine la (v := B (decide ((((upW a w).Means).length : Int) = 0))) rfl rfl rfl ?_
    exact ⟨(Eq.trans rfl (congrArg B (decide_congr_of ((Iff.rfl).trans (((or_iff_right hg45).trans Iff.rfl)).symm)))), rfl⟩
  clear y2 y3 y35 y6 y7 y8 y9
  rintro f48 _ ⟨y4, rfl⟩
  refine wpF_ret ?_
  refine ⟨_, resT y4 resN, hS39.frame, ?_⟩
  show (B (decide ((((upF a w).1) = 0) ∨ ((((upW a w).Means).length : Int) = 0)))) = B true
  exact congrArg B (decide_eq_true (Decidable.byCases (fun e => .inl e) fun e => .inr (upW_len e)))
 have hu : ¬ (upF a w).1 ≠ 0 := fun e => h35 (.inr e)
 obtain ⟨u1, u2, u3⟩ := up_fact hu
 refine wpF_skip ?_
 refine wpF_seq ?_
 refine wpF_seq ?_
 refine wpF_region ?_
 refine lq rfl (q_loadBlkA rfl y2 Tryz.isAgg26 Tryz.sizeOf26 rfl (hS39.blk 9 rfl) (fun h => h)) ?_
 refine lq rfl (q_loadBlkA rfl y8 Tryz.isAgg29 Tryz.sizeOf29 rfl (hS39.blk 1 rfl) (fun h => h)) ?_
 refine lo rfl ?_
 refine e_call rfl Tryz.call7 (arr2 (v0 := Vg #[vD, vN, vH]) (v1 := Vg #[r26]) rfl rfl) (Check_M vD vN vH r26 a (upW a w) (hS39.rdN 10 rfl) (hS39.rdN 11 rfl) (hS39.rdN 12 rfl) (hS39.rdN 2 rfl) ) ?_
 rintro _ H49 ⟨hxx, rfl⟩
 have hS50 := hS39.ext hxx
 refine lq rfl (q_field (cs := #[I (((meanF a (upW a w))).1), I (((meanF a (upW a w))).2)]) (v := I (((meanF a (upW a w))).1)) rfl Tryz.underlying32 rfl Tryz.isAgg3 rfl rfl) ?_
 refine lq rfl (q_neq rfl rfl rfl) ?_
 refine wpL_nil ?_
 refine wpF_condP rfl (fun h49 => ?t91) (fun h49 => ?e91)
 case t91 =>
  refine wpF_seq ?_
  refine wpF_region ?_
  refine la (v := B (false)) rfl rfl rfl ?_
  refine wpL_nil ?_
  refine wpF_ret ?_
  refine ⟨_, resT rfl resN, hS50.frame, ?_⟩
  show (B (false)) = B true
  exact absurd u1 h49
 refine wpF_skip ?_
 refine wpF_seq ?_
 refine wpF_region ?_
 refine lq rfl (q_loadBlkA rfl y2 Tryz.isAgg26 Tryz.sizeOf26 rfl (hS50.blk 9 rfl) (fun h => h)) ?_
 refine lq rfl (q_loadBlkA rfl y8 Tryz.isAgg29 Tryz.sizeOf29 rfl (hS50.blk 1 rfl) (fun h => h)) ?_
 refine lo rfl ?_
 refine e_call rfl Tryz.call8 (arr2 (v0 := Vg #[vD, vN, vH]) (v1 := Vg #[r26]) rfl rfl) (Holds_M vD vN vH r26 a (upW a w) (hS50.rdN 10 rfl) (hS50.rdN 11 rfl) (hS50.rdN 12 rfl) (hS50.rdN 2 rfl)) ?_
 rintro _ H53 ⟨hxx, rfl⟩
 have hS54 := hS50.ext hxx
 refine lm (v := Value.tuple #[B (holdsB a (upW a w)), Vg #[I ((valF a (upW a w)).1), I ((valF a (upW a w)).2)]]) rfl rfl rfl ?_
 refine lq rfl (q_extract (vs := #[B (holdsB a (upW a w)), Vg #[I ((valF a (upW a w)).1), I ((valF a (upW a w)).2)]]) (v := B (holdsB a (upW a w))) rfl rfl rfl) ?_
 refine lq rfl (q_extract (vs := #[B (holdsB a (upW a w)), Vg #[I ((valF a (upW a w)).1), I ((valF a (upW a w)).2)]]) (v := Vg #[I ((valF a (upW a w)).1), I ((valF a (upW a w)).2)]) rfl rfl rfl) ?_
 refine la (v := B (holdsB a (upW a w))) rfl rfl rfl ?_
 refine lo rfl ?_
 refine e_storeBlkA (cs' := #[I ((valF a (upW a w)).1), I ((valF a (upW a w)).2)]) rfl y7 rfl Tryz.sizeOf32 rfl rfl (fa rfl (fa rfl fe)) (hS54.front 3 rfl) (fun H56 hS57 hxx => ?_)
 refine wpL_nil ?_
 refine wpF_seq ?_
 refine wpF_region ?_
 refine lq rfl (q_loadBlkA rfl y6 Tryz.isAgg26 Tryz.sizeOf26 rfl (hS57.blk 4 rfl) (fun h => h)) ?_
 refine lq rfl (q_loadBlkA rfl y3 Tryz.isAgg29 Tryz.sizeOf29 rfl (hS57.blk 8 rfl) (fun h => h)) ?_
 refine lo rfl ?_
 refine e_call rfl Tryz.call8 (arr2 (v0 := Vg #[r10, r11, r12]) (v1 := Vg #[vM]) rfl rfl) (Holds_M r10 r11 r12 vM (doA a) w (hS57.rdN 5 rfl) (hS57.rdN 6 rfl) (hS57.rdN 7 rfl) (hS57.rdN 13 rfl)) ?_
 rintro _ H58 ⟨hxx, rfl⟩
 have hS59 := hS57.ext hxx
 refine lm (v := Value.tuple #[B (holdsB (doA a) w), Vg #[I ((valF (doA a) w).1), I ((valF (doA a) w).2)]]) rfl rfl rfl ?_
 refine lq rfl (q_extract (vs := #[B (holdsB (doA a) w), Vg #[I ((valF (doA a) w).1), I ((valF (doA a) w).2)]]) (v := B (holdsB (doA a) w)) rfl rfl rfl) ?_
 refine lq rfl (q_extract (vs := #[B (holdsB (doA a) w), Vg #[I ((valF (doA a) w).1), I ((valF (doA a) w).2)]]) (v := Vg #[I ((valF (doA a) w).1), I ((valF (doA a) w).2)]) rfl rfl rfl) ?_
 refine la (v := B (holdsB (doA a) w)) rfl rfl rfl ?_
 refine lo rfl ?_
 refine e_storeBlkA (cs' := #[I ((valF (doA a) w).1), I ((valF (doA a) w).2)]) rfl y9 rfl Tryz.sizeOf32 rfl rfl (fa rfl (fa rfl fe)) (hS59.front 1 rfl) (fun H61 hS62 hxx => ?_)
 refine wpL_nil ?_
 refine wpF_seq ?_
 refine fcr (fun f H => f 2 = PT g1 0 ∧ f 6 = PT g16 0 ∧ f 7 = PT g19 0 ∧ f 8 = PT g30 0 ∧ f 9 = PT g33 0 ∧ f 11 = B (holdsB (doA a) w) ∧ f 73 = B (decide (((decide (((valF a (upW a w)).1) = 0)) ≠ (decide (((valF (doA a) w).1) = 0))) ∨ ((holdsB a (upW a w)) ≠ (holdsB (doA a) w)))) ∧ H61 = H) ?_ ?_
 ·refine lq rfl (q_fieldAddr rfl Tryz.underlying32 rfl Tryz.sizeOf3 y7) ?_
  refine lq rfl (q_loadBlk rfl rfl Tryz.isAgg3 (hS62.blk 1 rfl) rfl (fun h => h)) ?_
  refine lq rfl (q_eql rfl rfl rfl) ?_
  refine lq rfl (q_fieldAddr rfl Tryz.underlying32 rfl Tryz.sizeOf3 y9) ?_
  refine lq rfl (q_loadBlk rfl rfl Tryz.isAgg3 (hS62.blk 0 rfl) rfl (fun h => h)) ?_
  refine lq rfl (q_eql rfl rfl rfl) ?_
  refine lq rfl (q_neqB rfl Tryz.underlying4 rfl rfl) ?_
  refine lm (v := B (decide ((decide (((valF a (upW a w)).1) = 0)) ≠ (decide (((valF (doA a) w).1) = 0))))) rfl rfl rfl ?_
  by_cases hg63 : (decide (((valF a (upW a w)).1) = 0)) ≠ (decide (((valF (doA a) w).1) = 0))
  ·have hb64 := Eq.trans rfl (congrArg B (decide_eq_true hg63))
   refine wpL_gs rfl rfl rfl hb64 rfl ?_
   refine wpL_gs rfl rfl rfl hb64 rfl ?_
   refine wpL_gs rfl rfl rfl hb64 rfl ?_
   refine lq rfl (q_pickT (v := B (true)) rfl hb64 rfl) ?_
   exact ⟨y2, y6, y7, y8, y9, rfl, (Eq.trans rfl (congrArg B ((decide_eq_true (Or.inl hg63)).symm))), rfl⟩
  ·have hb65 := Eq.trans rfl (congrArg B (decide_eq_false hg63))
   refine gq rfl rfl rfl hb65 (q_move (v := B (holdsB a (upW a w))) rfl rfl) ?_
   refine gq rfl rfl rfl hb65 (q_move (v := B (holdsB (doA a) w)) rfl rfl) ?_
   refine gq rfl rfl rfl hb65 (q_neqB rfl Tryz.underlying4 rfl rfl) ?_
   refine lq rfl (q_pickF (v := B (decide ((holdsB a (upW a w)) ≠ (holdsB (doA a) w)))) rfl hb65 rfl) ?_
   exact ⟨y2, y6, y7, y8, y9, rfl, (Eq.trans rfl (congrArg B (decide_congr_of ((Iff.rfl).trans (((or_iff_right hg63).trans Iff.rfl)).symm)))), rfl⟩
 clear y2 y6 y7 y8 y9
 rintro f66 _ ⟨y2, y6, y7, y8, y9, y11, y73, rfl⟩
 refine wpF_condP y73 (fun h73 => ?t90) (fun h73 => ?e90)
 case t90 =>
  refine wpF_seq ?_
  refine wpF_region ?_
  refine la (v := B (false)) rfl rfl rfl ?_
  refine wpL_nil ?_
  refine wpF_ret ?_
  refine ⟨_, resT rfl resN, hS62.frame, ?_⟩
  show (B (false)) = B true
  exact (h73.elim (fun e => e (decide_eq_decide.2 u2)) fun e => e u3).elim
 refine wpF_skip ?_
 refine wpF_seq ?_
 refine wpF_region ?_
 refine lq rfl (q_loadBlkA rfl y2 Tryz.isAgg26 Tryz.sizeOf26 rfl (hS62.blk 9 rfl) (fun h => h)) ?_
 refine lq rfl (q_loadBlkA rfl y8 Tryz.isAgg29 Tryz.sizeOf29 rfl (hS62.blk 2 rfl) (fun h => h)) ?_
 refine lo rfl ?_
 refine e_call rfl Tryz.call9 (arr2 (v0 := Vg #[vD, vN, vH]) (v1 := Vg #[r26]) rfl rfl) (Down_A vD vN vH r26 a (upW a w) (hS62.rdS 10 rfl) (hS62.rdS 11 rfl) (hS62.rdS 12 rfl) (hS62.rdS 3 rfl)) ?_
 rintro _ H69 ⟨hxx, r68, rfl, hrr68⟩
 have hS70 := ((hS62.ext hxx).rd (hrr68.sub fun b hb => ⟨hb, SL.lt hS62 hb⟩))
 refine lm (v := Value.tuple #[Vg #[r68], Vg #[I ((downF a (upW a w)).1), I ((downF a (upW a w)).2)]]) rfl rfl rfl ?_
 refine lq rfl (q_extract (vs := #[Vg #[r68], Vg #[I ((downF a (upW a w)).1), I ((downF a (upW a w)).2)]]) (v := Vg #[r68]) rfl rfl rfl) ?_
 refine lq rfl (q_extract (vs := #[Vg #[r68], Vg #[I ((downF a (upW a w)).1), I ((downF a (upW a w)).2)]]) (v := Vg #[I ((downF a (upW a w)).1), I ((downF a (upW a w)).2)]) rfl rfl rfl) ?_
 refine lo rfl ?_
 refine e_alloc rfl Tryz.zeroValue29 hS70 (fun g72 H73 hS74 hxx => ?_)
 refine lo rfl ?_
 refine e_storeBlkA (cs' := #[r68]) rfl rfl rfl Tryz.sizeOf29 rfl rfl (fa ((oneCell_rdL (hS74.rdl 1 rfl))) fe) hS74 (fun H75 hS76 hxx => ?_)
 refine lo rfl ?_
 refine e_storeBlkA (cs' := #[I ((downF a (upW a w)).1), I ((downF a (upW a w)).2)]) rfl y7 rfl Tryz.sizeOf32 rfl rfl (fa rfl (fa rfl fe)) (hS76.front 3 rfl) (fun H77 hS78 hxx => ?_)
 refine wpL_nil ?_
 refine wpF_seq ?_
 refine wpF_seq ?_
 refine wpF_region ?_
 refine lq rfl (q_fieldAddr rfl Tryz.underlying32 rfl Tryz.sizeOf3 y7) ?_
 refine lq rfl (q_loadBlk rfl rfl Tryz.isAgg3 (hS78.blk 0 rfl) rfl (fun h => h)) ?_
 refine lq rfl (q_neq rfl rfl rfl) ?_
 refine wpL_nil ?_
 refine wpF_condP rfl (fun h82 => ?t89) (fun h82 => ?e89)
 case t89 =>
  refine wpF_seq ?_
  refine wpF_region ?_
  refine lq rfl (q_fieldAddr rfl Tryz.underlying32 rfl Tryz.sizeOf3 y7) ?_
  refine lq rfl (q_loadBlk rfl rfl Tryz.isAgg3 (hS78.blk 0 rfl) rfl (fun h => h)) ?_
  refine lq rfl (q_eql rfl rfl rfl) ?_
  refine la (v := B (decide (((downF a (upW a w)).1) = 10))) rfl rfl rfl ?_
  refine wpL_nil ?_
  refine wpF_ret ?_
  refine ⟨_, resT rfl resN, hS78.frame, ?_⟩
  show (B (decide (((downF a (upW a w)).1) = 10))) = B true
  exact congrArg B (decide_eq_true (down_much u1 h82))
 obtain ⟨d2, d3⟩ := up_down hu h82
 refine wpF_skip ?_
 refine wpF_seq ?_
 refine wpF_region ?_
 refine lq rfl (q_loadBlkA rfl y6 Tryz.isAgg26 Tryz.sizeOf26 rfl (hS78.blk 6 rfl) (fun h => h)) ?_
 refine lq rfl (q_loadBlkA rfl rfl Tryz.isAgg29 Tryz.sizeOf29 rfl (hS78.blk 1 rfl) (fun h => h)) ?_
 refine lo rfl ?_
 refine e_call rfl Tryz.call8 (arr2 (v0 := Vg #[r10, r11, r12]) (v1 := Vg #[r68]) rfl rfl) (Holds_M r10 r11 r12 r68 (doA a) (downW a (upW a w)) (hS78.rdN 7 rfl) (hS78.rdN 8 rfl) (hS78.rdN 9 rfl) (hS78.rdN 2 rfl)) ?_
 rintro _ H80 ⟨hxx, rfl⟩
 have hS81 := hS78.ext hxx
 refine lm (v := Value.tuple #[B (holdsB (doA a) (downW a (upW a w))), Vg #[I ((valF (doA a) (downW a (upW a w))).1), I ((valF (doA a) (downW a (upW a w))).2)]]) rfl rfl rfl ?_
 refine lq rfl (q_extract (vs := #[B (holdsB (doA a) (downW a (upW a w))), Vg #[I ((valF (doA a) (downW a (upW a w))).1), I ((valF (doA a) (downW a (upW a w))).2)]]) (v := B (holdsB (doA a) (downW a (upW a w)))) rfl rfl rfl) ?_
 refine lq rfl (q_extract (vs := #[B (holdsB (doA a) (downW a (upW a w))), Vg #[I ((valF (doA a) (downW a (upW a w))).1), I ((valF (doA a) (downW a (upW a w))).2)]]) (v := Vg #[I ((valF (doA a) (downW a (upW a w))).1), I ((valF (doA a) (downW a (upW a w))).2)]) rfl rfl rfl) ?_
 refine la (v := B (holdsB (doA a) (downW a (upW a w)))) rfl rfl rfl ?_
 refine lo rfl ?_
 refine e_storeBlkA (cs' := #[I ((valF (doA a) (downW a (upW a w))).1), I ((valF (doA a) (downW a (upW a w))).2)]) rfl y7 rfl Tryz.sizeOf32 rfl rfl (fa rfl (fa rfl fe)) hS81 (fun H83 hS84 hxx => ?_)
 refine wpL_nil ?_
 refine fcr (fun f H => f 4 = B (decide (((decide (((valF (doA a) (downW a (upW a w))).1) = 0)) = (decide (((valF (doA a) w).1) = 0))) ∧ ((holdsB (doA a) (downW a (upW a w))) = (holdsB (doA a) w)))) ∧ H83 = H) ?_ ?_
 ·refine lq rfl (q_fieldAddr rfl Tryz.underlying32 rfl Tryz.sizeOf3 y7) ?_
  refine lq rfl (q_loadBlk rfl rfl Tryz.isAgg3 (hS84.blk 0 rfl) rfl (fun h => h)) ?_
  refine lq rfl (q_eql rfl rfl rfl) ?_
  refine lq rfl (q_fieldAddr rfl Tryz.underlying32 rfl Tryz.sizeOf3 y9) ?_
  refine lq rfl (q_loadBlk rfl rfl Tryz.isAgg3 (hS84.blk 3 rfl) rfl (fun h => h)) ?_
  refine lq rfl (q_eql rfl rfl rfl) ?_
  refine lq rfl (q_eqlB rfl Tryz.underlying4 rfl rfl) ?_
  refine lm (v := B (decide ((decide (((valF (doA a) (downW a (upW a w))).1) = 0)) = (decide (((valF (doA a) w).1) = 0))))) rfl rfl rfl ?_
  by_cases hg85 : (decide (((valF (doA a) (downW a (upW a w))).1) = 0)) = (decide (((valF (doA a) w).1) = 0))
  ·have hb86 := Eq.trans rfl (congrArg B (decide_eq_true hg85))
   refine gq rfl rfl rfl hb86 (q_move (v := B (holdsB (doA a) (downW a (upW a w)))) rfl rfl) ?_
   refine gq rfl rfl rfl hb86 (q_move (v := B (holdsB (doA a) w)) rfl y11) ?_
   refine gq rfl rfl rfl hb86 (q_eqlB rfl Tryz.underlying4 rfl rfl) ?_
   refine lq rfl (q_pickT (v := B (decide ((holdsB (doA a) (downW a (upW a w))) = (holdsB (doA a) w)))) rfl hb86 rfl) ?_
   refine la (v := B (decide ((holdsB (doA a) (downW a (upW a w))) = (holdsB (doA a) w)))) rfl rfl rfl ?_
   exact ⟨(Eq.trans rfl (congrArg B (decide_congr_of ((Iff.rfl).trans (((and_iff_right hg85).trans Iff.rfl)).symm)))), rfl⟩
  ·have hb87 := Eq.trans rfl (congrArg B (decide_eq_false hg85))
   refine wpL_gs rfl rfl rfl hb87 rfl ?_
   refine wpL_gs rfl rfl rfl hb87 rfl ?_
   refine wpL_gs rfl rfl rfl hb87 rfl ?_
   refine lq rfl (q_pickF (v := B (false)) rfl hb87 rfl) ?_
   refine la (v := B (false)) rfl rfl rfl ?_
   exact ⟨(Eq.trans rfl (congrArg B ((decide_eq_false (fun h => hg85 h.1)).symm))), rfl⟩
 clear y11 y7 y9
 rintro f88 _ ⟨y4, rfl⟩
 refine wpF_ret ?_
 refine ⟨_, resT y4 resN, hS84.frame, ?_⟩
 show (B (decide (((decide (((valF (doA a) (downW a (upW a w))).1) = 0)) = (decide (((valF (doA a) w).1) = 0))) ∧ ((holdsB (doA a) (downW a (upW a w))) = (holdsB (doA a) w))))) = B true
 exact congrArg B (decide_eq_true ⟨decide_eq_decide.2 d2, d3⟩)
end Go.Um
