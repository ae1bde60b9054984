import Derived.Test.YtacphjgolmolmaaProg
import Derived.Test.YtacphjgolmolmaaArrC3
import Derived.Test.YtacphjgolmolmaaArrD1
import Derived.Test.YtacphjgolmolmaaUmArrDownD
namespace Go.Um
open Go.Proofs
open GoT (sz ag rdc)
open KeyT (kv)
set_option maxHeartbeats 4000000 in
set_option maxRecDepth 100000 in
theorem ArrDown_L {H0 : Heap} (vD vN vH vM : Value) (a : Ask) (w : Wld) (rvD : Rd NoB H0 vD a.Decls) (rvN : Rd NoB H0 vN a.Nodes) (rvH : Rd NoB H0 vH a.Hold) (rvM : Rd NoB H0 vM w.Means) : CallsH Try.prog 5 #[Vg #[vD, vN, vH], Vg #[vM]] H0 (fun rv_ H' => Ext NoB H0 H' ∧ rv_ = B true) := by
 have hsD : a.Decls.length * 48 ≤ 140737488355328 := (Rd.list.1 rvD).bound
 have hsN : a.Nodes.length * 64 ≤ 140737488355328 := (Rd.list.1 rvN).bound
 have hsM : w.Means.length * 72 ≤ 140737488355328 := (Rd.list.1 rvM).bound
 have hS0 : St H0 NoB NoB [rdE vD a.Decls, rdE vN a.Nodes, rdE vH a.Hold, rdE vM w.Means] H0 := St.arg (St.arg (St.arg (St.arg (St.start (fun _ h => h.elim)) (Bl0.nil) rvM (fun _ h => h)) (Bl0.cons (Bl0.nil)) rvH (fun _ h => h)) (Bl0.cons (Bl0.cons (Bl0.nil))) rvN (fun _ h => h)) (Bl0.cons (Bl0.cons (Bl0.cons (Bl0.nil)))) rvD (fun _ h => h)
 refine callsH_of_wpF (args := [Vg #[vD, vN, vH], Vg #[vM]]) (rs := [.tmp 4]) Try.func5 rfl Try.ntmps5 Try.results5 (by kernel_rfl) (Nat.le_of_ble_eq_true rfl) ?_
 have y0 : argF [Vg #[vD, vN, vH], Vg #[vM]] 0 = Vg #[vD, vN, vH] := rfl
 have y1 : argF [Vg #[vD, vN, vH], Vg #[vM]] 1 = Vg #[vM] := rfl
 generalize argF [Vg #[vD, vN, vH], Vg #[vM]] = f0 at *
 refine fcr (fun f H => ∃ (g1 : Nat), ∃ (g4 : Nat), f 2 = PT g1 0 ∧ f 3 = PT g4 0 ∧ St H0 NoB NoB [bE g4 #[vM] 47, bE g1 #[vD, vN, vH] 26, rdE vD a.Decls, rdE vN a.Nodes, rdE vH a.Hold, rdE vM w.Means] H) ?_ ?_
 ·refine lo rfl ?_
  refine e_box (v := Vg #[vD, vN, vH]) rfl y0 hS0 (fun g1 H2 hS3 hxx => ?_)
  refine lo rfl ?_
  refine e_box (v := Vg #[vM]) rfl y1 hS3 (fun g4 H5 hS6 hxx => ?_)
  refine la (v := B (false)) rfl rfl rfl ?_
  exact ⟨g1, g4, rfl, rfl, hS6⟩
 clear y0 y1
 rintro f7 H7 ⟨g1, g4, y2, y3, hS7⟩
 refine fcr (fun f H => f 2 = PT g1 0 ∧ f 3 = PT g4 0 ∧ f 5 = B (true) ∧ St H0 NoB NoB [bE g4 #[vM] 47, bE g1 #[vD, vN, vH] 26, rdE vD a.Decls, rdE vN a.Nodes, rdE vH a.Hold, rdE vM w.Means] H) ?_ ?_
 ·refine lo rfl ?_
  refine e_call rfl Try.call13 arr0 (arrFact_L) ?_
  rintro _ H8 ⟨hxx, rfl⟩
  have hS9 := hS7.ext hxx
  refine la (v := B (true)) rfl rfl rfl ?_
  exact ⟨y2, y3, rfl, hS9⟩
 clear y2 y3
 rintro f11 H11 ⟨y2, y3, y5, hS11⟩
 refine wpF_seq ?_
 refine fcr (fun f H => f 2 = PT g1 0 ∧ f 3 = PT g4 0 ∧ f 14 = B (false) ∧ H11 = H) ?_ ?_
 ·refine lm (v := B (true)) rfl rfl y5 ?_
  refine lq rfl (q_not rfl rfl) ?_
  exact ⟨y2, y3, rfl, rfl⟩
 clear y2 y3 y5
 rintro f12 _ ⟨y2, y3, y14, rfl⟩
 refine wpF_condF y14 ?_
 refine wpF_skip ?_
 refine fcr (fun f H => ∃ (r13 : Value), ∃ (r14 : Value), ∃ (r15 : Value), ∃ (g19 : Nat), ∃ (g22 : Nat), f 2 = PT g1 0 ∧ f 3 = PT g4 0 ∧ f 6 = PT g19 0 ∧ f 7 = PT g22 0 ∧ St H0 NoB NoB [bE g22 #[I ((doF a).1), I ((doF a).2)] 28, bE g19 #[r13, r14, r15] 26, rdE r13 ((doA a).Decls), rdE r14 ((doA a).Nodes), rdE r15 ((doA a).Hold), bE g4 #[vM] 47, bE g1 #[vD, vN, vH] 26, rdE vD a.Decls, rdE vN a.Nodes, rdE vH a.Hold, rdE vM w.Means] H) ?_ ?_
 ·refine lq rfl (q_loadBlkA rfl y2 Try.isAgg26 Try.sizeOf26 rfl (hS11.blk 1 rfl) (fun h => h)) ?_
  refine lo rfl ?_
  refine e_call rfl Try.call6 (arr1 (v0 := Vg #[vD, vN, vH]) rfl) (Do_L vD vN vH a (hS11.rdS 2 rfl) (hS11.rdS 3 rfl) (hS11.rdS 4 rfl)) ?_
  rintro _ H16 ⟨hxx, r13, r14, r15, rfl, hrr13, hrr14, hrr15⟩
  have hS17 := ((((hS11.ext hxx).rd (hrr15.sub fun b hb => ⟨hb, SL.lt hS11 hb⟩)).rd (hrr14.sub fun b hb => ⟨(SL_rd hb), SL.lt hS11 (SL_rd hb)⟩)).rd (hrr13.sub fun b hb => ⟨(SL_rd (SL_rd hb)), SL.lt hS11 (SL_rd (SL_rd hb))⟩))
  refine lm (v := Value.tuple #[Vg #[r13, r14, r15], Vg #[I ((doF a).1), I ((doF a).2)]]) rfl rfl rfl ?_
  refine lq rfl (q_extract (vs := #[Vg #[r13, r14, r15], Vg #[I ((doF a).1), I ((doF a).2)]]) (v := Vg #[r13, r14, r15]) rfl rfl rfl) ?_
  refine lq rfl (q_extract (vs := #[Vg #[r13, r14, r15], Vg #[I ((doF a).1), I ((doF a).2)]]) (v := Vg #[I ((doF a).1), I ((doF a).2)]) rfl rfl rfl) ?_
  refine lo rfl ?_
  refine e_alloc rfl Try.zeroValue26 hS17 (fun g19 H20 hS21 hxx => ?_)
  refine lo rfl ?_
  refine e_alloc rfl Try.zeroValue28 hS21 (fun g22 H23 hS24 hxx => ?_)
  refine lo rfl ?_
  refine e_storeBlkA (cs' := #[r13, r14, r15]) rfl rfl rfl Try.sizeOf26 rfl rfl (fa ((oneCell_rdL (hS24.rdl 2 rfl))) (fa ((oneCell_rdL (hS24.rdl 3 rfl))) (fa ((oneCell_rdL (hS24.rdl 4 rfl))) fe))) (hS24.front 1 rfl) (fun H25 hS26 hxx => ?_)
  refine lo rfl ?_
  refine e_storeBlkA (cs' := #[I ((doF a).1), I ((doF a).2)]) rfl rfl rfl Try.sizeOf28 rfl rfl (fa rfl (fa rfl fe)) (hS26.front 1 rfl) (fun H27 hS28 hxx => ?_)
  exact ⟨r13, r14, r15, g19, g22, y2, y3, rfl, rfl, hS28⟩
 clear y14 y2 y3
 rintro f29 H29 ⟨r13, r14, r15, g19, g22, y2, y3, y6, y7, hS29⟩
 refine fcr (fun f H => ∃ (r30 : Value), ∃ (g34 : Nat), ∃ (g37 : Nat), f 2 = PT g1 0 ∧ f 3 = PT g4 0 ∧ f 6 = PT g19 0 ∧ f 7 = PT g22 0 ∧ f 8 = PT g34 0 ∧ f 9 = PT g37 0 ∧ St H0 NoB NoB [bE g37 #[I ((downF a w).1), I ((downF a w).2)] 28, bE g34 #[r30] 47, rdE r30 ((downW a w).Means), bE g22 #[I ((doF a).1), I ((doF a).2)] 28, bE g19 #[r13, r14, r15] 26, rdE r13 ((doA a).Decls), rdE r14 ((doA a).Nodes), rdE r15 ((doA a).Hold), bE g4 #[vM] 47, bE g1 #[vD, vN, vH] 26, rdE vD a.Decls, rdE vN a.Nodes, rdE vH a.Hold, rdE vM w.Means] H) ?_ ?_
 ·refine lq rfl (q_loadBlkA rfl y2 Try.isAgg26 Try.sizeOf26 rfl (hS29.blk 6 rfl) (fun h => h)) ?_
  refine lq rfl (q_loadBlkA rfl y3 Try.isAgg47 Try.sizeOf47 rfl (hS29.blk 5 rfl) (fun h => h)) ?_
  refine lo rfl ?_
  refine e_call rfl Try.call14 (arr2 (v0 := Vg #[vD, vN, vH]) (v1 := Vg #[vM]) rfl rfl) (Down_A vD vN vH vM a w (hS29.rdS 7 rfl) (hS29.rdS 8 rfl) (hS29.rdS 9 rfl) (hS29.rdS 10 rfl)) ?_
  rintro _ H31 ⟨hxx, r30, rfl, hrr30⟩
  have hS32 := ((hS29.ext hxx).rd (hrr30.sub fun b hb => ⟨hb, SL.lt hS29 hb⟩))
  refine lm (v := Value.tuple #[Vg #[r30], Vg #[I ((downF a w).1), I ((downF a w).2)]]) rfl rfl rfl ?_
  refine lq rfl (q_extract (vs := #[Vg #[r30], Vg #[I ((downF a w).1), I ((downF a w).2)]]) (v := Vg #[r30]) rfl rfl rfl) ?_
  refine lq rfl (q_extract (vs := #[Vg #[r30], Vg #[I ((downF a w).1), I ((downF a w).2)]]) (v := Vg #[I ((downF a w).1), I ((downF a w).2)]) rfl rfl rfl) ?_
  refine lo rfl ?_
  refine e_alloc rfl Try.zeroValue47 hS32 (fun g34 H35 hS36 hxx => ?_)
  refine lo rfl ?_
  refine e_alloc rfl Try.zeroValue28 hS36 (fun g37 H38 hS39 hxx => ?_)
  refine lo rfl ?_
  refine e_storeBlkA (cs' := #[r30]) rfl rfl rfl Try.sizeOf47 rfl rfl (fa ((oneCell_rdL (hS39.rdl 2 rfl))) fe) (hS39.front 1 rfl) (fun H40 hS41 hxx => ?_)
  refine lo rfl ?_
  refine e_storeBlkA (cs' := #[I ((downF a w).1), I ((downF a w).2)]) rfl rfl rfl Try.sizeOf28 rfl rfl (fa rfl (fa rfl fe)) (hS41.front 1 rfl) (fun H42 hS43 hxx => ?_)
  exact ⟨r30, g34, g37, y2, y3, y6, y7, rfl, rfl, hS43⟩
 clear y2 y3 y6 y7
 rintro f44 H44 ⟨r30, g34, g37, y2, y3, y6, y7, y8, y9, hS44⟩
 refine wpF_seq ?_
 refine fcr (fun f H => f 2 = PT g1 0 ∧ f 3 = PT g4 0 ∧ f 6 = PT g19 0 ∧ f 7 = PT g22 0 ∧ f 8 = PT g34 0 ∧ f 9 = PT g37 0 ∧ f 33 = B (decide ((((doF a).1) ≠ 0) ∨ (((downF a w).1) ≠ 0))) ∧ H44 = H) ?_ ?_
 ·refine lq rfl (q_fieldAddr rfl Try.underlying28 rfl Try.sizeOf3 y7) ?_
  refine lq rfl (q_loadBlk rfl rfl Try.isAgg3 (hS44.blk 3 rfl) rfl (fun h => h)) ?_
  refine lq rfl (q_neq rfl rfl rfl) ?_
  refine lm (v := B (decide (((doF a).1) ≠ 0))) rfl rfl rfl ?_
  by_cases hg45 : ((doF a).1) ≠ 0
  ·have hb46 := Eq.trans rfl (congrArg B (decide_eq_true hg45))
   refine wpL_gs rfl rfl rfl hb46 rfl ?_
   refine wpL_gs rfl rfl rfl hb46 rfl ?_
   refine wpL_gs rfl rfl rfl hb46 rfl ?_
   refine lq rfl (q_pickT (v := B (true)) rfl hb46 rfl) ?_
   exact ⟨y2, y3, y6, y7, y8, y9, (Eq.trans rfl (congrArg B ((decide_eq_true (Or.inl hg45)).symm))), rfl⟩
  ·have hb47 := Eq.trans rfl (congrArg B (decide_eq_false hg45))
   refine gq rfl rfl rfl hb47 (q_fieldAddr rfl Try.underlying28 rfl Try.sizeOf3 y9) ?_
   refine gq rfl rfl rfl hb47 (q_loadBlk rfl rfl Try.isAgg3 (hS44.blk 0 rfl) rfl (fun h => h)) ?_
   refine gq rfl rfl rfl hb47 (q_neq rfl rfl rfl) ?_
   refine lq rfl (q_pickF (v := B (decide (((downF a w).1) ≠ 0))) rfl hb47 rfl) ?_
   exact ⟨y2, y3, y6, y7, y8, y9, (Eq.trans rfl (congrArg B (decide_congr_of ((Iff.rfl).trans (((or_iff_right hg45).trans Iff.rfl)).symm)))), rfl⟩
 clear y2 y3 y6 y7 y8 y9
 rintro f48 _ ⟨y2, y3, y6, y7, y8, y9, y33, rfl⟩
 refine wpF_condP y33 (fun h33 => ?t77) (fun h33 => ?e77)
 case t77 =>
  refine fcr (fun f H => f 4 = B (decide ((((downF a w).1) = 0) ∨ ((((downW a w).Means).length : Int) = 0))) ∧ H44 = H) ?_ ?_
  ·refine lq rfl (q_fieldAddr rfl Try.underlying28 rfl Try.sizeOf3 y9) ?_
   refine lq rfl (q_loadBlk rfl rfl Try.isAgg3 (hS44.blk 0 rfl) rfl (fun h => h)) ?_
   refine lq rfl (q_eql rfl rfl rfl) ?_
   refine lm (v := B (decide (((downF a w).1) = 0))) rfl rfl rfl ?_
   by_cases hg50 : ((downF a w).1) = 0
   ·have hb51 := Eq.trans rfl (congrArg B (decide_eq_true hg50))
    refine wpL_gs rfl rfl rfl hb51 rfl ?_
    refine wpL_gs rfl rfl rfl hb51 rfl ?_
    refine wpL_gs rfl rfl rfl hb51 rfl ?_
    refine wpL_gs rfl rfl rfl hb51 rfl ?_
    refine lq rfl (q_pickT (v := B (true)) rfl hb51 rfl) ?_
    refine la (v := B (true)) rfl rfl rfl ?_
    exact ⟨(Eq.trans rfl (congrArg B ((decide_eq_true (Or.inl hg50)).symm))), rfl⟩
   ·have hb52 := Eq.trans rfl (congrArg B (decide_eq_false hg50))
    refine gq rfl rfl rfl hb52 (q_fieldAddr rfl Try.underlying47 rfl Try.sizeOf45 y8) ?_
    refine gq rfl rfl rfl hb52 (q_loadBlk rfl rfl Try.isAgg45 (hS44.blk 1 rfl) rfl (fun h => h)) ?_
    refine gq rfl rfl rfl hb52 (q_lenRd rfl Try.underlying45 rfl (hS44.rdl 2 rfl)) ?_
    refine gq rfl rfl rfl hb52 (q_eql rfl rfl rfl) ?_
    refine lq rfl (q_pickF (v := B (decide ((((downW a w).Means).length : Int) = 0))) rfl hb52 rfl) ?_
    refine la (v := B (decide ((((downW a w).Means).length : Int) = 0))) rfl rfl rfl ?_
    exact ⟨(Eq.trans rfl (congrArg B (decide_congr_of ((Iff.rfl).trans (((or_iff_right hg50).trans Iff.rfl)).symm)))), rfl⟩
  clear y2 y3 y33 y6 y7 y8 y9
  rintro f53 _ ⟨y4, rfl⟩
  refine wpF_ret ?_
  refine ⟨_, resT y4 resN, hS44.frame, ?_⟩
  show (B (decide ((((downF a w).1) = 0) ∨ ((((downW a w).Means).length : Int) = 0)))) = B true
  exact congrArg B (decide_eq_true (Decidable.byCases (fun e => .inl e) fun e => .inr (downW_len e)))
 have hz : (doF a).1 = 0 := Decidable.of_not_not fun e => h33 (.inl e)
 obtain ⟨d1, d2, d3⟩ := down_fact hz (fun e => h33 (.inr e))
 refine wpF_skip ?_
 refine wpF_seq ?_
 refine fcr (fun f H => f 2 = PT g1 0 ∧ f 3 = PT g4 0 ∧ f 6 = PT g19 0 ∧ f 7 = PT g22 0 ∧ f 8 = PT g34 0 ∧ f 9 = PT g37 0 ∧ f 47 = B (decide ((((meanF (doA a) (downW a w))).1) ≠ 0)) ∧ St H0 NoB NoB [bE g37 #[I ((downF a w).1), I ((downF a w).2)] 28, bE g34 #[r30] 47, rdE r30 ((downW a w).Means), bE g22 #[I ((doF a).1), I ((doF a).2)] 28, bE g19 #[r13, r14, r15] 26, rdE r13 ((doA a).Decls), rdE r14 ((doA a).Nodes), rdE r15 ((doA a).Hold), bE g4 #[vM] 47, bE g1 #[vD, vN, vH] 26, rdE vD a.Decls, rdE vN a.Nodes, rdE vH a.Hold, rdE vM w.Means] H) ?_ ?_
 ·refine lq rfl (q_loadBlkA rfl y6 Try.isAgg26 Try.sizeOf26 rfl (hS44.blk 4 rfl) (fun h => h)) ?_
  refine lq rfl (q_loadBlkA rfl y8 Try.isAgg47 Try.sizeOf47 rfl (hS44.blk 1 rfl) (fun h => h)) ?_
  refine lo rfl ?_
  refine e_call rfl Try.call15 (arr2 (v0 := Vg #[r13, r14, r15]) (v1 := Vg #[r30]) rfl rfl) (Check_M r13 r14 r15 r30 (doA a) (downW a w) (hS44.rdN 5 rfl) (hS44.rdN 6 rfl) (hS44.rdN 7 rfl) (hS44.rdN 2 rfl) ) ?_
  rintro _ H54 ⟨hxx, rfl⟩
  have hS55 := hS44.ext hxx
  refine lq rfl (q_field (cs := #[I (((meanF (doA a) (downW a w))).1), I (((meanF (doA a) (downW a w))).2)]) (v := I (((meanF (doA a) (downW a w))).1)) rfl Try.underlying28 rfl Try.isAgg3 rfl rfl) ?_
  refine lq rfl (q_neq rfl rfl rfl) ?_
  exact ⟨y2, y3, y6, y7, y8, y9, rfl, hS55⟩
 clear y2 y3 y33 y6 y7 y8 y9
 rintro f57 H57 ⟨y2, y3, y6, y7, y8, y9, y47, hS57⟩
 refine wpF_condP y47 (fun h47 => ?t76) (fun h47 => ?e76)
 case t76 =>
  refine fcr (fun f H => f 4 = B (false) ∧ H57 = H) ?_ ?_
  ·refine la (v := B (false)) rfl rfl rfl ?_
   exact ⟨rfl, rfl⟩
  clear y2 y3 y47 y6 y7 y8 y9
  rintro f59 _ ⟨y4, rfl⟩
  refine wpF_ret ?_
  refine ⟨_, resT y4 resN, hS57.frame, ?_⟩
  show (B (false)) = B true
  exact absurd d1 h47
 refine wpF_skip ?_
 refine fcr (fun f H => f 6 = PT g19 0 ∧ f 7 = PT g22 0 ∧ f 8 = PT g34 0 ∧ f 9 = PT g37 0 ∧ f 10 = B (holdsB a w) ∧ St H0 NoB NoB [bE g22 #[I ((valF a w).1), I ((valF a w).2)] 28, bE g37 #[I ((downF a w).1), I ((downF a w).2)] 28, bE g34 #[r30] 47, rdE r30 ((downW a w).Means), bE g19 #[r13, r14, r15] 26, rdE r13 ((doA a).Decls), rdE r14 ((doA a).Nodes), rdE r15 ((doA a).Hold), bE g4 #[vM] 47, bE g1 #[vD, vN, vH] 26, rdE vD a.Decls, rdE vN a.Nodes, rdE vH a.Hold, rdE vM w.Means] H) ?_ ?_
 ·refine lq rfl (q_loadBlkA rfl y2 Try.isAgg26 Try.sizeOf26 rfl (hS57.blk 9 rfl) (fun h => h)) ?_
  refine lq rfl (q_loadBlkA rfl y3 Try.isAgg47 Try.sizeOf47 rfl (hS57.blk 8 rfl) (fun h => h)) ?_
  refine lo rfl ?_
  refine e_call rfl Try.call16 (arr2 (v0 := Vg #[vD, vN, vH]) (v1 := Vg #[vM]) rfl rfl) (Holds_M vD vN vH vM a w (hS57.rdN 10 rfl) (hS57.rdN 11 rfl) (hS57.rdN 12 rfl) (hS57.rdN 13 rfl)) ?_
  rintro _ H60 ⟨hxx, rfl⟩
  have hS61 := hS57.ext hxx
  refine lm (v := Value.tuple #[B (holdsB a w), Vg #[I ((valF a w).1), I ((valF a w).2)]]) rfl rfl rfl ?_
  refine lq rfl (q_extract (vs := #[B (holdsB a w), Vg #[I ((valF a w).1), I ((valF a w).2)]]) (v := B (holdsB a w)) rfl rfl rfl) ?_
  refine lq rfl (q_extract (vs := #[B (holdsB a w), Vg #[I ((valF a w).1), I ((valF a w).2)]]) (v := Vg #[I ((valF a w).1), I ((valF a w).2)]) rfl rfl rfl) ?_
  refine la (v := B (holdsB a w)) rfl rfl rfl ?_
  refine lo rfl ?_
  refine e_storeBlkA (cs' := #[I ((valF a w).1), I ((valF a w).2)]) rfl y7 rfl Try.sizeOf28 rfl rfl (fa rfl (fa rfl fe)) (hS61.front 3 rfl) (fun H63 hS64 hxx => ?_)
  exact ⟨y6, y7, y8, y9, rfl, hS64⟩
 clear y2 y3 y47 y6 y7 y8 y9
 rintro f65 H65 ⟨y6, y7, y8, y9, y10, hS65⟩
 refine fcr (fun f H => f 7 = PT g22 0 ∧ f 9 = PT g37 0 ∧ f 10 = B (holdsB a w) ∧ f 11 = B (holdsB (doA a) (downW a w)) ∧ St H0 NoB NoB [bE g37 #[I ((valF (doA a) (downW a w)).1), I ((valF (doA a) (downW a w)).2)] 28, bE g22 #[I ((valF a w).1), I ((valF a w).2)] 28, bE g34 #[r30] 47, rdE r30 ((downW a w).Means), bE g19 #[r13, r14, r15] 26, rdE r13 ((doA a).Decls), rdE r14 ((doA a).Nodes), rdE r15 ((doA a).Hold), bE g4 #[vM] 47, bE g1 #[vD, vN, vH] 26, rdE vD a.Decls, rdE vN a.Nodes, rdE vH a.Hold, rdE vM w.Means] H) ?_ ?_
 ·refine lq rfl (q_loadBlkA rfl y6 Try.isAgg26 Try.sizeOf26 rfl (hS65.blk 4 rfl) (fun h => h)) ?_
  refine lq rfl (q_loadBlkA rfl y8 Try.isAgg47 Try.sizeOf47 rfl (hS65.blk 2 rfl) (fun h => h)) ?_
  refine lo rfl ?_
  refine e_call rfl Try.call16 (arr2 (v0 := Vg #[r13, r14, r15]) (v1 := Vg #[r30]) rfl rfl) (Holds_M r13 r14 r15 r30 (doA a) (downW a w) (hS65.rdN 5 rfl) (hS65.rdN 6 rfl) (hS65.rdN 7 rfl) (hS65.rdN 3 rfl)) ?_
  rintro _ H66 ⟨hxx, rfl⟩
  have hS67 := hS65.ext hxx
  refine lm (v := Value.tuple #[B (holdsB (doA a) (downW a w)), Vg #[I ((valF (doA a) (downW a w)).1), I ((valF (doA a) (downW a w)).2)]]) rfl rfl rfl ?_
  refine lq rfl (q_extract (vs := #[B (holdsB (doA a) (downW a w)), Vg #[I ((valF (doA a) (downW a w)).1), I ((valF (doA a) (downW a w)).2)]]) (v := B (holdsB (doA a) (downW a w))) rfl rfl rfl) ?_
  refine lq rfl (q_extract (vs := #[B (holdsB (doA a) (downW a w)), Vg #[I ((valF (doA a) (downW a w)).1), I ((valF (doA a) (downW a w)).2)]]) (v := Vg #[I ((valF (doA a) (downW a w)).1), I ((valF (doA a) (downW a w)).2)]) rfl rfl rfl) ?_
  refine la (v := B (holdsB (doA a) (downW a w))) rfl rfl rfl ?_
  refine lo rfl ?_
  refine e_storeBlkA (cs' := #[I ((valF (doA a) (downW a w)).1), I ((valF (doA a) (downW a w)).2)]) rfl y9 rfl Try.sizeOf28 rfl rfl (fa rfl (fa rfl fe)) (hS67.front 1 rfl) (fun H69 hS70 hxx => ?_)
  exact ⟨y7, y9, y10, rfl, hS70⟩
 clear y10 y6 y7 y8 y9
 rintro f71 H71 ⟨y7, y9, y10, y11, hS71⟩
 refine fcr (fun f H => f 4 = B (decide (((decide (((valF a w).1) = 0)) = (decide (((valF (doA a) (downW a w)).1) = 0))) ∧ ((holdsB a w) = (holdsB (doA a) (downW a w))))) ∧ H71 = H) ?_ ?_
 ·refine lq rfl (q_fieldAddr rfl Try.underlying28 rfl Try.sizeOf3 y7) ?_
  refine lq rfl (q_loadBlk rfl rfl Try.isAgg3 (hS71.blk 1 rfl) rfl (fun h => h)) ?_
  refine lq rfl (q_eql rfl rfl rfl) ?_
  refine lq rfl (q_fieldAddr rfl Try.underlying28 rfl Try.sizeOf3 y9) ?_
  refine lq rfl (q_loadBlk rfl rfl Try.isAgg3 (hS71.blk 0 rfl) rfl (fun h => h)) ?_
  refine lq rfl (q_eql rfl rfl rfl) ?_
  refine lq rfl (q_eqlB rfl Try.underlying4 rfl rfl) ?_
  refine lm (v := B (decide ((decide (((valF a w).1) = 0)) = (decide (((valF (doA a) (downW a w)).1) = 0))))) rfl rfl rfl ?_
  by_cases hg72 : (decide (((valF a w).1) = 0)) = (decide (((valF (doA a) (downW a w)).1) = 0))
  ·have hb73 := Eq.trans rfl (congrArg B (decide_eq_true hg72))
   refine gq rfl rfl rfl hb73 (q_move (v := B (holdsB a w)) rfl y10) ?_
   refine gq rfl rfl rfl hb73 (q_move (v := B (holdsB (doA a) (downW a w))) rfl y11) ?_
   refine gq rfl rfl rfl hb73 (q_eqlB rfl Try.underlying4 rfl rfl) ?_
   refine lq rfl (q_pickT (v := B (decide ((holdsB a w) = (holdsB (doA a) (downW a w))))) rfl hb73 rfl) ?_
   refine la (v := B (decide ((holdsB a w) = (holdsB (doA a) (downW a w))))) rfl rfl rfl ?_
   exact ⟨(Eq.trans rfl (congrArg B (decide_congr_of ((Iff.rfl).trans (((and_iff_right hg72).trans Iff.rfl)).symm)))), rfl⟩
  ·have hb74 := Eq.trans rfl (congrArg B (decide_eq_false hg72))
   refine wpL_gs rfl rfl rfl hb74 rfl ?_
   refine wpL_gs rfl rfl rfl hb74 rfl ?_
   refine wpL_gs rfl rfl rfl hb74 rfl ?_
   refine lq rfl (q_pickF (v := B (false)) rfl hb74 rfl) ?_
   refine la (v := B (false)) rfl rfl rfl ?_
   exact ⟨(Eq.trans rfl (congrArg B ((decide_eq_false (fun h => hg72 h.1)).symm))), rfl⟩
 clear y10 y11 y7 y9
 rintro f75 _ ⟨y4, rfl⟩
 refine wpF_ret ?_
 refine ⟨_, resT y4 resN, hS71.frame, ?_⟩
 show (B (decide (((decide (((valF a w).1) = 0)) = (decide (((valF (doA a) (downW a w)).1) = 0))) ∧ ((holdsB a w) = (holdsB (doA a) (downW a w)))))) = B true
 exact congrArg B (decide_eq_true ⟨decide_eq_decide.2 d2, d3⟩)
end Go.Um
