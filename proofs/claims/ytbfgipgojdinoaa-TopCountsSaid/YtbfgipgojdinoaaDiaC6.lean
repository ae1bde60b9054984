import Derived.Test.YtbfgipgojdinoaaProg
import Derived.Test.YtbfgipgojdinoaaDiaC5
import Derived.Test.YtbfgipgojdinoaaUmTopCountsC
namespace Go.Um
open Go.Proofs
open GoT (sz ag rdc)
open KeyT (kv)
theorem el_Chc_125_DiaC6 : ElT Try.prog Chc 125 := ⟨Try.isAgg125, Try.sizeOf125⟩
theorem em_Bool_4_DiaC6 : ElemOk Try.prog Bool 4 := ⟨Try.t4, (.bool false), by kernel_rfl, by kernel_rfl, by kernel_rfl, by kernel_rfl, by kernel_rfl⟩
theorem keyLaw_chc_125_DiaC6 : KeyLaw Try.prog 125 Chc := keyLaw_chc Try.underlying125 Try.underlying3 Try.underlying3 Try.underlying3 (by decide) (by decide) (by decide) rfl rfl rfl Try.isAgg3 Try.isAgg3 Try.isAgg3 (by kernel_rfl)
set_option maxHeartbeats 1000000 in
set_option maxRecDepth 100000 in
theorem finished_D {H0 : Heap} (vx : Value) (ch : List Cho) (rt N m r : Nat) (rx : Rd NoB H0 vx (chI ch)) (hW : WFc N ch) (hrt : rt < ch.length + 2) (hv : visF ch m rt 2 = some r) (hr : r = ch.length + 2) : CallsH Try.prog 71 #[Vg #[vx, I ((rt : Int))]] H0 (fun rv_ H' => Ext NoB H0 H' ∧ rv_ = B true) := by
 have hsm := (Rd.list.1 rx).bound
 have hb24 : GoT.bytes Chc = 24 := rfl
 have hcl := chI_len (ch := ch)
 rw [hb24] at hsm
 have hS0 : St H0 NoB NoB [rdE vx (chI ch)] H0 := St.arg (St.start (fun _ h => h.elim)) (Bl0.nil) rx (fun _ h => h)
 refine callsH_of_wpF (args := [Vg #[vx, I ((rt : Int))]]) (rs := [.tmp 2]) Try.func71 rfl Try.ntmps71 Try.results71 (by kernel_rfl) (Nat.le_of_ble_eq_true rfl) ?_
 have y0 : argF [Vg #[vx, I ((rt : Int))]] 0 = Vg #[vx, I ((rt : Int))] := rfl
 generalize argF [Vg #[vx, I ((rt : Int))]] = f0 at *
 refine wpF_seq ?_
 refine wpF_region ?_
 refine lo rfl ?_
 refine e_box (v := Vg #[vx, I ((rt : Int))]) rfl y0 hS0 (fun g1 H2 hS3 hxx => ?_)
 refine la (v := B (false)) rfl rfl rfl ?_
 refine wpL_nil ?_
 refine wpF_seq ?_
 refine wpF_region ?_
 refine lo rfl ?_
 refine e_alloc rfl Try.zeroValue3 hS3 (fun g4 H5 hS6 hxx => ?_)
 refine lo rfl ?_
 refine e_storeBlk (v := I (2)) rfl rfl rfl rfl Try.sizeOf3 (by show _ < 1; decide) hS6 (fun H7 hS8 hxx => ?_)
 refine wpL_nil ?_
 refine wpF_seq ?_
 refine wpF_region ?_
 refine lq rfl (q_fieldAddr rfl Try.underlying51 rfl Try.sizeOf49 rfl) ?_
 refine lq rfl (q_loadBlk rfl rfl Try.isAgg49 (hS8.blk 1 rfl) rfl (fun h => h)) ?_
 refine lq rfl (q_lenRd rfl Try.underlying49 rfl (hS8.rdl 2 rfl)) ?_
 refine lq rfl (q_add rfl rfl rfl (by constructor <;> omega)) ?_
 refine lo rfl ?_
 refine e_makeSlice (n := (((chI ch).length : Int) + 2).toNat) (x0 := (false : Bool)) rfl Try.underlying31 Try.zeroValue4 em_Bool_4_DiaC6 Try.sizeOf4 rfl rfl (by omega) (fun _ _ => Rd.bool.2 rfl) hS8 (by have hb : GoT.bytes Bool = 1 := rfl; rw [hb]; omega) (by omega) (fun v9 H10 hS11 hxx => ?_)
 refine lo rfl ?_
 refine e_alloc rfl Try.zeroValue31 hS11 (fun g12 H13 hS14 hxx => ?_)
 refine lo rfl ?_
 refine e_storeBlk (v := v9) rfl rfl rfl (oneCell_rdL (hS14.rowl 1 rfl)) Try.sizeOf31 (by show _ < 1; decide) hS14 (fun H15 hS16 hxx => ?_)
 refine wpL_nil ?_
 refine wpF_seq ?_
 have hS17 : St H0 NoB NoB [bE g12 #[v9] 31, rowE 4 v9 (doneL (ch.length + 2) 2 : List Bool), bE g4 #[I (2)] 3, bE g1 #[vx, I ((rt : Int))] 51, rdE vx (chI ch)] H15 := by have h__ := hS16; rw [show ((((chI ch).length : Int) + 2).toNat) = ch.length + 2 by omega, ← doneL_zero] at h__; exact h__
 refine wpF_region ?_
 refine lo rfl ?_
 refine e_alloc rfl Try.zeroValue108 hS17 (fun g18 H19 hS20 hxx => ?_)
 refine wpL_nil ?_
 refine wpF_seq ?_
 refine wpF_region ?_
 refine lq rfl (q_makeFunc (fi' := #[]) rfl (by simp) (arr4 (v0 := PT g12 0) (v1 := PT g1 0) (v2 := PT g18 0) (v3 := PT g4 0) rfl rfl rfl rfl)) ?_
 refine lo rfl ?_
 refine e_storeBlk (v := Value.func (.func 83) #[] #[PT g12 0, PT g1 0, PT g18 0, PT g4 0]) rfl rfl rfl rfl Try.sizeOf108 (by show _ < 1; decide) hS20 (fun H21 hS22 hxx => ?_)
 refine wpL_nil ?_
 refine wpF_seq ?_
 refine wpF_region ?_
 refine lq rfl (q_loadBlk rfl rfl Try.isAgg108 (hS22.blk 0 rfl) rfl (fun h => h)) ?_
 refine lq rfl (q_fieldAddr rfl Try.underlying51 rfl Try.sizeOf3 rfl) ?_
 refine lq rfl (q_loadBlk rfl rfl Try.isAgg3 (hS22.blk 4 rfl) rfl (fun h => h)) ?_
 have hS23 := (St.drop (show St H0 NoB NoB [rowE 4 v9 (doneL (ch.length + 2) 2 : List Bool), bE g12 #[v9] 31, bE g4 #[I (2)] 3, bE g1 #[vx, I ((rt : Int))] 51, blkE g18 (.cells #[Value.func (.func 83) #[] #[PT g12 0, PT g1 0, PT g18 0, PT g4 0]] 108), rdE vx (chI ch)] H21 from ((((hS22.front 4 rfl).front 4 rfl).front 3 rfl).front 4 rfl)) (sk (sk (sk (sk (sk (sk (List.Sublist.slnil))))))))
 refine lo rfl ?_
 refine e_callV rfl rfl Try.call83 (arr1 (v0 := I ((rt : Int))) rfl) (visit_D _ _ g12 g1 g18 g4 v9 vx ch rt N rt 2 m r (St.give (A := [rowE 4 v9 (doneL (ch.length + 2) 2 : List Bool), bE g12 #[v9] 31, bE g4 #[I (2)] 3, bE g1 #[vx, I ((rt : Int))] 51, blkE g18 (.cells #[Value.func (.func 83) #[] #[PT g12 0, PT g1 0, PT g18 0, PT g4 0]] 108)]) (L := [rdE vx (chI ch)]) hS23) (hS23.rdS 5 rfl) hW hrt (by decide) hv rfl) ?_
 rintro _ H24 ⟨hxx, rfl, hgo⟩
 have hS25 : St H0 NoB NoB [rowE 4 v9 (doneL (ch.length + 2) r : List Bool), bE g12 #[v9] 31, bE g4 #[I ((r : Int))] 3, bE g1 #[vx, I ((rt : Int))] 51, blkE g18 (.cells #[Value.func (.func 83) #[] #[PT g12 0, PT g1 0, PT g18 0, PT g4 0]] 108), rdE vx (chI ch)] H24 := St.back3 (A := [rowE 4 v9 (doneL (ch.length + 2) 2 : List Bool), bE g12 #[v9] 31, bE g4 #[I (2)] 3, bE g1 #[vx, I ((rt : Int))] 51, blkE g18 (.cells #[Value.func (.func 83) #[] #[PT g12 0, PT g1 0, PT g18 0, PT g4 0]] 108)]) (A' := [rowE 4 v9 (doneL (ch.length + 2) r : List Bool), bE g12 #[v9] 31, bE g4 #[I ((r : Int))] 3, bE g1 #[vx, I ((rt : Int))] 51, blkE g18 (.cells #[Value.func (.func 83) #[] #[PT g12 0, PT g1 0, PT g18 0, PT g4 0]] 108)]) (L := [rdE vx (chI ch)]) hS23 hxx hgo
 refine lm (v := B (true)) rfl rfl rfl ?_
 refine gq rfl rfl rfl rfl (q_loadBlk rfl rfl Try.isAgg3 (hS25.blk 2 rfl) rfl (fun h => h)) ?_
 refine gq rfl rfl rfl rfl (q_fieldAddr rfl Try.underlying51 rfl Try.sizeOf49 rfl) ?_
 refine gq rfl rfl rfl rfl (q_loadBlk rfl rfl Try.isAgg49 (hS25.blk 3 rfl) rfl (fun h => h)) ?_
 refine gq rfl rfl rfl rfl (q_lenRd rfl Try.underlying49 rfl (hS25.rdl 5 rfl)) ?_
 refine gq rfl rfl rfl rfl (q_add rfl rfl rfl (by constructor <;> omega)) ?_
 refine gq rfl rfl rfl rfl (q_eql rfl rfl rfl) ?_
 refine lq rfl (q_pickT (v := B (decide ((r : Int) = (((chI ch).length : Int) + 2)))) rfl rfl rfl) ?_
 refine la (v := B (decide ((r : Int) = (((chI ch).length : Int) + 2)))) rfl rfl rfl ?_
 refine wpL_nil ?_
 refine wpF_ret ?_
 refine ⟨_, resT rfl resN, hS25.frame, ?_⟩
 show (B (decide ((r : Int) = (((chI ch).length : Int) + 2)))) = B true
 exact congrArg B (decide_eq_true (by omega))
set_option maxRecDepth 100000 in
theorem level_D {H0 : Heap} (vx : Value) (ch : List Cho) (rt i : Nat) (rx : Rd NoB H0 vx (chI ch)) (hil : i < ch.length + 2) : CallsH Try.prog 70 #[Vg #[vx, I ((rt : Int))], I ((i : Int))] H0 (fun rv_ H' => Ext NoB H0 H' ∧ rv_ = I (((levD ch i : Nat) : Int))) := by
 have hsm := (Rd.list.1 rx).bound
 have hb24 : GoT.bytes Chc = 24 := rfl
 have hcl := chI_len (ch := ch)
 rw [hb24] at hsm
 have hS0 : St H0 NoB NoB [rdE vx (chI ch)] H0 := St.arg (St.start (fun _ h => h.elim)) (Bl0.nil) rx (fun _ h => h)
 refine callsH_of_wpF (args := [Vg #[vx, I ((rt : Int))], I ((i : Int))]) (rs := [.tmp 4]) Try.func70 rfl Try.ntmps70 Try.results70 (by kernel_rfl) (Nat.le_of_ble_eq_true rfl) ?_
 have y0 : argF [Vg #[vx, I ((rt : Int))], I ((i : Int))] 0 = Vg #[vx, I ((rt : Int))] := rfl
 have y1 : argF [Vg #[vx, I ((rt : Int))], I ((i : Int))] 1 = I ((i : Int)) := rfl
 generalize argF [Vg #[vx, I ((rt : Int))], I ((i : Int))] = f0 at *
 refine wpF_seq ?_
 refine wpF_region ?_
 refine lo rfl ?_
 refine e_box (v := Vg #[vx, I ((rt : Int))]) rfl y0 hS0 (fun g1 H2 hS3 hxx => ?_)
 refine la (v := I (0)) rfl rfl rfl ?_
 refine wpL_nil ?_
 refine wpF_seq ?_
 refine wpF_seq ?_
 refine wpF_region ?_
 refine lm (v := I ((i : Int))) rfl rfl y1 ?_
 refine lq rfl (q_lss rfl rfl rfl) ?_
 refine wpL_nil ?_
 refine wpF_condP rfl (fun h6 => ?t6) (fun h6 => ?e6)
 case t6 =>
  refine wpF_seq ?_
  refine wpF_region ?_
  refine la (v := I (17)) rfl rfl rfl ?_
  refine wpL_nil ?_
  refine wpF_ret ?_
  refine ⟨_, resT rfl resN, hS3.frame, ?_⟩
  show (I (17)) = I (((levD ch i : Nat) : Int))
  rw [levD, if_pos (by omega)]
  rfl
 refine wpF_skip ?_
 refine wpF_seq ?_
 refine wpF_region ?_
 refine lq rfl (q_fieldAddr rfl Try.underlying51 rfl Try.sizeOf49 rfl) ?_
 refine lq rfl (q_loadBlk rfl rfl Try.isAgg49 (hS3.blk 0 rfl) rfl (fun h => h)) ?_
 refine lm (v := I ((i : Int))) rfl rfl y1 ?_
 refine lq rfl (q_sub rfl rfl rfl (by constructor <;> omega)) ?_
 refine lq rfl (q_indexRd (k := ((i : Int) - 2).toNat) rfl Try.underlying49 el_Chc_125_DiaC6 rfl rfl (hS3.rdl 1 rfl) (by omega) (by omega)) ?_
 refine lq rfl (q_fieldE (k := ((i : Int) - 2).toNat) rfl Try.underlying125 rfl Try.sizeOf3 rfl rfl (hS3.rdl 1 rfl) (by omega)) ?_
 obtain ⟨_, hcu5, hFu5⟩ := (Rd.list.1 (hS3.rdS 1 rfl)).cellF (((i : Int) - 2).toNat) (by omega)
 obtain ⟨rfl, hu50, hu51, hu52⟩ := hcu5
 refine lq rfl (q_loadF rfl rfl (hFu5 0 _ Try.prog 3 _ rfl Try.isAgg3 (fun _ h => False.elim h))) ?_
 refine la (v := I ((nth (chI ch) (((i : Int) - 2).toNat)).Var)) rfl rfl rfl ?_
 refine wpL_nil ?_
 refine wpF_ret ?_
 refine ⟨_, resT rfl resN, hS3.frame, ?_⟩
 show (I ((nth (chI ch) (((i : Int) - 2).toNat)).Var)) = I (((levD ch i : Nat) : Int))
 have hti : ((i : Int) - 2).toNat = i - 2 := by omega
 rw [levD, if_neg (by omega), hti]
 exact congrArg I (chI_at (by omega)).1
set_option maxRecDepth 100000 in
theorem Check_1 {H0 : Heap} (k i : Int) (gi : Nat) (hb : H0[gi]? = some (.cells #[I i] 3)) (hi : 0 ≤ i ∧ i ≤ 5000) : CallsH Try.prog 69 #[I (k), PT gi 0] H0 (fun rv_ H' => Ext NoB H0 H' ∧ rv_ = B (decide (0 ≤ k ∧ k < i + 2))) := by
 have hS0 : St H0 NoB NoB [fixE gi (.cells #[I (i)] 3)] H0 := St.argFix (St.start (fun _ h => h.elim)) (Bl0.nil) hb (fun h => h)
 refine callsH_of_wpF (args := [I (k), PT gi 0]) (rs := [.tmp 3]) Try.func69 rfl Try.ntmps69 Try.results69 (by kernel_rfl) (Nat.le_of_ble_eq_true rfl) ?_
 have y0 : argF [I (k), PT gi 0] 0 = I (k) := rfl
 have y1 : argF [I (k), PT gi 0] 1 = PT gi 0 := rfl
 generalize argF [I (k), PT gi 0] = f0 at *
 refine wpF_seq ?_
 refine wpF_region ?_
 refine la (v := B (false)) rfl rfl rfl ?_
 refine wpL_nil ?_
 refine fcr (fun f H => f 3 = B (decide ((0 ≤ k) ∧ (k < (i + 2)))) ∧ H0 = H) ?_ ?_
 ·refine lm (v := I (k)) rfl rfl y0 ?_
  refine lq rfl (q_geq rfl rfl rfl) ?_
  refine lm (v := B (decide (0 ≤ k))) rfl rfl rfl ?_
  by_cases hg1 : 0 ≤ k
  ·have hb2 := Eq.trans rfl (congrArg B (decide_eq_true hg1))
   refine gq rfl rfl rfl hb2 (q_move (v := I (k)) rfl y0) ?_
   refine gq rfl rfl rfl hb2 (q_loadBlk rfl y1 Try.isAgg3 (hS0.fixd 0 rfl) rfl (fun h => h)) ?_
   refine gq rfl rfl rfl hb2 (q_add rfl rfl rfl (by constructor <;> omega)) ?_
   refine gq rfl rfl rfl hb2 (q_lss rfl rfl rfl) ?_
   refine lq rfl (q_pickT (v := B (decide (k < (i + 2)))) rfl hb2 rfl) ?_
   refine la (v := B (decide (k < (i + 2)))) rfl rfl rfl ?_
   exact ⟨(Eq.trans rfl (congrArg B (decide_congr_of ((Iff.rfl).trans (((and_iff_right hg1).trans Iff.rfl)).symm)))), rfl⟩
  ·have hb3 := Eq.trans rfl (congrArg B (decide_eq_false hg1))
   refine wpL_gs rfl rfl rfl hb3 rfl ?_
   refine wpL_gs rfl rfl rfl hb3 rfl ?_
   refine wpL_gs rfl rfl rfl hb3 rfl ?_
   refine wpL_gs rfl rfl rfl hb3 rfl ?_
   refine lq rfl (q_pickF (v := B (false)) rfl hb3 rfl) ?_
   refine la (v := B (false)) rfl rfl rfl ?_
   exact ⟨(Eq.trans rfl (congrArg B ((decide_eq_false (fun h => hg1 h.1)).symm))), rfl⟩
 clear y0 y1
 rintro f4 _ ⟨y3, rfl⟩
 refine wpF_ret ?_
 refine ⟨_, resT y3 resN, hS0.frame, ?_⟩
 show (B (decide ((0 ≤ k) ∧ (k < (i + 2))))) = B (decide (0 ≤ k ∧ k < i + 2))
 rfl
set_option maxHeartbeats 4000000 in
set_option maxRecDepth 100000 in
theorem Check_D {H0 : Heap} (vx : Value) (ch : List Cho) (rt N m r : Nat) (rx : Rd NoB H0 vx (chI ch)) (hW : WFc N ch) (hrt : rt < ch.length + 2) (hv : visF ch m rt 2 = some r) (hr : r = ch.length + 2) (hN : N ≤ 16) (h4 : ch.length ≤ 4000) : CallsH Try.prog 42 #[I ((N : Int)), Vg #[vx, I ((rt : Int))]] H0 (fun rv_ H' => Ext NoB H0 H' ∧ rv_ = Vg #[I (0), I (0)]) := by
 have hsm := (Rd.list.1 rx).bound
 have hb24 : GoT.bytes Chc = 24 := rfl
 have hcl := chI_len (ch := ch)
 rw [hb24] at hsm
 have hS0 : St H0 NoB NoB [rdE vx (chI ch)] H0 := St.arg (St.start (fun _ h => h.elim)) (Bl0.nil) rx (fun _ h => h)
 refine callsH_of_wpF (args := [I ((N : Int)), Vg #[vx, I ((rt : Int))]]) (rs := [.cell 4 28]) Try.func42 rfl Try.ntmps42 Try.results42 (by kernel_rfl) (Nat.le_of_ble_eq_true rfl) ?_
 have y0 : argF [I ((N : Int)), Vg #[vx, I ((rt : Int))]] 0 = I ((N : Int)) := rfl
 have y1 : argF [I ((N : Int)), Vg #[vx, I ((rt : Int))]] 1 = Vg #[vx, I ((rt : Int))] := rfl
 generalize argF [I ((N : Int)), Vg #[vx, I ((rt : Int))]] = f0 at *
 refine wpF_seq ?_
 refine wpF_region ?_
 refine lo rfl ?_
 refine e_box (v := Vg #[vx, I ((rt : Int))]) rfl y1 hS0 (fun g1 H2 hS3 hxx => ?_)
 refine lo rfl ?_
 refine e_alloc rfl Try.zeroValue28 hS3 (fun g4 H5 hS6 hxx => ?_)
 refine wpL_nil ?_
 refine wpF_seq ?_
 refine wpF_block ?_
 refine fcr (fun f H => f 0 = I ((N : Int)) ∧ f 3 = PT g1 0 ∧ f 4 = PT g4 0 ∧ f 9 = B (decide (((N : Int) < 0) ∨ (16 < (N : Int)))) ∧ H5 = H) ?_ ?_
 ·refine lm (v := I ((N : Int))) rfl rfl y0 ?_
  refine lq rfl (q_lss rfl rfl rfl) ?_
  refine lm (v := B (decide ((N : Int) < 0))) rfl rfl rfl ?_
  by_cases hg7 : (N : Int) < 0
  ·have hb8 := Eq.trans rfl (congrArg B (decide_eq_true hg7))
   refine wpL_gs rfl rfl rfl hb8 rfl ?_
   refine wpL_gs rfl rfl rfl hb8 rfl ?_
   refine lq rfl (q_pickT (v := B (true)) rfl hb8 rfl) ?_
   refine la (v := B (true)) rfl rfl rfl ?_
   exact ⟨y0, rfl, rfl, (Eq.trans rfl (congrArg B ((decide_eq_true (Or.inl hg7)).symm))), rfl⟩
  ·have hb9 := Eq.trans rfl (congrArg B (decide_eq_false hg7))
   refine gq rfl rfl rfl hb9 (q_move (v := I ((N : Int))) rfl y0) ?_
   refine gq rfl rfl rfl hb9 (q_gtr rfl rfl rfl) ?_
   refine lq rfl (q_pickF (v := B (decide (16 < (N : Int)))) rfl hb9 rfl) ?_
   refine la (v := B (decide (16 < (N : Int)))) rfl rfl rfl ?_
   exact ⟨y0, rfl, rfl, (Eq.trans rfl (congrArg B (decide_congr_of ((Iff.rfl).trans (((or_iff_right hg7).trans Iff.rfl)).symm)))), rfl⟩
 clear y0
 rintro f10 _ ⟨y0, y3, y4, y9, rfl⟩
 refine wpF_condP y9 (fun h9 => ?t76) (fun h9 => ?e76)
 case t76 =>
  exact absurd h9 (by omega)
 refine wpF_seq ?_
 refine wpF_region ?_
 refine lq rfl (q_fieldAddr rfl Try.underlying51 rfl Try.sizeOf49 y3) ?_
 refine lq rfl (q_loadBlk rfl rfl Try.isAgg49 (hS6.blk 1 rfl) rfl (fun h => h)) ?_
 refine lq rfl (q_lenRd rfl Try.underlying49 rfl (hS6.rdl 2 rfl)) ?_
 refine lq rfl (q_gtr rfl rfl rfl) ?_
 refine la (v := B (decide (4000 < ((chI ch).length : Int)))) rfl rfl rfl ?_
 refine wpL_nil ?_
 refine wpF_condP rfl (fun h17 => ?t75) (fun h17 => ?e75)
 case t75 =>
  exact absurd h17 (by omega)
 refine wpF_skip ?_
 refine wpF_seq ?_
 refine wpF_region ?_
 refine lo rfl ?_
 refine e_makeMap (κ := Chc) (β := Bool) rfl hS6 (fun r13 H14 hS15 hxx => ?_)
 refine la (v := (Value.map (some r13))) rfl rfl rfl ?_
 refine wpL_nil ?_
 refine wpF_seq ?_
 refine wpF_seq ?_
 refine wpF_region ?_
 refine lq rfl (q_fieldAddr rfl Try.underlying51 rfl Try.sizeOf49 y3) ?_
 refine lq rfl (q_loadBlk rfl rfl Try.isAgg49 (hS15.blk 2 rfl) rfl (fun h => h)) ?_
 refine lq rfl (q_lenRd rfl Try.underlying49 rfl (hS15.rdl 3 rfl)) ?_
 refine lm (v := I (0)) rfl rfl rfl ?_
 refine wpL_nil ?_
 refine wpF_block ?_
 refine wpF_loop (fun mz f H => ∃ (k : Nat), ∃ (mm : List (Chc × Bool)), mz = ch.length - k ∧ (k ≤ ch.length) ∧ (∀ c, (mget mm c).getD false = true → ∃ j, j < k ∧ c = nth (chI ch) j) ∧ f 0 = I ((N : Int)) ∧ f 3 = PT g1 0 ∧ f 4 = PT g4 0 ∧ f 5 = (Value.map (some r13)) ∧ f 25 = vx ∧ f 26 = I (((chI ch).length : Int)) ∧ f 27 = I ((k : Int)) ∧ St H0 NoB NoB [mapE r13 (mm : List (Chc × Bool)), bE g4 #[I (0), I (0)] 28, bE g1 #[vx, I ((rt : Int))] 51, rdE vx (chI ch)] H) (ch.length - 0) ?_ ?_
 ·exact ⟨0, [], rfl, Nat.zero_le _, (fun c h => by cases h), y0, y3, y4, rfl, rfl, rfl, (Eq.trans rfl (congrArg I (by omega))), (show St H0 NoB NoB [mapE r13 (([]) : List (Chc × Bool)), bE g4 #[I (0), I (0)] 28, bE g1 #[vx, I ((rt : Int))] 51, rdE vx (chI ch)] H14 from hS15)⟩
 intro m16 f16 H16 hI16
 clear y0 y3 y4
 obtain ⟨k, mm, hm16, hk, hsn, y0, y3, y4, y5, y25, y26, y27, hS16⟩ := hI16
 refine wpF_seq ?_
 refine wpF_region ?_
 refine lq rfl (q_lss rfl y27 y26) ?_
 refine wpL_nil ?_
 refine wpF_seq ?_
 refine wpF_condP rfl (fun hlt => ?t74) (fun hlt => ?e74)
 case e74 =>
  refine wpF_exit ?_
  refine atX_here ?_
  refine wpF_seq ?_
  refine wpF_block ?_
  refine fcr (fun f H => f 3 = PT g1 0 ∧ f 4 = PT g4 0 ∧ f 94 = B (decide (((rt : Int) < 0) ∨ ((((chI ch).length : Int) + 2) ≤ (rt : Int)))) ∧ H16 = H) ?_ ?_
  ·refine lq rfl (q_fieldAddr rfl Try.underlying51 rfl Try.sizeOf3 y3) ?_
   refine lq rfl (q_loadBlk rfl rfl Try.isAgg3 (hS16.blk 2 rfl) rfl (fun h => h)) ?_
   refine lq rfl (q_lss rfl rfl rfl) ?_
   refine lm (v := B (decide ((rt : Int) < 0))) rfl rfl rfl ?_
   by_cases hg63 : (rt : Int) < 0
   ·have hb64 := Eq.trans rfl (congrArg B (decide_eq_true hg63))
    refine wpL_gs rfl rfl rfl hb64 rfl ?_
    refine wpL_gs rfl rfl rfl hb64 rfl ?_
    refine wpL_gs rfl rfl rfl hb64 rfl ?_
    refine wpL_gs rfl rfl rfl hb64 rfl ?_
    refine wpL_gs rfl rfl rfl hb64 rfl ?_
    refine wpL_gs rfl rfl rfl hb64 rfl ?_
    refine wpL_gs rfl rfl rfl hb64 rfl ?_
    refine lq rfl (q_pickT (v := B (true)) rfl hb64 rfl) ?_
    refine la (v := B (true)) rfl rfl rfl ?_
    exact ⟨y3, y4, (Eq.trans rfl (congrArg B ((decide_eq_true (Or.inl hg63)).symm))), rfl⟩
   ·have hb65 := Eq.trans rfl (congrArg B (decide_eq_false hg63))
    refine gq rfl rfl rfl hb65 (q_fieldAddr rfl Try.underlying51 rfl Try.sizeOf3 y3) ?_
    refine gq rfl rfl rfl hb65 (q_loadBlk rfl rfl Try.isAgg3 (hS16.blk 2 rfl) rfl (fun h => h)) ?_
    refine gq rfl rfl rfl hb65 (q_fieldAddr rfl Try.underlying51 rfl Try.sizeOf49 y3) ?_
    refine gq rfl rfl rfl hb65 (q_loadBlk rfl rfl Try.isAgg49 (hS16.blk 2 rfl) rfl (fun h => h)) ?_
    refine gq rfl rfl rfl hb65 (q_lenRd rfl Try.underlying49 rfl (hS16.rdl 3 rfl)) ?_
    refine gq rfl rfl rfl hb65 (q_add rfl rfl rfl (by constructor <;> omega)) ?_
    refine gq rfl rfl rfl hb65 (q_geq rfl rfl rfl) ?_
    refine lq rfl (q_pickF (v := B (decide ((((chI ch).length : Int) + 2) ≤ (rt : Int)))) rfl hb65 rfl) ?_
    refine la (v := B (decide ((((chI ch).length : Int) + 2) ≤ (rt : Int)))) rfl rfl rfl ?_
    exact ⟨y3, y4, (Eq.trans rfl (congrArg B (decide_congr_of ((Iff.rfl).trans (((or_iff_right hg63).trans Iff.rfl)).symm)))), rfl⟩
  clear y0 y25 y26 y27 y3 y4 y5
  rintro f66 _ ⟨y3, y4, y94, rfl⟩
  refine wpF_condP y94 (fun h94 => ?t73) (fun h94 => ?e73)
  case t73 =>
   exact absurd h94 (by omega)
  refine wpF_seq ?_
  refine wpF_region ?_
  refine lq rfl (q_loadBlkA rfl y3 Try.isAgg51 Try.sizeOf51 rfl (hS16.blk 2 rfl) (fun h => h)) ?_
  refine lo rfl ?_
  refine e_call rfl Try.call71 (arr1 (v0 := Vg #[vx, I ((rt : Int))]) rfl) (finished_D vx ch rt N m r (hS16.rdN 3 rfl) hW hrt hv hr) ?_
  rintro _ H68 ⟨hxx, rfl⟩
  have hS69 := hS16.ext hxx
  refine lq rfl (q_not rfl rfl) ?_
  refine la (v := B (false)) rfl rfl rfl ?_
  refine wpL_nil ?_
  refine wpF_condF rfl ?_
  refine wpF_skip ?_
  refine wpF_seq ?_
  refine wpF_region ?_
  refine lq rfl (q_build (v := Vg #[I (0), I (0)]) rfl par0 (fun w__ => by kernel_rfl)) ?_
  refine lo rfl ?_
  refine e_storeBlkA (cs' := #[I (0), I (0)]) rfl y4 rfl Try.sizeOf28 rfl rfl (fa rfl (fa rfl fe)) (hS69.front 1 rfl) (fun H71 hS72 hxx => ?_)
  refine wpL_nil ?_
  refine wpF_ret ?_
  refine ⟨_, resC y4 (loadV_blkA Try.isAgg28 Try.sizeOf28 rfl (hS72.blk 0 rfl)) (resN), hS72.frame, ?_⟩
  show (Vg #[I (0), I (0)]) = Vg #[I (0), I (0)]
  rfl
 have hck := hW.each k (by omega)
 obtain ⟨hk1, hk2, hk3, hk4, hk5, hk6, hk7⟩ := hck
 obtain ⟨he1, he2, he3⟩ := chI_at (ch := ch) (k := k) (by omega)
 have hl1 := levD_ge (ch := ch) (i := (nth ch k).2.1) hN
 have hl2 := levD_ge (ch := ch) (i := (nth ch k).2.2) hN
 refine wpF_skip ?_
 refine wpF_seq ?_
 refine wpF_block ?_
 refine wpF_seq ?_
 refine wpF_region ?_
 refine lm (v := I ((k : Int))) rfl rfl y27 ?_
 refine lq rfl (q_indexRd (k := k) rfl Try.underlying49 el_Chc_125_DiaC6 y25 y27 (hS16.rdl 3 rfl) (by omega) (by omega)) ?_
 obtain ⟨u18, huu18, hlu18⟩ := (Rd.list.1 (hS16.rdS 3 rfl)).elem k (by omega)
 obtain ⟨rfl, hu180, hu181, hu182⟩ := Rd.chc.1 huu18
 refine lq rfl (q_loadE rfl rfl (hlu18 Try.prog 125 _ el_Chc_125_DiaC6 (fun _ h => False.elim h))) ?_
 refine lo rfl ?_
 refine e_alloc rfl Try.zeroValue3 hS16 (fun g19 H20 hS21 hxx => ?_)
 refine lo rfl ?_
 refine e_alloc rfl Try.zeroValue125 hS21 (fun g22 H23 hS24 hxx => ?_)
 refine lo rfl ?_
 refine e_storeBlk (v := I ((k : Int))) rfl rfl rfl rfl Try.sizeOf3 (by show _ < 1; decide) (hS24.front 1 rfl) (fun H25 hS26 hxx => ?_)
 refine lo rfl ?_
 refine e_storeBlkA (cs' := #[I ((nth (chI ch) k).Var), I ((nth (chI ch) k).Low), I ((nth (chI ch) k).High)]) rfl rfl rfl Try.sizeOf125 rfl rfl (fa rfl (fa rfl (fa rfl fe))) (hS26.front 1 rfl) (fun H27 hS28 hxx => ?_)
 refine wpL_nil ?_
 refine wpF_seq ?_
 refine wpF_region ?_
 refine lq rfl (q_makeFunc (fi' := #[]) rfl (by simp) (arr1 (v0 := PT g19 0) rfl)) ?_
 refine la (v := Value.func (.func 69) #[] #[PT g19 0]) rfl rfl rfl ?_
 refine wpL_nil ?_
 refine wpF_seq ?_
 refine wpF_block ?_
 refine fcr (fun f H => f 0 = I ((N : Int)) ∧ f 3 = PT g1 0 ∧ f 4 = PT g4 0 ∧ f 5 = (Value.map (some r13)) ∧ f 6 = PT g19 0 ∧ f 7 = PT g22 0 ∧ f 25 = vx ∧ f 26 = I (((chI ch).length : Int)) ∧ f 27 = I ((k : Int)) ∧ f 33 = B (decide ((((((nth (chI ch) k).Var) < 1) ∨ ((N : Int) < ((nth (chI ch) k).Var))) ∨ (¬ (0 ≤ (nth (chI ch) k).Low ∧ (nth (chI ch) k).Low < (k : Int) + 2))) ∨ (¬ (0 ≤ (nth (chI ch) k).High ∧ (nth (chI ch) k).High < (k : Int) + 2)))) ∧ St H0 NoB NoB [bE g22 #[I ((nth (chI ch) k).Var), I ((nth (chI ch) k).Low), I ((nth (chI ch) k).High)] 125, bE g19 #[I ((k : Int))] 3, mapE r13 (mm : List (Chc × Bool)), bE g4 #[I (0), I (0)] 28, bE g1 #[vx, I ((rt : Int))] 51, rdE vx (chI ch)] H) ?_ ?_
 ·refine lq rfl (q_fieldAddr rfl Try.underlying125 rfl Try.sizeOf3 rfl) ?_
  refine lq rfl (q_loadBlk rfl rfl Try.isAgg3 (hS28.blk 0 rfl) rfl (fun h => h)) ?_
  refine lq rfl (q_lss rfl rfl rfl) ?_
  refine lm (v := B (decide (((nth (chI ch) k).Var) < 1))) rfl rfl rfl ?_
  by_cases hg29 : ((nth (chI ch) k).Var) < 1
  ·have hb30 := Eq.trans rfl (congrArg B (decide_eq_true hg29))
   refine wpL_gs rfl rfl rfl hb30 rfl ?_
   refine wpL_gs rfl rfl rfl hb30 rfl ?_
   refine wpL_gs rfl rfl rfl hb30 rfl ?_
   refine wpL_gs rfl rfl rfl hb30 rfl ?_
   refine lq rfl (q_pickT (v := B (true)) rfl hb30 rfl) ?_
   refine lm (v := B (true)) rfl rfl rfl ?_
   refine wpL_gs rfl rfl rfl rfl rfl ?_
   refine wpL_gs rfl rfl rfl rfl rfl ?_
   refine wpL_gs rfl rfl rfl rfl rfl ?_
   refine wpL_gs rfl rfl rfl rfl rfl ?_
   refine wpL_gs rfl rfl rfl rfl rfl ?_
   refine lq rfl (q_pickT (v := B (true)) rfl rfl rfl) ?_
   refine lm (v := B (true)) rfl rfl rfl ?_
   refine wpL_gs rfl rfl rfl rfl rfl ?_
   refine wpL_gs rfl rfl rfl rfl rfl ?_
   refine wpL_gs rfl rfl rfl rfl rfl ?_
   refine wpL_gs rfl rfl rfl rfl rfl ?_
   refine wpL_gs rfl rfl rfl rfl rfl ?_
   refine lq rfl (q_pickT (v := B (true)) rfl rfl rfl) ?_
   refine la (v := B (true)) rfl rfl rfl ?_
   exact ⟨y0, y3, y4, y5, rfl, rfl, y25, y26, y27, (Eq.trans rfl (congrArg B ((decide_eq_true (Or.inl (Or.inl (Or.inl hg29)))).symm))), hS28⟩
  ·have hb31 := Eq.trans rfl (congrArg B (decide_eq_false hg29))
   refine gq rfl rfl rfl hb31 (q_fieldAddr rfl Try.underlying125 rfl Try.sizeOf3 rfl) ?_
   refine gq rfl rfl rfl hb31 (q_loadBlk rfl rfl Try.isAgg3 (hS28.blk 0 rfl) rfl (fun h => h)) ?_
   refine gq rfl rfl rfl hb31 (q_move (v := I ((N : Int))) rfl y0) ?_
   refine gq rfl rfl rfl hb31 (q_gtr rfl rfl rfl) ?_
   refine lq rfl (q_pickF (v := B (decide ((N : Int) < ((nth (chI ch) k).Var)))) rfl hb31 rfl) ?_
   refine lm (v := B (decide ((N : Int) < ((nth (chI ch) k).Var)))) rfl rfl rfl ?_
   by_cases hg32 : (N : Int) < ((nth (chI ch) k).Var)
   ·have hb33 := Eq.trans rfl (congrArg B (decide_eq_true hg32))
    refine wpL_gs rfl rfl rfl hb33 rfl ?_
    refine wpL_gs rfl rfl rfl hb33 rfl ?_
    refine wpL_gs rfl rfl rfl hb33 rfl ?_
    refine wpL_gs rfl rfl rfl hb33 rfl ?_
    refine wpL_gs rfl rfl rfl hb33 rfl ?_
    refine lq rfl (q_pickT (v := B (true)) rfl hb33 rfl) ?_
    refine lm (v := B (true)) rfl rfl rfl ?_
    refine wpL_gs rfl rfl rfl rfl rfl ?_
    refine wpL_gs rfl rfl rfl rfl rfl ?_
    refine wpL_gs rfl rfl rfl rfl rfl ?_
    refine wpL_gs rfl rfl rfl rfl rfl ?_
    refine wpL_gs rfl rfl rfl rfl rfl ?_
    refine lq rfl (q_pickT (v := B (true)) rfl rfl rfl) ?_
    refine la (v := B (true)) rfl rfl rfl ?_
    exact ⟨y0, y3, y4, y5, rfl, rfl, y25, y26, y27, (Eq.trans rfl (congrArg B ((decide_eq_true (Or.inl (Or.inl (Or.inr hg32)))).symm))), hS28⟩
   ·have hb34 := Eq.trans rfl (congrArg B (decide_eq_false hg32))
    refine gq rfl rfl rfl hb34 (q_move (v := Value.func (.func 69) #[] #[PT g19 0]) rfl rfl) ?_
    refine gq rfl rfl rfl hb34 (q_fieldAddr rfl Try.underlying125 rfl Try.sizeOf3 rfl) ?_
    refine gq rfl rfl rfl hb34 (q_loadBlk rfl rfl Try.isAgg3 (hS28.blk 0 rfl) rfl (fun h => h)) ?_
    refine wpL_go rfl rfl rfl hb34 ?_
    refine e_callV rfl rfl Try.call69 (arr1 (v0 := I ((nth (chI ch) k).Low)) rfl) (Check_1 ((nth (chI ch) k).Low) (k : Int) g19 (hS28.blk 1 rfl) (by omega)) ?_
    rintro _ H35 ⟨hxx, rfl⟩
    have hS36 := hS28.ext hxx
    refine gq rfl rfl rfl hb34 (q_notP rfl rfl) ?_
    refine lq rfl (q_pickF (v := B (decide (¬ (0 ≤ (nth (chI ch) k).Low ∧ (nth (chI ch) k).Low < (k : Int) + 2)))) rfl hb34 rfl) ?_
    refine lm (v := B (decide (¬ (0 ≤ (nth (chI ch) k).Low ∧ (nth (chI ch) k).Low < (k : Int) + 2)))) rfl rfl rfl ?_
    by_cases hg38 : ¬ (0 ≤ (nth (chI ch) k).Low ∧ (nth (chI ch) k).Low < (k : Int) + 2)
    ·have hb39 := Eq.trans rfl (congrArg B (decide_eq_true hg38))
     refine wpL_gs rfl rfl rfl hb39 rfl ?_
     refine wpL_gs rfl rfl rfl hb39 rfl ?_
     refine wpL_gs rfl rfl rfl hb39 rfl ?_
     refine wpL_gs rfl rfl rfl hb39 rfl ?_
     refine wpL_gs rfl rfl rfl hb39 rfl ?_
     refine lq rfl (q_pickT (v := B (true)) rfl hb39 rfl) ?_
     refine la (v := B (true)) rfl rfl rfl ?_
     exact ⟨y0, y3, y4, y5, rfl, rfl, y25, y26, y27, (Eq.trans rfl (congrArg B ((decide_eq_true (Or.inl (Or.inr hg38))).symm))), hS36⟩
    ·have hb40 := Eq.trans rfl (congrArg B (decide_eq_false hg38))
     refine gq rfl rfl rfl hb40 (q_move (v := Value.func (.func 69) #[] #[PT g19 0]) rfl rfl) ?_
     refine gq rfl rfl rfl hb40 (q_fieldAddr rfl Try.underlying125 rfl Try.sizeOf3 rfl) ?_
     refine gq rfl rfl rfl hb40 (q_loadBlk rfl rfl Try.isAgg3 (hS36.blk 0 rfl) rfl (fun h => h)) ?_
     refine wpL_go rfl rfl rfl hb40 ?_
     refine e_callV rfl rfl Try.call69 (arr1 (v0 := I ((nth (chI ch) k).High)) rfl) (Check_1 ((nth (chI ch) k).High) (k : Int) g19 (hS36.blk 1 rfl) (by omega)) ?_
     rintro _ H41 ⟨hxx, rfl⟩
     have hS42 := hS36.ext hxx
     refine gq rfl rfl rfl hb40 (q_notP rfl rfl) ?_
     refine lq rfl (q_pickF (v := B (decide (¬ (0 ≤ (nth (chI ch) k).High ∧ (nth (chI ch) k).High < (k : Int) + 2)))) rfl hb40 rfl) ?_
     refine la (v := B (decide (¬ (0 ≤ (nth (chI ch) k).High ∧ (nth (chI ch) k).High < (k : Int) + 2)))) rfl rfl rfl ?_
     exact ⟨y0, y3, y4, y5, rfl, rfl, y25, y26, y27, (Eq.trans rfl (congrArg B (decide_congr_of (((not_congr Iff.rfl)).trans (((or_iff_right (not_or.2 ⟨(not_or.2 ⟨hg29, hg32⟩), hg38⟩)).trans (not_congr Iff.rfl))).symm)))), hS42⟩
 clear y0 y25 y26 y27 y3 y4 y5
 rintro f44 H44 ⟨y0, y3, y4, y5, y6, y7, y25, y26, y27, y33, hS44⟩
 refine wpF_condP y33 (fun h33 => ?t62) (fun h33 => ?e62)
 case t62 =>
  exact absurd h33 (by omega)
 refine sc (fun f H => f 0 = I ((N : Int)) ∧ f 3 = PT g1 0 ∧ f 4 = PT g4 0 ∧ f 5 = (Value.map (some r13)) ∧ f 6 = PT g19 0 ∧ f 7 = PT g22 0 ∧ f 25 = vx ∧ f 26 = I (((chI ch).length : Int)) ∧ f 27 = I ((k : Int)) ∧ f 59 = B (decide (((((nth (chI ch) k).Low) = ((nth (chI ch) k).High)) ∨ (((levD ch ((nth ch k).2.1) : Nat) : Int) ≤ ((nth (chI ch) k).Var))) ∨ (((levD ch ((nth ch k).2.2) : Nat) : Int) ≤ ((nth (chI ch) k).Var)))) ∧ St H0 NoB NoB [bE g22 #[I ((nth (chI ch) k).Var), I ((nth (chI ch) k).Low), I ((nth (chI ch) k).High)] 125, bE g19 #[I ((k : Int))] 3, mapE r13 (mm : List (Chc × Bool)), bE g4 #[I (0), I (0)] 28, bE g1 #[vx, I ((rt : Int))] 51, rdE vx (chI ch)] H) ?_ ?_
 ·refine wpF_drawn [] [] (fun _ _ => False) (by kernel_rfl) (by kernel_rfl) ?_
  refine rq 0 (by kernel_rfl) rfl rfl (q_fieldAddr rfl Try.underlying125 rfl Try.sizeOf3 y7) ?_
  refine rq 1 (by kernel_rfl) rfl rfl (q_loadBlk rfl rfl Try.isAgg3 (hS44.blk 0 rfl) rfl (labU_not [] rfl (fe))) ?_
  refine rq 2 (by kernel_rfl) rfl rfl (q_fieldAddr rfl Try.underlying125 rfl Try.sizeOf3 y7) ?_
  refine rq 3 (by kernel_rfl) rfl rfl (q_loadBlk rfl rfl Try.isAgg3 (hS44.blk 0 rfl) rfl (labU_not [] rfl (fe))) ?_
  refine rq 4 (by kernel_rfl) rfl rfl (q_eql rfl rfl rfl) ?_
  refine rq 5 (by kernel_rfl) rfl rfl (q_move (v := B (decide (((nth (chI ch) k).Low) = ((nth (chI ch) k).High)))) rfl rfl) ?_
  by_cases hg47 : ((nth (chI ch) k).Low) = ((nth (chI ch) k).High)
  ·have hb48 := Eq.trans rfl (congrArg B (decide_eq_true hg47))
   refine wpR_q 6 (by kernel_rfl) rfl (quietAt_s rfl rfl rfl rfl hb48 rfl) ?_
   refine wpR_q 7 (by kernel_rfl) rfl (quietAt_s rfl rfl rfl rfl hb48 rfl) ?_
   refine wpR_q 8 (by kernel_rfl) rfl (quietAt_s rfl rfl rfl rfl hb48 rfl) ?_
   refine wpR_q 9 (by kernel_rfl) rfl (quietAt_s rfl rfl rfl rfl hb48 rfl) ?_
   refine wpR_q 10 (by kernel_rfl) rfl (quietAt_s rfl rfl rfl rfl hb48 rfl) ?_
   refine wpR_q 11 (by kernel_rfl) rfl (quietAt_s rfl rfl rfl rfl hb48 rfl) ?_
   refine wpR_q 12 (by kernel_rfl) rfl (quietAt_s rfl rfl rfl rfl hb48 rfl) ?_
   refine rq 13 (by kernel_rfl) rfl rfl (q_pickT (v := B (true)) rfl hb48 rfl) ?_
   refine rq 14 (by kernel_rfl) rfl rfl (q_move (v := B (true)) rfl rfl) ?_
   refine wpR_q 15 (by kernel_rfl) rfl (quietAt_s rfl rfl rfl rfl rfl rfl) ?_
   refine wpR_q 16 (by kernel_rfl) rfl (quietAt_s rfl rfl rfl rfl rfl rfl) ?_
   refine wpR_q 17 (by kernel_rfl) rfl (quietAt_s rfl rfl rfl rfl rfl rfl) ?_
   refine wpR_q 18 (by kernel_rfl) rfl (quietAt_s rfl rfl rfl rfl rfl rfl) ?_
   refine wpR_q 19 (by kernel_rfl) rfl (quietAt_s rfl rfl rfl rfl rfl rfl) ?_
   refine wpR_q 20 (by kernel_rfl) rfl (quietAt_s rfl rfl rfl rfl rfl rfl) ?_
   refine wpR_q 21 (by kernel_rfl) rfl (quietAt_s rfl rfl rfl rfl rfl rfl) ?_
   refine rq 22 (by kernel_rfl) rfl rfl (q_pickT (v := B (true)) rfl rfl rfl) ?_
   refine rq 23 (by kernel_rfl) rfl rfl (q_assign (v := B (true)) rfl rfl) ?_
   refine wpR_end (by kernel_rfl) ?_
   exact ⟨y0, y3, y4, y5, y6, y7, y25, y26, y27, (Eq.trans rfl (congrArg B ((decide_eq_true (Or.inl (Or.inl hg47))).symm))), hS44⟩
  ·have hb49 := Eq.trans rfl (congrArg B (decide_eq_false hg47))
   refine wpR_q 6 (by kernel_rfl) rfl (quietAt_g rfl rfl rfl rfl hb49 (q_loadBlkA rfl y3 Try.isAgg51 Try.sizeOf51 rfl (hS44.blk 4 rfl) (labU_not [] rfl (fe)))) ?_
   refine wpR_q 7 (by kernel_rfl) rfl (quietAt_g rfl rfl rfl rfl hb49 (q_fieldAddr rfl Try.underlying125 rfl Try.sizeOf3 y7)) ?_
   refine wpR_q 8 (by kernel_rfl) rfl (quietAt_g rfl rfl rfl rfl hb49 (q_loadBlk rfl rfl Try.isAgg3 (hS44.blk 0 rfl) rfl (labU_not [] rfl (fe)))) ?_
   refine wpR_q 10 (by kernel_rfl) rfl (quietAt_g rfl rfl rfl rfl hb49 (q_fieldAddr rfl Try.underlying125 rfl Try.sizeOf3 y7)) ?_
   refine wpR_q 11 (by kernel_rfl) rfl (quietAt_g rfl rfl rfl rfl hb49 (q_loadBlk rfl rfl Try.isAgg3 (hS44.blk 0 rfl) rfl (labU_not [] rfl (fe)))) ?_
   refine wpR_n [9] (by kernel_rfl) ?_
   refine fa ?_ fe
   refine exE_g rfl rfl rfl rfl hb49 ?_
   refine e_call rfl Try.call70 (arr2 (v0 := Vg #[vx, I ((rt : Int))]) (v1 := I ((nth (chI ch) k).Low)) rfl rfl) ((by have h__ := level_D (H0 := H44) vx ch rt ((nth ch k).2.1) (hS44.rdN 5 rfl) (by omega); rw [show (((nth ch k).2.1 : Nat) : Int) = _ from he2.symm] at h__; exact h__)) ?_
   rintro _ H46o9 ⟨hxx, rfl⟩
   have hS46o9 := hS44.ext hxx
   refine ⟨Ext.mono hxx (fun _ h => h.elim), ?_⟩
   refine wpR_q 12 (by kernel_rfl) rfl (quietAt_g rfl rfl rfl rfl hb49 (q_leq rfl rfl rfl)) ?_
   refine rq 13 (by kernel_rfl) rfl rfl (q_pickF (v := B (decide (((levD ch ((nth ch k).2.1) : Nat) : Int) ≤ ((nth (chI ch) k).Var)))) rfl hb49 rfl) ?_
   refine rq 14 (by kernel_rfl) rfl rfl (q_move (v := B (decide (((levD ch ((nth ch k).2.1) : Nat) : Int) ≤ ((nth (chI ch) k).Var)))) rfl rfl) ?_
   by_cases hg50 : ((levD ch ((nth ch k).2.1) : Nat) : Int) ≤ ((nth (chI ch) k).Var)
   ·have hb51 := Eq.trans rfl (congrArg B (decide_eq_true hg50))
    refine wpR_q 15 (by kernel_rfl) rfl (quietAt_s rfl rfl rfl rfl hb51 rfl) ?_
    refine wpR_q 16 (by kernel_rfl) rfl (quietAt_s rfl rfl rfl rfl hb51 rfl) ?_
    refine wpR_q 17 (by kernel_rfl) rfl (quietAt_s rfl rfl rfl rfl hb51 rfl) ?_
    refine wpR_q 18 (by kernel_rfl) rfl (quietAt_s rfl rfl rfl rfl hb51 rfl) ?_
    refine wpR_q 19 (by kernel_rfl) rfl (quietAt_s rfl rfl rfl rfl hb51 rfl) ?_
    refine wpR_q 20 (by kernel_rfl) rfl (quietAt_s rfl rfl rfl rfl hb51 rfl) ?_
    refine wpR_q 21 (by kernel_rfl) rfl (quietAt_s rfl rfl rfl rfl hb51 rfl) ?_
    refine rq 22 (by kernel_rfl) rfl rfl (q_pickT (v := B (true)) rfl hb51 rfl) ?_
    refine rq 23 (by kernel_rfl) rfl rfl (q_assign (v := B (true)) rfl rfl) ?_
    refine wpR_end (by kernel_rfl) ?_
    exact ⟨y0, y3, y4, y5, y6, y7, y25, y26, y27, (Eq.trans rfl (congrArg B ((decide_eq_true (Or.inl (Or.inr hg50))).symm))), hS46o9⟩
   ·have hb52 := Eq.trans rfl (congrArg B (decide_eq_false hg50))
    refine wpR_q 15 (by kernel_rfl) rfl (quietAt_g rfl rfl rfl rfl hb52 (q_loadBlkA rfl y3 Try.isAgg51 Try.sizeOf51 rfl (hS46o9.blk 4 rfl) (labU_not [] rfl (fe)))) ?_
    refine wpR_q 16 (by kernel_rfl) rfl (quietAt_g rfl rfl rfl rfl hb52 (q_fieldAddr rfl Try.underlying125 rfl Try.sizeOf3 y7)) ?_
    refine wpR_q 17 (by kernel_rfl) rfl (quietAt_g rfl rfl rfl rfl hb52 (q_loadBlk rfl rfl Try.isAgg3 (hS46o9.blk 0 rfl) rfl (labU_not [] rfl (fe)))) ?_
    refine wpR_q 19 (by kernel_rfl) rfl (quietAt_g rfl rfl rfl rfl hb52 (q_fieldAddr rfl Try.underlying125 rfl Try.sizeOf3 y7)) ?_
    refine wpR_q 20 (by kernel_rfl) rfl (quietAt_g rfl rfl rfl rfl hb52 (q_loadBlk rfl rfl Try.isAgg3 (hS46o9.blk 0 rfl) rfl (labU_not [] rfl (fe)))) ?_
    refine wpR_n [18] (by kernel_rfl) ?_
    refine fa ?_ fe
    refine exE_g rfl rfl rfl rfl hb52 ?_
    refine e_call rfl Try.call70 (arr2 (v0 := Vg #[vx, I ((rt : Int))]) (v1 := I ((nth (chI ch) k).High)) rfl rfl) ((by have h__ := level_D (H0 := H46o9) vx ch rt ((nth ch k).2.2) (hS46o9.rdN 5 rfl) (by omega); rw [show (((nth ch k).2.2 : Nat) : Int) = _ from he3.symm] at h__; exact h__)) ?_
    rintro _ H46o18 ⟨hxx, rfl⟩
    have hS46o18 := hS46o9.ext hxx
    refine ⟨Ext.mono hxx (fun _ h => h.elim), ?_⟩
    refine wpR_q 21 (by kernel_rfl) rfl (quietAt_g rfl rfl rfl rfl hb52 (q_leq rfl rfl rfl)) ?_
    refine rq 22 (by kernel_rfl) rfl rfl (q_pickF (v := B (decide (((levD ch ((nth ch k).2.2) : Nat) : Int) ≤ ((nth (chI ch) k).Var)))) rfl hb52 rfl) ?_
    refine rq 23 (by kernel_rfl) rfl rfl (q_assign (v := B (decide (((levD ch ((nth ch k).2.2) : Nat) : Int) ≤ ((nth (chI ch) k).Var)))) rfl rfl) ?_
    refine wpR_end (by kernel_rfl) ?_
    exact ⟨y0, y3, y4, y5, y6, y7, y25, y26, y27, (Eq.trans rfl (congrArg B (decide_congr_of ((Iff.rfl).trans (((or_iff_right (not_or.2 ⟨hg47, hg50⟩)).trans Iff.rfl)).symm)))), hS46o18⟩
 clear y0 y25 y26 y27 y3 y33 y4 y5 y6 y7
 rintro f53 H53 ⟨y0, y3, y4, y5, y6, y7, y25, y26, y27, y59, hS53⟩
 refine wpF_condP y59 (fun h59 => ?t61) (fun h59 => ?e61)
 case t61 =>
  exact absurd h59 (by omega)
 refine wpF_seq ?_
 refine wpF_region ?_
 refine lm (v := (Value.map (some r13))) rfl rfl y5 ?_
 refine lq rfl (q_loadBlkA rfl y7 Try.isAgg125 Try.sizeOf125 rfl (hS53.blk 0 rfl) (fun h => h)) ?_
 obtain ⟨u55, hlu55, hru55⟩ := lookD (t := 123) (d := (false : Bool)) Try.underlying123 (keyLaw_chc_125_DiaC6) Try.zeroValue4 (fun _ _ => Rd.bool.2 rfl) (Chc.mk ((nth (chI ch) k).Var) ((nth (chI ch) k).Low) ((nth (chI ch) k).High)) (hS53.get 2 rfl)
 obtain rfl := Rd.bool.1 hru55
 refine lq rfl (q_lookup0 rfl rfl rfl (hlu55 _ (fun h => h))) ?_
 refine la (v := B ((mget mm (Chc.mk ((nth (chI ch) k).Var) ((nth (chI ch) k).Low) ((nth (chI ch) k).High))).getD false)) rfl rfl rfl ?_
 refine wpL_nil ?_
 refine wpF_cond rfl (fun h85 => ?t60) (fun h85 => ?e60)
 case t60 =>
  exact (chk_twice hW.nd (by omega) hsn h85).elim
 refine wpF_skip ?_
 refine wpF_region ?_
 refine lm (v := (Value.map (some r13))) rfl rfl y5 ?_
 refine lq rfl (q_loadBlkA rfl y7 Try.isAgg125 Try.sizeOf125 rfl (hS53.blk 0 rfl) (fun h => h)) ?_
 have hS57 := (hS53.front 2 rfl)
 refine lo rfl ?_
 refine e_mapUpdate (k := (Chc.mk ((nth (chI ch) k).Var) ((nth (chI ch) k).Low) ((nth (chI ch) k).High))) (.inl rfl) Try.underlying123 (keyLaw_chc_125_DiaC6) rfl rfl rfl hS57 (Rd.bool.2 rfl) (fun H58 hS59 hxx => ?_)
 refine wpL_nil ?_
 refine wpF_region ?_
 refine lq rfl (q_add rfl y27 rfl (by constructor <;> omega)) ?_
 refine lm (v := I ((k : Int) + 1)) rfl rfl rfl ?_
 refine wpL_nil ?_
 refine ⟨_, ?_, k + 1, mset mm (Chc.mk ((nth (chI ch) k).Var) ((nth (chI ch) k).Low) ((nth (chI ch) k).High)) true, rfl, (by omega), (seen_step hsn rfl), y0, y3, y4, y5, y25, y26, (Eq.trans rfl (congrArg I (by omega))), (show St H0 NoB NoB [mapE r13 ((mset mm (Chc.mk ((nth (chI ch) k).Var) ((nth (chI ch) k).Low) ((nth (chI ch) k).High)) true) : List (Chc × Bool)), bE g4 #[I (0), I (0)] 28, bE g1 #[vx, I ((rt : Int))] 51, rdE vx (chI ch)] H58 from (hS59.drop (sk (sn (sn (sk (sk (sk (List.Sublist.slnil)))))))))⟩
 omega
end Go.Um
