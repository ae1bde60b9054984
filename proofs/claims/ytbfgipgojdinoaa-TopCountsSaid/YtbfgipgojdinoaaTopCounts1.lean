import Derived.Test.YtbfgipgojdinoaaProg
import Derived.Test.YtbfgipgojdinoaaDiaC2
import Derived.Test.YtbfgipgojdinoaaDiaC7
import Derived.Test.YtbfgipgojdinoaaDiaC9
import Derived.Test.YtbfgipgojdinoaaDiaI2
import Derived.Test.YtbfgipgojdinoaaCardC9
import Derived.Test.YtbfgipgojdinoaaUmTopCountsC
namespace Go.Um
open Go.Proofs
open GoT (sz ag rdc)
open KeyT (kv)
theorem el_LBool_31_TopCounts1 : ElT Try.prog (List Bool) 31 := ⟨Try.isAgg31, Try.sizeOf31⟩
set_option maxHeartbeats 8000000 in
set_option maxRecDepth 100000 in
theorem TopCounts_L {H0 : Heap} (vl : Value) (l : List Int) (k : Int) (rl : Rd NoB H0 vl l) : CallsH Try.prog 4 #[vl, I (k)] H0 (fun rv_ H' => Ext NoB H0 H' ∧ rv_ = B true) := by
 have hS0 : St H0 NoB NoB [rdE vl l] H0 := St.arg (St.start (fun _ h => h.elim)) (Bl0.nil) rl (fun _ h => h)
 refine callsH_of_wpF (args := [vl, I (k)]) (rs := [.tmp 4]) Try.func4 rfl Try.ntmps4 Try.results4 (by kernel_rfl) (Nat.le_of_ble_eq_true rfl) ?_
 have y0 : argF [vl, I (k)] 0 = vl := rfl
 have y1 : argF [vl, I (k)] 1 = I (k) := rfl
 generalize argF [vl, I (k)] = f0 at *
 refine wpF_seq ?_
 refine wpF_region ?_
 refine la (v := B (false)) rfl rfl rfl ?_
 refine wpL_nil ?_
 refine wpF_seq ?_
 refine wpF_region ?_
 refine lm (v := vl) rfl rfl y0 ?_
 refine lo rfl ?_
 refine e_call rfl Try.call11 (arr3 (v0 := vl) (v1 := I (6)) (v2 := I (10)) rfl rfl rfl) (CnfOf_K vl l (hS0.rdS 0 rfl)) ?_
 rintro _ H3 ⟨hxx, r1, C2, rfl, hrr1, hlC2, hoC2⟩
 have hS4 := hS0.res hxx hrr1
 refine lo rfl ?_
 refine e_alloc rfl Try.zeroValue26 hS4 (fun g6 H7 hS8 hxx => ?_)
 refine lo rfl ?_
 refine e_storeBlkA (cs' := #[I (6), r1]) rfl rfl rfl Try.sizeOf26 rfl rfl (fa rfl (fa ((oneCell_rdL (hS8.rdl 1 rfl))) fe)) hS8 (fun H9 hS10 hxx => ?_)
 refine wpL_nil ?_
 have hlo : ∀ c ∈ C2, litsOk ((6 : Nat) : Int) c := fun c hc => (hoC2 c hc).1
 have hw : ∀ c ∈ C2, c.length ≤ 24 := fun c hc => Nat.le_trans (hoC2 c hc).2 (by decide)
 have hok : cnfOk ((6 : Nat) : Int) C2 := ⟨by decide, by decide, by omega, fun c hc => ⟨hw c hc, hlo c hc⟩⟩
 have hfa : ∀ i, ∀ c ∈ C2, fitA (asgL 6 i) c := fun i c hc => fit_of asgL_len (by decide) (hlo c hc)
 have hnz : ∀ c ∈ C2, ∀ y ∈ c, ¬ y = 0 := fun c hc y hy => by obtain ⟨j, hj, rfl⟩ := nth_of_mem hy; exact (hlo c hc j hj).1
 have hmm : modTo C2 6 64 = (modsTo C2 6 64).length := mod_mods hnz
 obtain ⟨Lm, hLm⟩ : ∃ Lm, Lm = modsTo C2 6 64 := ⟨_, rfl⟩
 rw [← hLm] at hmm
 have hLl : Lm.length ≤ 64 := by rw [hLm]; exact mods_le
 refine wpF_seq ?_
 refine wpF_region ?_
 refine lq rfl (q_loadBlkA rfl rfl Try.isAgg26 Try.sizeOf26 rfl (hS10.blk 0 rfl) (fun h => h)) ?_
 refine lo rfl ?_
 refine e_call rfl Try.call12 (arr1 (v0 := Vg #[I (6), r1]) rfl) ((by have h__ := models_L (H0 := H9) r1 C2 6 (hS10.rdN 1 rfl) (by decide) hlo hw; rw [show 2 ^ 6 = 64 from rfl, hmm] at h__; exact h__)) ?_
 rintro _ H11 ⟨hxx, rfl⟩
 have hS12 := hS10.ext hxx
 refine la (v := I ((Lm.length : Int))) rfl rfl rfl ?_
 refine wpL_nil ?_
 refine wpF_seq ?_
 refine wpF_region ?_
 refine lq rfl (q_loadBlkA rfl rfl Try.isAgg26 Try.sizeOf26 rfl (hS12.blk 0 rfl) (fun h => h)) ?_
 refine lo rfl ?_
 refine e_call rfl Try.call13 (arr1 (v0 := Vg #[I (6), r1]) rfl) ((by have h__ := In.Count_A (H0 := H11) r1 C2 6 (hS12.rdN 1 rfl) hok hlo (by decide); rw [show 2 ^ 6 = 64 from rfl, ← hLm] at h__; exact h__)) ?_
 rintro _ H14 ⟨hxx, rfl⟩
 have hS15 := hS12.ext hxx
 refine lm (v := Value.tuple #[I ((Lm.length : Int)), Vg #[I (0), I (0)]]) rfl rfl rfl ?_
 refine lq rfl (q_extract (vs := #[I ((Lm.length : Int)), Vg #[I (0), I (0)]]) (v := I ((Lm.length : Int))) rfl rfl rfl) ?_
 refine lq rfl (q_extract (vs := #[I ((Lm.length : Int)), Vg #[I (0), I (0)]]) (v := Vg #[I (0), I (0)]) rfl rfl rfl) ?_
 refine lo rfl ?_
 refine e_alloc rfl Try.zeroValue28 hS15 (fun g17 H18 hS19 hxx => ?_)
 refine la (v := I ((Lm.length : Int))) rfl rfl rfl ?_
 refine lo rfl ?_
 refine e_storeBlkA (cs' := #[I (0), I (0)]) rfl rfl rfl Try.sizeOf28 rfl rfl (fa rfl (fa rfl fe)) hS19 (fun H20 hS21 hxx => ?_)
 refine wpL_nil ?_
 refine wpF_seq ?_
 refine wpF_region ?_
 refine lq rfl (q_loadBlkA rfl rfl Try.isAgg26 Try.sizeOf26 rfl (hS21.blk 1 rfl) (fun h => h)) ?_
 refine lo rfl ?_
 refine e_call rfl Try.call14 (arr2 (v0 := Vg #[I (6), r1]) (v1 := I (64)) rfl rfl) ((by have h__ := In.Models_A (H0 := H20) (S := SL NoB [bE g17 #[I (0), I (0)] 28, bE g6 #[I (6), r1] 26, rdE r1 C2, rdE vl l]) r1 C2 6 (hS21.rdS 2 rfl) hok hlo (by decide); rw [show 2 ^ 6 = 64 from rfl, ← hLm] at h__; exact h__)) ?_
 rintro _ H23 ⟨hxx, r22, rfl, hrr22⟩
 have hS24 := hS21.res hxx hrr22
 refine lm (v := Value.tuple #[r22, Vg #[I (0), I (0)]]) rfl rfl rfl ?_
 refine lq rfl (q_extract (vs := #[r22, Vg #[I (0), I (0)]]) (v := r22) rfl rfl rfl) ?_
 refine lq rfl (q_extract (vs := #[r22, Vg #[I (0), I (0)]]) (v := Vg #[I (0), I (0)]) rfl rfl rfl) ?_
 refine lo rfl ?_
 refine e_alloc rfl Try.zeroValue28 hS24 (fun g26 H27 hS28 hxx => ?_)
 refine la (v := r22) rfl rfl rfl ?_
 refine lo rfl ?_
 refine e_storeBlkA (cs' := #[I (0), I (0)]) rfl rfl rfl Try.sizeOf28 rfl rfl (fa rfl (fa rfl fe)) hS28 (fun H29 hS30 hxx => ?_)
 refine wpL_nil ?_
 refine wpF_seq ?_
 refine wpF_region ?_
 refine lq rfl (q_loadBlkA rfl rfl Try.isAgg26 Try.sizeOf26 rfl (hS30.blk 3 rfl) (fun h => h)) ?_
 refine lo rfl ?_
 refine e_call rfl Try.call15 (arr1 (v0 := Vg #[I (6), r1]) rfl) (Of_D (S := SL NoB [bE g26 #[I (0), I (0)] 28, rdE r22 Lm, bE g17 #[I (0), I (0)] 28, bE g6 #[I (6), r1] 26, rdE r1 C2, rdE vl l]) r1 C2 6 (hS30.rdS 4 rfl) hok hlo (by decide)) ?_
 rintro _ H31 ⟨hxx, vx, ch, rt, rfl, hrx, hW, hrt, hvi, htb, hc⟩
 have hS32 := hS30.res hxx hrx
 refine lm (v := Value.tuple #[Vg #[vx, I ((rt : Int))], Vg #[I (0), I (0)]]) rfl rfl rfl ?_
 refine lq rfl (q_extract (vs := #[Vg #[vx, I ((rt : Int))], Vg #[I (0), I (0)]]) (v := Vg #[vx, I ((rt : Int))]) rfl rfl rfl) ?_
 refine lq rfl (q_extract (vs := #[Vg #[vx, I ((rt : Int))], Vg #[I (0), I (0)]]) (v := Vg #[I (0), I (0)]) rfl rfl rfl) ?_
 refine lo rfl ?_
 refine e_alloc rfl Try.zeroValue51 hS32 (fun g34 H35 hS36 hxx => ?_)
 refine lo rfl ?_
 refine e_alloc rfl Try.zeroValue28 hS36 (fun g37 H38 hS39 hxx => ?_)
 refine lo rfl ?_
 refine e_storeBlkA (cs' := #[vx, I ((rt : Int))]) rfl rfl rfl Try.sizeOf51 rfl rfl (fa ((oneCell_rdL (hS39.rdl 2 rfl))) (fa rfl fe)) (hS39.front 1 rfl) (fun H40 hS41 hxx => ?_)
 refine lo rfl ?_
 refine e_storeBlkA (cs' := #[I (0), I (0)]) rfl rfl rfl Try.sizeOf28 rfl rfl (fa rfl (fa rfl fe)) (hS41.front 1 rfl) (fun H42 hS43 hxx => ?_)
 refine wpL_nil ?_
 have htl : tblD ch rt 6 = madeL 6 (allH C2) := tbl_is hW hrt htb
 have hsm : sumB (tblD ch rt 6) 64 = (Lm.length : Int) := by rw [htl, hLm]; exact sum_mods (by decide)
 have hc4 : ch.length ≤ 4000 := Nat.le_trans hc (by decide)
 refine fcr (fun f H => ∃ (g47 : Nat), f 1 = I (k) ∧ f 5 = PT g6 0 ∧ f 6 = I ((Lm.length : Int)) ∧ f 7 = I ((Lm.length : Int)) ∧ f 8 = PT g17 0 ∧ f 9 = r22 ∧ f 10 = PT g26 0 ∧ f 11 = PT g34 0 ∧ f 12 = PT g37 0 ∧ f 13 = I ((Lm.length : Int)) ∧ f 14 = PT g47 0 ∧ St H0 NoB NoB [bE g47 #[I (0), I (0)] 28, bE g37 #[I (0), I (0)] 28, bE g34 #[vx, I ((rt : Int))] 51, rdE vx (chI ch), bE g26 #[I (0), I (0)] 28, rdE r22 Lm, bE g17 #[I (0), I (0)] 28, bE g6 #[I (6), r1] 26, rdE r1 C2, rdE vl l] H) ?_ ?_
 ·refine lq rfl (q_loadBlkA rfl rfl Try.isAgg51 Try.sizeOf51 rfl (hS43.blk 1 rfl) (fun h => h)) ?_
  refine lo rfl ?_
  refine e_call rfl Try.call16 (arr2 (v0 := I (6)) (v1 := Vg #[vx, I ((rt : Int))]) rfl rfl) ((by have h__ := Count_D (H0 := H42) vx ch rt 6 7 (ch.length + 2) (hS43.rdN 2 rfl) hW hrt hvi rfl (by decide) hc4; rw [show 2 ^ 6 = 64 from rfl, hsm] at h__; exact h__)) ?_
  rintro _ H44 ⟨hxx, rfl⟩
  have hS45 := hS43.ext hxx
  refine lm (v := Value.tuple #[I ((Lm.length : Int)), Vg #[I (0), I (0)]]) rfl rfl rfl ?_
  refine lq rfl (q_extract (vs := #[I ((Lm.length : Int)), Vg #[I (0), I (0)]]) (v := I ((Lm.length : Int))) rfl rfl rfl) ?_
  refine lq rfl (q_extract (vs := #[I ((Lm.length : Int)), Vg #[I (0), I (0)]]) (v := Vg #[I (0), I (0)]) rfl rfl rfl) ?_
  refine lo rfl ?_
  refine e_alloc rfl Try.zeroValue28 hS45 (fun g47 H48 hS49 hxx => ?_)
  refine la (v := I ((Lm.length : Int))) rfl rfl rfl ?_
  refine lo rfl ?_
  refine e_storeBlkA (cs' := #[I (0), I (0)]) rfl rfl rfl Try.sizeOf28 rfl rfl (fa rfl (fa rfl fe)) hS49 (fun H50 hS51 hxx => ?_)
  exact ⟨g47, y1, rfl, rfl, rfl, rfl, rfl, rfl, rfl, rfl, rfl, rfl, hS51⟩
 clear y1
 rintro f52 H52 ⟨g47, y1, y5, y6, y7, y8, y9, y10, y11, y12, y13, y14, hS52⟩
 refine wpF_seq ?_
 refine wpF_seq ?_
 refine wpF_region ?_
 refine lq rfl (q_fieldAddr rfl Try.underlying28 rfl Try.sizeOf3 y8) ?_
 refine lq rfl (q_loadBlk rfl rfl Try.isAgg3 (hS52.blk 6 rfl) rfl (fun h => h)) ?_
 refine lq rfl (q_neqF rfl rfl rfl rfl) ?_
 refine lm (v := B (false)) rfl rfl rfl ?_
 refine gq rfl rfl rfl rfl (q_fieldAddr rfl Try.underlying28 rfl Try.sizeOf3 y10) ?_
 refine gq rfl rfl rfl rfl (q_loadBlk rfl rfl Try.isAgg3 (hS52.blk 4 rfl) rfl (fun h => h)) ?_
 refine gq rfl rfl rfl rfl (q_neqF rfl rfl rfl rfl) ?_
 refine lq rfl (q_pickF (v := B (false)) rfl rfl rfl) ?_
 refine lm (v := B (false)) rfl rfl rfl ?_
 refine gq rfl rfl rfl rfl (q_fieldAddr rfl Try.underlying28 rfl Try.sizeOf3 y12) ?_
 refine gq rfl rfl rfl rfl (q_loadBlk rfl rfl Try.isAgg3 (hS52.blk 1 rfl) rfl (fun h => h)) ?_
 refine gq rfl rfl rfl rfl (q_neqF rfl rfl rfl rfl) ?_
 refine lq rfl (q_pickF (v := B (false)) rfl rfl rfl) ?_
 refine lm (v := B (false)) rfl rfl rfl ?_
 refine gq rfl rfl rfl rfl (q_fieldAddr rfl Try.underlying28 rfl Try.sizeOf3 y14) ?_
 refine gq rfl rfl rfl rfl (q_loadBlk rfl rfl Try.isAgg3 (hS52.blk 0 rfl) rfl (fun h => h)) ?_
 refine gq rfl rfl rfl rfl (q_neqF rfl rfl rfl rfl) ?_
 refine lq rfl (q_pickF (v := B (false)) rfl rfl rfl) ?_
 refine lm (v := B (false)) rfl rfl rfl ?_
 refine gq rfl rfl rfl rfl (q_move (v := I ((Lm.length : Int))) rfl y7) ?_
 refine gq rfl rfl rfl rfl (q_move (v := I ((Lm.length : Int))) rfl y6) ?_
 refine gq rfl rfl rfl rfl (q_neqF rfl rfl rfl rfl) ?_
 refine lq rfl (q_pickF (v := B (false)) rfl rfl rfl) ?_
 refine lm (v := B (false)) rfl rfl rfl ?_
 refine gq rfl rfl rfl rfl (q_move (v := I ((Lm.length : Int))) rfl y13) ?_
 refine gq rfl rfl rfl rfl (q_move (v := I ((Lm.length : Int))) rfl y6) ?_
 refine gq rfl rfl rfl rfl (q_neqF rfl rfl rfl rfl) ?_
 refine lq rfl (q_pickF (v := B (false)) rfl rfl rfl) ?_
 refine lm (v := B (false)) rfl rfl rfl ?_
 refine gq rfl rfl rfl rfl (q_move (v := r22) rfl y9) ?_
 refine gq rfl rfl rfl rfl (q_lenRd rfl Try.underlying46 rfl (hS52.rdl 5 rfl)) ?_
 refine gq rfl rfl rfl rfl (q_move (v := I ((Lm.length : Int))) rfl y6) ?_
 refine gq rfl rfl rfl rfl (q_neqF rfl rfl rfl rfl) ?_
 refine lq rfl (q_pickF (v := B (false)) rfl rfl rfl) ?_
 refine wpL_nil ?_
 refine wpF_condF rfl ?_
 refine wpF_skip ?_
 refine wpF_seq ?_
 refine wpF_seq ?_
 refine wpF_region ?_
 refine lm (v := I ((Lm.length : Int))) rfl rfl y6 ?_
 refine lq rfl (q_eql rfl rfl rfl) ?_
 refine wpL_nil ?_
 refine wpF_condP rfl (fun h77 => ?t77) (fun h77 => ?e77)
 case t77 =>
  refine wpF_seq ?_
  refine wpF_region ?_
  refine lo rfl ?_
  refine e_call rfl Try.call10 arr0 (sure_S) ?_
  rintro _ H54 ⟨hxx, rfl⟩
  have hS55 := hS52.ext hxx
  refine la (v := B (true)) rfl rfl rfl ?_
  refine wpL_nil ?_
  refine wpF_ret ?_
  refine ⟨_, resT rfl resN, hS55.frame, ?_⟩
  show (B (true)) = B true
  rfl
 have hrk := pickI_rng (a := k) (n := (Lm.length : Int)) (by omega)
 obtain ⟨p, hp⟩ : ∃ p : Nat, pickI k (Lm.length : Int) = (p : Int) := ⟨(pickI k (Lm.length : Int)).toNat, by omega⟩
 have hpl : p < Lm.length := by omega
 refine wpF_skip ?_
 refine wpF_seq ?_
 refine wpF_region ?_
 refine lm (v := I (k)) rfl rfl y1 ?_
 refine lm (v := I ((Lm.length : Int))) rfl rfl y6 ?_
 refine lo rfl ?_
 refine e_call rfl Try.call5 (arr2 (v0 := I (k)) (v1 := I ((Lm.length : Int))) rfl rfl) (PickedN k (Lm.length : Int) p (by omega) hp) ?_
 rintro _ H57 ⟨hxx, rfl⟩
 have hS58 := hS52.ext hxx
 refine la (v := I ((p : Int))) rfl rfl rfl ?_
 refine wpL_nil ?_
 refine fcr (fun f H => ∃ (va : Value), ∃ (i : Nat), ∃ (g63 : Nat), (i < 2 ^ 6) ∧ (bv (nth (tblD ch rt 6) i) = 1) ∧ (sumB (tblD ch rt 6) i = (p : Int)) ∧ f 5 = PT g6 0 ∧ f 9 = r22 ∧ f 15 = I ((p : Int)) ∧ f 16 = va ∧ f 17 = PT g63 0 ∧ St H0 NoB NoB [bE g63 #[I (0), I (0)] 28, rdE va (asgL 6 i), bE g47 #[I (0), I (0)] 28, bE g37 #[I (0), I (0)] 28, bE g34 #[vx, I ((rt : Int))] 51, rdE vx (chI ch), bE g26 #[I (0), I (0)] 28, rdE r22 Lm, bE g17 #[I (0), I (0)] 28, bE g6 #[I (6), r1] 26, rdE r1 C2, rdE vl l] H) ?_ ?_
 ·refine lq rfl (q_loadBlkA rfl y11 Try.isAgg51 Try.sizeOf51 rfl (hS58.blk 2 rfl) (fun h => h)) ?_
  refine lm (v := I ((p : Int))) rfl rfl rfl ?_
  refine lo rfl ?_
  refine e_call rfl Try.call17 (arr3 (v0 := I (6)) (v1 := Vg #[vx, I ((rt : Int))]) (v2 := I ((p : Int))) rfl rfl rfl) (Pick_D (S := SL NoB [bE g47 #[I (0), I (0)] 28, bE g37 #[I (0), I (0)] 28, bE g34 #[vx, I ((rt : Int))] 51, rdE vx (chI ch), bE g26 #[I (0), I (0)] 28, rdE r22 Lm, bE g17 #[I (0), I (0)] 28, bE g6 #[I (6), r1] 26, rdE r1 C2, rdE vl l]) vx ch rt 6 7 (ch.length + 2) (p : Int) (hS58.rdS 3 rfl) hW hrt hvi rfl (by decide) hc4 ⟨by omega, by rw [show 2 ^ 6 = 64 from rfl, hsm]; omega⟩) ?_
  rintro _ H60 ⟨hxx, va, i, rfl, hrva, hi, hbi, hsi⟩
  have hS61 := hS58.res hxx hrva
  refine lm (v := Value.tuple #[va, Vg #[I (0), I (0)]]) rfl rfl rfl ?_
  refine lq rfl (q_extract (vs := #[va, Vg #[I (0), I (0)]]) (v := va) rfl rfl rfl) ?_
  refine lq rfl (q_extract (vs := #[va, Vg #[I (0), I (0)]]) (v := Vg #[I (0), I (0)]) rfl rfl rfl) ?_
  refine lo rfl ?_
  refine e_alloc rfl Try.zeroValue28 hS61 (fun g63 H64 hS65 hxx => ?_)
  refine la (v := va) rfl rfl rfl ?_
  refine lo rfl ?_
  refine e_storeBlkA (cs' := #[I (0), I (0)]) rfl rfl rfl Try.sizeOf28 rfl rfl (fa rfl (fa rfl fe)) hS65 (fun H66 hS67 hxx => ?_)
  exact ⟨va, i, g63, hi, hbi, hsi, y5, y9, rfl, rfl, rfl, hS67⟩
 clear y11 y5 y9
 rintro f68 H68 ⟨va, i, g63, hi, hbi, hsi, y5, y9, y15, y16, y17, hS68⟩
 have hal : allH C2 (asgL 6 i) = true := by rw [htl, madeL_at hi] at hbi; exact bv_one.1 hbi
 have hcl : clausesH C2 (asgL 6 i) = true := by rw [← allH_eq hnz]; exact hal
 have hpi : (modsTo C2 6 i).length = p := by rw [htl, sum_mods (Nat.le_of_lt hi)] at hsi; omega
 have hnp : asgL 6 i = nth Lm p := by rw [hLm, ← hpi]; exact (mods_nth hal hi).symm
 refine wpF_seq ?_
 obtain ⟨u69, huu69, hlu69⟩ := (Rd.list.1 (hS68.rdS 7 rfl)).elem p (by omega)
 have hS70 := hS68.rd huu69
 refine wpF_region ?_
 refine lq rfl (q_fieldAddr rfl Try.underlying28 rfl Try.sizeOf3 y17) ?_
 refine lq rfl (q_loadBlk rfl rfl Try.isAgg3 (hS68.blk 0 rfl) rfl (fun h => h)) ?_
 refine lq rfl (q_eqlT rfl rfl rfl rfl) ?_
 refine lm (v := B (true)) rfl rfl rfl ?_
 refine gq rfl rfl rfl rfl (q_move (v := va) rfl y16) ?_
 refine gq rfl rfl rfl rfl (q_move (v := r22) rfl y9) ?_
 refine gq rfl rfl rfl rfl (q_move (v := I ((p : Int))) rfl y15) ?_
 refine gq rfl rfl rfl rfl (q_indexRd (k := p) rfl Try.underlying46 el_LBool_31_TopCounts1 rfl rfl (hS68.rdl 7 rfl) (by omega) (by omega)) ?_
 refine gq rfl rfl rfl rfl (q_loadE rfl rfl (hlu69 Try.prog 31 _ el_LBool_31_TopCounts1 (fun _ h => False.elim h))) ?_
 refine wpL_go rfl rfl rfl rfl ?_
 refine e_call rfl Try.call18 (arr2 (v0 := va) (v1 := u69) rfl rfl) ((by have h__ := Bools_S (H0 := H68) va u69 (asgL 6 i) (nth Lm p) (hS70.rdN 2 rfl) (hS70.rdN 0 rfl); rw [decide_eq_true hnp] at h__; exact h__)) ?_
 rintro _ H71 ⟨hxx, rfl⟩
 have hS72 := hS70.ext hxx
 refine lq rfl (q_pickT (v := B (true)) rfl rfl rfl) ?_
 refine lm (v := B (true)) rfl rfl rfl ?_
 refine gq rfl rfl rfl rfl (q_fieldAddr rfl Try.underlying26 rfl Try.sizeOf24 y5) ?_
 refine gq rfl rfl rfl rfl (q_loadBlk rfl rfl Try.isAgg24 (hS72.blk 10 rfl) rfl (fun h => h)) ?_
 refine gq rfl rfl rfl rfl (q_move (v := va) rfl y16) ?_
 refine wpL_go rfl rfl rfl rfl ?_
 refine e_call rfl Try.call19 (arr2 (v0 := r1) (v1 := va) rfl rfl) ((by have h__ := ClausesHold_R (H0 := H71) r1 va C2 (asgL 6 i) (hS72.rdN 11 rfl) (hS72.rdN 2 rfl) (hfa i) hw; rw [hcl] at h__; exact h__)) ?_
 rintro _ H74 ⟨hxx, rfl⟩
 have hS75 := hS72.ext hxx
 refine lq rfl (q_pickT (v := B (true)) rfl rfl rfl) ?_
 refine la (v := B (true)) rfl rfl rfl ?_
 refine wpL_nil ?_
 refine wpF_ret ?_
 refine ⟨_, resT rfl resN, hS75.frame, ?_⟩
 show (B (true)) = B true
 rfl
end Go.Um
