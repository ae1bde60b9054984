import Derived.Test.YtbfgipgojdinoaaProg
import Derived.Test.YtbfgipgojdinoaaDiaI1
import Derived.Test.YtbfgipgojdinoaaEachI
import Derived.Test.YtbfgipgojdinoaaUmTopCountsC
namespace Go.Um
open Go.Proofs
open GoT (sz ag rdc)
open KeyT (kv)
theorem em_LBool_31_DiaI2 : ElemOk Try.prog (List Bool) 31 := ⟨Try.t31, (.slice none 0 0), by kernel_rfl, by kernel_rfl, by kernel_rfl, by kernel_rfl, by kernel_rfl⟩
namespace In
set_option maxHeartbeats 2000000 in
set_option maxRecDepth 100000 in
theorem Count_A {H0 : Heap} (vC : Value) (C : List (List Int)) (N : Nat) (rC : Rd NoB H0 vC C) (hok : cnfOk (N : Int) C) (hlo : ∀ c ∈ C, litsOk (N : Int) c) (hN : N ≤ 16) : CallsH Try.prog 13 #[Vg #[I ((N : Int)), vC]] H0 (fun rv_ H' => Ext NoB H0 H' ∧ rv_ = Value.tuple #[I ((modsTo C N (2 ^ N)).length : Int), Vg #[I (0), I (0)]]) := by
 have h2N : 2 ^ N ≤ 65536 := Nat.le_trans (Nat.pow_le_pow_right (by decide) hN) (by decide)
 have hS0 : St H0 NoB NoB [rdE vC C] H0 := St.arg (St.start (fun _ h => h.elim)) (Bl0.nil) rC (fun _ h => h)
 refine callsH_of_wpF (args := [Vg #[I ((N : Int)), vC]]) (rs := [.tmp 2, .cell 3 28]) Try.func13 rfl Try.ntmps13 Try.results13 (by kernel_rfl) (Nat.le_of_ble_eq_true rfl) ?_
 have y0 : argF [Vg #[I ((N : Int)), vC]] 0 = Vg #[I ((N : Int)), vC] := rfl
 generalize argF [Vg #[I ((N : Int)), vC]] = f0 at *
 refine wpF_seq ?_
 refine wpF_region ?_
 refine lo rfl ?_
 refine e_box (v := Vg #[I ((N : Int)), vC]) rfl y0 hS0 (fun g1 H2 hS3 hxx => ?_)
 refine la (v := I (0)) rfl rfl rfl ?_
 refine lo rfl ?_
 refine e_alloc rfl Try.zeroValue28 hS3 (fun g4 H5 hS6 hxx => ?_)
 refine wpL_nil ?_
 refine wpF_seq ?_
 refine wpF_seq ?_
 refine wpF_region ?_
 refine lq rfl (q_loadBlkA rfl rfl Try.isAgg26 Try.sizeOf26 rfl (hS6.blk 1 rfl) (fun h => h)) ?_
 refine lo rfl ?_
 refine e_call rfl Try.call35 (arr1 (v0 := Vg #[I ((N : Int)), vC]) rfl) (check_A vC C (N : Int) (hS6.rdN 2 rfl) hok (by omega)) ?_
 rintro _ H7 ⟨hxx, rfl⟩
 have hS8 := hS6.ext hxx
 refine lo rfl ?_
 refine e_alloc rfl Try.zeroValue28 hS8 (fun g10 H11 hS12 hxx => ?_)
 refine lo rfl ?_
 refine e_storeBlkA (cs' := #[I (0), I (0)]) rfl rfl rfl Try.sizeOf28 rfl rfl (fa rfl (fa rfl fe)) hS12 (fun H13 hS14 hxx => ?_)
 refine wpL_nil ?_
 refine wpF_seq ?_
 refine wpF_region ?_
 refine lq rfl (q_fieldAddr rfl Try.underlying28 rfl Try.sizeOf3 rfl) ?_
 refine lq rfl (q_loadBlk rfl rfl Try.isAgg3 (hS14.blk 0 rfl) rfl (fun h => h)) ?_
 refine lq rfl (q_neq rfl rfl rfl) ?_
 refine wpL_nil ?_
 refine wpF_condF (Eq.trans rfl (congrArg B (decide_eq_false (by decide)))) ?_
 refine wpF_skip ?_
 refine wpF_seq ?_
 refine wpF_region ?_
 refine lo rfl ?_
 refine e_alloc rfl Try.zeroValue3 hS14 (fun g15 H16 hS17 hxx => ?_)
 refine lo rfl ?_
 refine e_storeBlk (v := I (0)) rfl rfl rfl rfl Try.sizeOf3 (by show _ < 1; decide) hS17 (fun H18 hS19 hxx => ?_)
 refine wpL_nil ?_
 refine wpF_seq ?_
 refine wpF_seq ?_
 refine wpF_region ?_
 refine lq rfl (q_fieldAddr rfl Try.underlying26 rfl Try.sizeOf24 rfl) ?_
 refine lq rfl (q_loadBlk rfl rfl Try.isAgg24 (hS19.blk 3 rfl) rfl (fun h => h)) ?_
 refine lq rfl (q_fieldAddr rfl Try.underlying26 rfl Try.sizeOf3 rfl) ?_
 refine lq rfl (q_loadBlk rfl rfl Try.isAgg3 (hS19.blk 3 rfl) rfl (fun h => h)) ?_
 refine lo rfl ?_
 refine e_call rfl Try.call36 (arr2 (v0 := vC) (v1 := I ((N : Int))) rfl rfl) (Each_A (S := SL NoB [bE g15 #[I (0)] 3, bE g10 #[I (0), I (0)] 28, bE g4 #[I (0), I (0)] 28, bE g1 #[I ((N : Int)), vC] 26, rdE vC C]) vC C N (hS19.rdS 4 rfl)) ?_
 rintro _ H21 ⟨hxx, bnr20, bcr20, rfl, hfr, hpw⟩
 have hS22 : St H0 NoB NoB [bE bnr20 #[I ((N : Int))] 3, bE bcr20 #[vC] 24, bE g15 #[I (0)] 3, bE g10 #[I (0), I (0)] 28, bE g4 #[I (0), I (0)] 28, bE g1 #[I ((N : Int)), vC] 26, rdE vC C] H21 := St.gotF (A' := [bE bnr20 #[I ((N : Int))] 3, bE bcr20 #[vC] 24]) hS19 hxx hfr hpw
 refine wpL_nil ?_
 refine wpF_block ?_
 refine wpI_rangeFunc (gf := 63) (lb := #[PT bnr20 0, PT bcr20 0]) rfl Try.call63 (fun rec hY => ?_)
 obtain ⟨D, hD⟩ : ∃ D, D = H21.size := ⟨_, rfl⟩
 have hP : St H0 NoB NoB [blkE (D + 1) (rec .ready none), blkE D (.deferred (some [])), bE bnr20 #[I ((N : Int))] 3, bE bcr20 #[vC] 24, bE g15 #[I (0)] 3, bE g10 #[I (0), I (0)] 28, bE g4 #[I (0), I (0)] 28, bE g1 #[I ((N : Int)), vC] 26, rdE vC C] ((H21.push (.deferred (some []))).push (rec .ready none)) := by have h__ := (hS22.alloc (.deferred (some []))).alloc (rec .ready none); rw [Array.size_push, ← hD] at h__; exact h__
 rw [← hD] at hY ⊢
 refine CallsH.mono (Each_1 (D + 1) bnr20 bcr20 N vC C (fun k H => St H0 NoB NoB [blkE (D + 1) (rec .ready none), blkE D (.deferred (some [])), bE bnr20 #[I ((N : Int))] 3, bE bcr20 #[vC] 24, bE g15 #[I (((modsTo C N k).length : Int))] 3, bE g10 #[I (0), I (0)] 28, bE g4 #[I (0), I (0)] 28, bE g1 #[I ((N : Int)), vC] 26, rdE vC C] H) (fun _ => False) (by omega) (fun k c hc => fit_of asgL_len (by omega) (hlo c hc)) ?hext ?hrd ?hno ?hyes ?h0) ?hafter
 case hext => rintro k Ha Hb h hx; exact h.ext hx
 case hrd => rintro k Ha h; exact ⟨h.rdN 8 rfl, h.blk 2 rfl, h.blk 3 rfl⟩
 case hno => rintro k Ha hk hn h; exact (by rw [mods_no hn]; exact h)
 case h0 => exact (show St H0 NoB NoB [blkE (D + 1) (rec .ready none), blkE D (.deferred (some [])), bE bnr20 #[I ((N : Int))] 3, bE bcr20 #[vC] 24, bE g15 #[I (((modsTo C N 0).length : Int))] 3, bE g10 #[I (0), I (0)] 28, bE g4 #[I (0), I (0)] 28, bE g1 #[I ((N : Int)), vC] 26, rdE vC C] ((H21.push (.deferred (some []))).push (rec .ready none)) from hP)
 case hyes =>
  rintro k Ha Hb va24 hk hy hJ hx hva
  have hJ2 := (hJ.ext hx).rd ((hva.sub fun b hb => SL.lt hJ hb))
  refine hY va24 Hb _ (hJ2.blk 1 rfl) ?_
  have hJ3 : St H0 NoB NoB [rdE va24 (asgL N k), blkE (D + 1) (rec .ready none), blkE D (.deferred (some [])), bE bnr20 #[I ((N : Int))] 3, bE bcr20 #[vC] 24, bE g15 #[I (((modsTo C N k).length : Int))] 3, bE g10 #[I (0), I (0)] 28, bE g4 #[I (0), I (0)] 28, bE g1 #[I ((N : Int)), vC] 26, rdE vC C] Hb := hJ2
  have hml := mods_le (C := C) (n := N) (k := k)
  refine wpF_skip ?_
  refine ⟨rfl, hJ3.blk 1 rfl, ?_⟩
  have hS25 := (hJ3.front 1 rfl).putObj (rec .busy none)
  obtain ⟨H26, hq27⟩ : ∃ H__, H__ = (Hb.setIfInBounds (D + 1) (rec .busy none)) := ⟨_, rfl⟩
  rw [← hq27] at hS25 ⊢
  refine wpF_block ?_
  refine wpF_region ?_
  refine lq rfl (q_loadBlk rfl rfl Try.isAgg3 (hS25.blk 5 rfl) rfl (fun h => h)) ?_
  refine lq rfl (q_add rfl rfl rfl (by constructor <;> omega)) ?_
  refine lo rfl ?_
  refine e_storeBlk (v := I (((modsTo C N k).length : Int) + 1)) rfl rfl rfl rfl Try.sizeOf3 (by show _ < 1; decide) (hS25.front 5 rfl) (fun H28 hS29 hxx => ?_)
  refine wpL_nil ?_
  refine ⟨hS29.blk 1 rfl, .inl ⟨rfl, ?_⟩⟩
  have hS30 := (hS29.front 1 rfl).putObj (rec .ready none)
  obtain ⟨H31, hq32⟩ : ∃ H__, H__ = (H28.setIfInBounds (D + 1) (rec .ready none)) := ⟨_, rfl⟩
  rw [← hq32] at hS30 ⊢
  exact (show St H0 NoB NoB [blkE (D + 1) (rec .ready none), blkE D (.deferred (some [])), bE bnr20 #[I ((N : Int))] 3, bE bcr20 #[vC] 24, bE g15 #[I (((modsTo C N (k + 1)).length : Int))] 3, bE g10 #[I (0), I (0)] 28, bE g4 #[I (0), I (0)] 28, bE g1 #[I ((N : Int)), vC] 26, rdE vC C] H31 from (by have h__ := (St.drop (show St H0 NoB NoB [blkE (D + 1) (rec .ready none), blkE D (.deferred (some [])), bE bnr20 #[I ((N : Int))] 3, bE bcr20 #[vC] 24, bE g15 #[I (((modsTo C N k).length : Int) + 1)] 3, rdE va24 (asgL N k), bE g10 #[I (0), I (0)] 28, bE g4 #[I (0), I (0)] 28, bE g1 #[I ((N : Int)), vC] 26, rdE vC C] H31 from ((((hS30.front 5 rfl).front 5 rfl).front 5 rfl).front 3 rfl)) (sk (sk (sk (sk (sk (sn (sk (sk (sk (sk (List.Sublist.slnil)))))))))))); rw [← mods_cnt hy] at h__; exact h__))
 rintro _ Hz (hz | hz)
 ·refine .inl ⟨hz.blk 0 rfl, ?_⟩
  have hS33 := (hz.front 0 rfl).putObj (rec .exhausted none)
  obtain ⟨H34, hq35⟩ : ∃ H__, H__ = (Hz.setIfInBounds (D + 1) (rec .exhausted none)) := ⟨_, rfl⟩
  rw [← hq35] at hS33 ⊢
  refine wpF_seq ?_
  refine wpF_region ?_
  refine lq rfl (q_loadBlk rfl rfl Try.isAgg3 (hS33.blk 4 rfl) rfl (fun h => h)) ?_
  refine lq rfl (q_build (v := Vg #[I (0), I (0)]) rfl par0 (fun w__ => by kernel_rfl)) ?_
  refine la (v := I (((modsTo C N (2 ^ N)).length : Int))) rfl rfl rfl ?_
  refine lo rfl ?_
  refine e_storeBlkA (cs' := #[I (0), I (0)]) rfl rfl rfl Try.sizeOf28 rfl rfl (fa rfl (fa rfl fe)) (hS33.front 6 rfl) (fun H36 hS37 hxx => ?_)
  refine wpL_nil ?_
  refine wpF_ret ?_
  refine retD_one (hS37.blk 2 rfl) ?_
  have hS38 := (hS37.front 2 rfl).putObj (.deferred none)
  refine ⟨_, resT rfl (resC rfl (loadV_blkA Try.isAgg28 Try.sizeOf28 rfl (hS38.blk 1 rfl)) (resN)), hS38.frame, ?_⟩
  show (Value.tuple #[I (((modsTo C N (2 ^ N)).length : Int)), Vg #[I (0), I (0)]]) = Value.tuple #[I ((modsTo C N (2 ^ N)).length : Int), Vg #[I (0), I (0)]]
  rfl
 ·exact hz.elim
end In
namespace In
set_option maxHeartbeats 2000000 in
set_option maxRecDepth 100000 in
theorem Models_A {H0 : Heap} {S : Nat → Prop} (vC : Value) (C : List (List Int)) (N : Nat) (rC : Rd S H0 vC C) (hok : cnfOk (N : Int) C) (hlo : ∀ c ∈ C, litsOk (N : Int) c) (hN6 : N ≤ 6) : CallsH Try.prog 14 #[Vg #[I ((N : Int)), vC], I (64)] H0 (fun rv_ H' => Ext NoB H0 H' ∧ ∃ w_, rv_ = Value.tuple #[w_, Vg #[I (0), I (0)]] ∧ Rd (SZ S H0) H' w_ (modsTo C N (2 ^ N))) := by
 have hN : N ≤ 16 := by omega
 have h2N : 2 ^ N ≤ 64 := Nat.le_trans (Nat.pow_le_pow_right (by decide) hN6) (by decide)
 have hS0 : St H0 NoB (SZ S H0) [rdE vC C] H0 := St.arg (St.start (fun _ h => h.2)) (Bl0.nil) rC (fun _ h => h.1)
 refine callsH_of_wpF (args := [Vg #[I ((N : Int)), vC], I (64)]) (rs := [.tmp 4, .cell 5 28]) Try.func14 rfl Try.ntmps14 Try.results14 (by kernel_rfl) (Nat.le_of_ble_eq_true rfl) ?_
 have y0 : argF [Vg #[I ((N : Int)), vC], I (64)] 0 = Vg #[I ((N : Int)), vC] := rfl
 have y1 : argF [Vg #[I ((N : Int)), vC], I (64)] 1 = I (64) := rfl
 generalize argF [Vg #[I ((N : Int)), vC], I (64)] = f0 at *
 refine wpF_seq ?_
 refine wpF_region ?_
 refine lo rfl ?_
 refine e_box (v := Vg #[I ((N : Int)), vC]) rfl y0 hS0 (fun g1 H2 hS3 hxx => ?_)
 refine lo rfl ?_
 refine e_box (v := I (64)) rfl y1 hS3 (fun g4 H5 hS6 hxx => ?_)
 refine la (v := nS) rfl rfl rfl ?_
 refine lo rfl ?_
 refine e_alloc rfl Try.zeroValue28 hS6 (fun g7 H8 hS9 hxx => ?_)
 refine wpL_nil ?_
 refine wpF_seq ?_
 refine wpF_seq ?_
 refine wpF_region ?_
 refine lq rfl (q_loadBlkA rfl rfl Try.isAgg26 Try.sizeOf26 rfl (hS9.blk 2 rfl) (fun h => h)) ?_
 refine lo rfl ?_
 refine e_call rfl Try.call35 (arr1 (v0 := Vg #[I ((N : Int)), vC]) rfl) (check_A vC C (N : Int) (hS9.rdN 3 rfl) hok (by omega)) ?_
 rintro _ H10 ⟨hxx, rfl⟩
 have hS11 := hS9.ext hxx
 refine lo rfl ?_
 refine e_alloc rfl Try.zeroValue28 hS11 (fun g13 H14 hS15 hxx => ?_)
 refine lo rfl ?_
 refine e_storeBlkA (cs' := #[I (0), I (0)]) rfl rfl rfl Try.sizeOf28 rfl rfl (fa rfl (fa rfl fe)) hS15 (fun H16 hS17 hxx => ?_)
 refine wpL_nil ?_
 refine wpF_seq ?_
 refine wpF_region ?_
 refine lq rfl (q_fieldAddr rfl Try.underlying28 rfl Try.sizeOf3 rfl) ?_
 refine lq rfl (q_loadBlk rfl rfl Try.isAgg3 (hS17.blk 0 rfl) rfl (fun h => h)) ?_
 refine lq rfl (q_neqF rfl rfl rfl rfl) ?_
 refine wpL_nil ?_
 refine wpF_condF rfl ?_
 refine wpF_skip ?_
 refine wpF_seq ?_
 refine wpF_seq ?_
 refine wpF_region ?_
 refine lq rfl (q_loadBlk rfl rfl Try.isAgg3 (hS17.blk 2 rfl) rfl (fun h => h)) ?_
 refine lq rfl (q_lss rfl rfl rfl) ?_
 refine lm (v := B (decide (64 < 0))) rfl rfl rfl ?_
 refine gq rfl rfl rfl (Eq.trans rfl (congrArg B (decide_eq_false (by decide)))) (q_loadBlk rfl rfl Try.isAgg3 (hS17.blk 2 rfl) rfl (fun h => h)) ?_
 refine gq rfl rfl rfl (Eq.trans rfl (congrArg B (decide_eq_false (by decide)))) (q_gtr rfl rfl rfl) ?_
 refine lq rfl (q_pickF (v := B (decide (65536 < 64))) rfl (Eq.trans rfl (congrArg B (decide_eq_false (by decide)))) rfl) ?_
 refine wpL_nil ?_
 refine wpF_condF (Eq.trans rfl (congrArg B (decide_eq_false (by decide)))) ?_
 refine wpF_skip ?_
 refine wpF_seq ?_
 refine wpF_region ?_
 refine lo rfl ?_
 refine e_alloc rfl Try.zeroValue46 hS17 (fun g18 H19 hS20 hxx => ?_)
 refine wpL_nil ?_
 refine wpF_seq ?_
 refine wpF_seq ?_
 refine wpF_region ?_
 refine lq rfl (q_loadBlk rfl rfl Try.isAgg3 (hS20.blk 3 rfl) rfl (fun h => h)) ?_
 refine lq rfl (q_eql rfl rfl rfl) ?_
 refine wpL_nil ?_
 refine wpF_condF (Eq.trans rfl (congrArg B (decide_eq_false (by decide)))) ?_
 refine wpF_skip ?_
 refine wpF_seq ?_
 refine wpF_seq ?_
 refine wpF_region ?_
 refine lq rfl (q_fieldAddr rfl Try.underlying26 rfl Try.sizeOf24 rfl) ?_
 refine lq rfl (q_loadBlk rfl rfl Try.isAgg24 (hS20.blk 4 rfl) rfl (fun h => h)) ?_
 refine lq rfl (q_fieldAddr rfl Try.underlying26 rfl Try.sizeOf3 rfl) ?_
 refine lq rfl (q_loadBlk rfl rfl Try.isAgg3 (hS20.blk 4 rfl) rfl (fun h => h)) ?_
 refine lo rfl ?_
 refine e_call rfl Try.call36 (arr2 (v0 := vC) (v1 := I ((N : Int))) rfl rfl) (Each_A (S := SL (SZ S H0) [bE g18 #[nS] 46, bE g13 #[I (0), I (0)] 28, bE g7 #[I (0), I (0)] 28, bE g4 #[I (64)] 3, bE g1 #[I ((N : Int)), vC] 26, rdE vC C]) vC C N (hS20.rdS 5 rfl)) ?_
 rintro _ H22 ⟨hxx, bnr21, bcr21, rfl, hfr, hpw⟩
 have hS23 : St H0 NoB (SZ S H0) [bE bnr21 #[I ((N : Int))] 3, bE bcr21 #[vC] 24, bE g18 #[nS] 46, bE g13 #[I (0), I (0)] 28, bE g7 #[I (0), I (0)] 28, bE g4 #[I (64)] 3, bE g1 #[I ((N : Int)), vC] 26, rdE vC C] H22 := St.gotF (A' := [bE bnr21 #[I ((N : Int))] 3, bE bcr21 #[vC] 24]) hS20 hxx hfr hpw
 refine wpL_nil ?_
 refine wpF_block ?_
 refine wpI_rangeFunc (gf := 63) (lb := #[PT bnr21 0, PT bcr21 0]) rfl Try.call63 (fun rec hY => ?_)
 obtain ⟨D, hD⟩ : ∃ D, D = H22.size := ⟨_, rfl⟩
 have hP : St H0 NoB (SZ S H0) [blkE (D + 1) (rec .ready none), blkE D (.deferred (some [])), bE bnr21 #[I ((N : Int))] 3, bE bcr21 #[vC] 24, bE g18 #[nS] 46, bE g13 #[I (0), I (0)] 28, bE g7 #[I (0), I (0)] 28, bE g4 #[I (64)] 3, bE g1 #[I ((N : Int)), vC] 26, rdE vC C] ((H22.push (.deferred (some []))).push (rec .ready none)) := by have h__ := (hS23.alloc (.deferred (some []))).alloc (rec .ready none); rw [Array.size_push, ← hD] at h__; exact h__
 rw [← hD] at hY ⊢
 have hS25 : St H0 NoB (SZ S H0) [rowE 31 nS ([] : List (List Bool)), blkE (D + 1) (rec .ready none), blkE D (.deferred (some [])), bE bnr21 #[I ((N : Int))] 3, bE bcr21 #[vC] 24, bE g18 #[nS] 46, bE g13 #[I (0), I (0)] 28, bE g7 #[I (0), I (0)] 28, bE g4 #[I (64)] 3, bE g1 #[I ((N : Int)), vC] 26, rdE vC C] ((H22.push (.deferred (some []))).push (rec .ready none)) := hP.row0 31
 refine CallsH.mono (Each_1 (D + 1) bnr21 bcr21 N vC C (fun k H => ∃ vo : Value, St H0 NoB (SZ S H0) [blkE (D + 1) (rec .ready none), blkE D (.deferred (some [])), rowE 31 vo (modsTo C N k : List (List Bool)), bE bnr21 #[I ((N : Int))] 3, bE bcr21 #[vC] 24, bE g18 #[vo] 46, bE g13 #[I (0), I (0)] 28, bE g7 #[I (0), I (0)] 28, bE g4 #[I (64)] 3, bE g1 #[I ((N : Int)), vC] 26, rdE vC C] H) (fun H => ∃ vo : Value, St H0 NoB (SZ S H0) [blkE (D + 1) (rec .done (some (.exit 0))), blkE D (.deferred (some [])), rowE 31 vo (modsTo C N (2 ^ N) : List (List Bool)), bE bnr21 #[I ((N : Int))] 3, bE bcr21 #[vC] 24, bE g18 #[vo] 46, bE g13 #[I (0), I (0)] 28, bE g7 #[I (0), I (0)] 28, bE g4 #[I (64)] 3, bE g1 #[I ((N : Int)), vC] 26, rdE vC C] H) (by omega) (fun k c hc => fit_of asgL_len (by omega) (hlo c hc)) ?hext ?hrd ?hno ?hyes ?h0) ?hafter
 case hext => rintro k Ha Hb ⟨vo, h⟩ hx; exact ⟨vo, h.ext hx⟩
 case hrd => rintro k Ha ⟨vo, h⟩; exact ⟨h.rdN 10 rfl, h.blk 3 rfl, h.blk 4 rfl⟩
 case hno => rintro k Ha hk hn ⟨vo, h⟩; exact ⟨vo, (by rw [mods_no hn]; exact h)⟩
 case h0 => exact ⟨nS, (show St H0 NoB (SZ S H0) [blkE (D + 1) (rec .ready none), blkE D (.deferred (some [])), rowE 31 nS (modsTo C N 0 : List (List Bool)), bE bnr21 #[I ((N : Int))] 3, bE bcr21 #[vC] 24, bE g18 #[nS] 46, bE g13 #[I (0), I (0)] 28, bE g7 #[I (0), I (0)] 28, bE g4 #[I (64)] 3, bE g1 #[I ((N : Int)), vC] 26, rdE vC C] ((H22.push (.deferred (some []))).push (rec .ready none)) from (St.drop (show St H0 NoB (SZ S H0) [blkE (D + 1) (rec .ready none), blkE D (.deferred (some [])), rowE 31 nS ([] : List (List Bool)), bE bnr21 #[I ((N : Int))] 3, bE bcr21 #[vC] 24, bE g18 #[nS] 46, bE g13 #[I (0), I (0)] 28, bE g7 #[I (0), I (0)] 28, bE g4 #[I (64)] 3, bE g1 #[I ((N : Int)), vC] 26, rdE vC C] ((H22.push (.deferred (some []))).push (rec .ready none)) from ((hS25.front 2 rfl).front 2 rfl)) (sk (sk (sk (sk (sk (sk (sk (sk (sk (sk (sk (List.Sublist.slnil))))))))))))))⟩
 case hyes =>
  rintro k Ha Hb va26 hk hy ⟨vo, hJ⟩ hx hva
  have hJ2 := (hJ.ext hx).rd ((hva.sub fun b hb => SL.lt hJ hb))
  refine hY va26 Hb _ (hJ2.blk 1 rfl) ?_
  have hJ3 : St H0 NoB (SZ S H0) [rdE va26 (asgL N k), blkE (D + 1) (rec .ready none), blkE D (.deferred (some [])), rowE 31 vo (modsTo C N k : List (List Bool)), bE bnr21 #[I ((N : Int))] 3, bE bcr21 #[vC] 24, bE g18 #[vo] 46, bE g13 #[I (0), I (0)] 28, bE g7 #[I (0), I (0)] 28, bE g4 #[I (64)] 3, bE g1 #[I ((N : Int)), vC] 26, rdE vC C] Hb := hJ2
  have hml := mods_le (C := C) (n := N) (k := k)
  refine wpF_region ?_
  refine la (v := va26) rfl rfl rfl ?_
  refine wpL_nil ?_
  refine ⟨rfl, hJ3.blk 1 rfl, ?_⟩
  have hS27 := (hJ3.front 1 rfl).putObj (rec .busy none)
  obtain ⟨H28, hq29⟩ : ∃ H__, H__ = (Hb.setIfInBounds (D + 1) (rec .busy none)) := ⟨_, rfl⟩
  rw [← hq29] at hS27 ⊢
  refine wpF_block ?_
  refine wpF_seq ?_
  refine wpF_region ?_
  refine lq rfl (q_loadBlk rfl rfl Try.isAgg46 (hS27.blk 6 rfl) rfl (fun h => h)) ?_
  refine lm (v := va26) rfl rfl rfl ?_
  refine lo rfl ?_
  refine e_buildSlice (vs := [va26]) (xs := ([asgL N k] : List (List Bool))) rfl Try.underlying46 Try.zeroValue31 rfl Try.sizeOf31 (par1 (v0 := va26) rfl) rfl hS27 (RdVs.cons (hS27.rdS 1 rfl) (RdVs.nil)) (by decide) (by decide) (fun v30 H31 hS32 hxx hvv30 => ?_)
  have hS33 : St H0 NoB (SZ S H0) [rdE v30 ([asgL N k] : List (List Bool)), blkE (D + 1) (rec .busy none), rdE va26 (asgL N k), blkE D (.deferred (some [])), rowE 31 vo (modsTo C N k : List (List Bool)), bE bnr21 #[I ((N : Int))] 3, bE bcr21 #[vC] 24, bE g18 #[vo] 46, bE g13 #[I (0), I (0)] 28, bE g7 #[I (0), I (0)] 28, bE g4 #[I (64)] 3, bE g1 #[I ((N : Int)), vC] 26, rdE vC C] H31 := St.fin hS32
  have hS34 := (hS33.front 4 rfl)
  refine lo rfl ?_
  refine e_append rfl Try.underlying46 em_LBool_31_DiaI2 rfl rfl hS34 (hS34.rdS 1 rfl) (fun _ h => h) (by have hb : GoT.bytes (List Bool) = 24 := rfl; rw [hb]; simp only [List.length_append, List.length_singleton]; omega) (by decide) (fun v35 H36 hS37 hxx => ?_)
  have hS38 : St H0 NoB (SZ S H0) [rowE 31 v35 (modsTo C N (k + 1) : List (List Bool)), rdE v30 ([asgL N k] : List (List Bool)), blkE (D + 1) (rec .busy none), rdE va26 (asgL N k), blkE D (.deferred (some [])), bE bnr21 #[I ((N : Int))] 3, bE bcr21 #[vC] 24, bE g18 #[vo] 46, bE g13 #[I (0), I (0)] 28, bE g7 #[I (0), I (0)] 28, bE g4 #[I (64)] 3, bE g1 #[I ((N : Int)), vC] 26, rdE vC C] H36 := by rw [show (modsTo C N (k + 1)) = ((modsTo C N k) ++ ([asgL N k])) from (mods_yes hy)]; exact hS37
  refine lo rfl ?_
  refine e_storeBlk (v := v35) rfl rfl rfl (oneCell_rdL (hS38.rowl 0 rfl)) Try.sizeOf46 (by show _ < 1; decide) (hS38.front 7 rfl) (fun H39 hS40 hxx => ?_)
  refine wpL_nil ?_
  refine wpF_seq ?_
  refine wpF_region ?_
  refine lq rfl (q_loadBlk rfl rfl Try.isAgg46 (hS40.blk 0 rfl) rfl (fun h => h)) ?_
  refine lq rfl (q_lenRd rfl Try.underlying46 rfl (hS40.rowl 1 rfl)) ?_
  refine lq rfl (q_loadBlk rfl rfl Try.isAgg3 (hS40.blk 10 rfl) rfl (fun h => h)) ?_
  refine lq rfl (q_eql rfl rfl rfl) ?_
  refine wpL_nil ?_
  refine wpF_condP rfl (fun h39 => ?t48) (fun h39 => ?e48)
  case e48 =>
   refine wpF_skip ?_
   refine ⟨hS40.blk 3 rfl, .inl ⟨rfl, ?_⟩⟩
   have hS45 := (hS40.front 3 rfl).putObj (rec .ready none)
   obtain ⟨H46, hq47⟩ : ∃ H__, H__ = (H39.setIfInBounds (D + 1) (rec .ready none)) := ⟨_, rfl⟩
   rw [← hq47] at hS45 ⊢
   exact ⟨v35, (St.drop (show St H0 NoB (SZ S H0) [blkE (D + 1) (rec .ready none), blkE D (.deferred (some [])), rowE 31 v35 (modsTo C N (k + 1) : List (List Bool)), bE bnr21 #[I ((N : Int))] 3, bE bcr21 #[vC] 24, bE g18 #[v35] 46, rdE v30 ([asgL N k] : List (List Bool)), rdE va26 (asgL N k), bE g13 #[I (0), I (0)] 28, bE g7 #[I (0), I (0)] 28, bE g4 #[I (64)] 3, bE g1 #[I ((N : Int)), vC] 26, rdE vC C] H46 from (((((hS45.front 7 rfl).front 7 rfl).front 4 rfl).front 7 rfl).front 4 rfl)) (sk (sk (sk (sk (sk (sk (sn (sn (sk (sk (sk (sk (sk (List.Sublist.slnil)))))))))))))))⟩
  refine wpF_exit ?_
  refine atX_else (by decide) ?_
  have hml1 := mods_le (C := C) (n := N) (k := k + 1)
  have hk1 : k + 1 = 2 ^ N := by omega
  refine ⟨hS40.blk 3 rfl, .inr ⟨rfl, ?_⟩⟩
  have hS42 := (hS40.front 3 rfl).putObj (rec .done (some (.exit 0)))
  obtain ⟨H43, hq44⟩ : ∃ H__, H__ = (H39.setIfInBounds (D + 1) (rec .done (some (.exit 0)))) := ⟨_, rfl⟩
  rw [← hq44] at hS42 ⊢
  exact ⟨v35, (show St H0 NoB (SZ S H0) [blkE (D + 1) (rec .done (some (.exit 0))), blkE D (.deferred (some [])), rowE 31 v35 (modsTo C N (2 ^ N) : List (List Bool)), bE bnr21 #[I ((N : Int))] 3, bE bcr21 #[vC] 24, bE g18 #[v35] 46, bE g13 #[I (0), I (0)] 28, bE g7 #[I (0), I (0)] 28, bE g4 #[I (64)] 3, bE g1 #[I ((N : Int)), vC] 26, rdE vC C] H43 from (by have h__ := (St.drop (show St H0 NoB (SZ S H0) [blkE (D + 1) (rec .done (some (.exit 0))), blkE D (.deferred (some [])), rowE 31 v35 (modsTo C N (k + 1) : List (List Bool)), bE bnr21 #[I ((N : Int))] 3, bE bcr21 #[vC] 24, bE g18 #[v35] 46, rdE v30 ([asgL N k] : List (List Bool)), rdE va26 (asgL N k), bE g13 #[I (0), I (0)] 28, bE g7 #[I (0), I (0)] 28, bE g4 #[I (64)] 3, bE g1 #[I ((N : Int)), vC] 26, rdE vC C] H43 from (((((hS42.front 7 rfl).front 7 rfl).front 4 rfl).front 7 rfl).front 4 rfl)) (sk (sk (sk (sk (sk (sk (sn (sn (sk (sk (sk (sk (sk (List.Sublist.slnil))))))))))))))); rw [hk1] at h__; exact h__))⟩
 rintro _ Hz (⟨vo, hz⟩ | ⟨vo, hz⟩)
 ·refine .inl ⟨hz.blk 0 rfl, ?_⟩
  have hS49 := (hz.front 0 rfl).putObj (rec .exhausted none)
  obtain ⟨H50, hq51⟩ : ∃ H__, H__ = (Hz.setIfInBounds (D + 1) (rec .exhausted none)) := ⟨_, rfl⟩
  rw [← hq51] at hS49 ⊢
  refine wpF_seq ?_
  refine wpF_region ?_
  refine lq rfl (q_loadBlk rfl rfl Try.isAgg46 (hS49.blk 5 rfl) rfl (fun h => h)) ?_
  refine lq rfl (q_build (v := Vg #[I (0), I (0)]) rfl par0 (fun w__ => by kernel_rfl)) ?_
  refine la (v := vo) rfl rfl rfl ?_
  refine lo rfl ?_
  refine e_storeBlkA (cs' := #[I (0), I (0)]) rfl rfl rfl Try.sizeOf28 rfl rfl (fa rfl (fa rfl fe)) (hS49.front 7 rfl) (fun H52 hS53 hxx => ?_)
  refine wpL_nil ?_
  refine wpF_ret ?_
  refine retD_one (hS53.blk 2 rfl) ?_
  have hS54 := (hS53.front 2 rfl).putObj (.deferred none)
  refine ⟨_, resT rfl (resC rfl (loadV_blkA Try.isAgg28 Try.sizeOf28 rfl (hS54.blk 1 rfl)) (resN)), hS54.frame, ?_⟩
  show ∃ w_, (Value.tuple #[vo, Vg #[I (0), I (0)]]) = Value.tuple #[w_, Vg #[I (0), I (0)]] ∧ Rd (SZ S H0) (H52.setIfInBounds D (.deferred none)) w_ (modsTo C N (2 ^ N))
  have hS55 : St H0 NoB (SZ S H0) [rdE vo (modsTo C N (2 ^ N)), blkE D (.deferred none), bE g7 #[I (0), I (0)] 28, blkE (D + 1) (rec .exhausted none), bE bnr21 #[I ((N : Int))] 3, bE bcr21 #[vC] 24, bE g18 #[vo] 46, bE g13 #[I (0), I (0)] 28, bE g4 #[I (64)] 3, bE g1 #[I ((N : Int)), vC] 26, rdE vC C] (H52.setIfInBounds D (.deferred none)) := St.fin (hS54.front 3 rfl)
  exact ⟨_, rfl, (hS55.result (hS55.rdS 0 rfl))⟩
 ·refine .inr ⟨0, hz.blk 0 rfl, ?_⟩
  have hS56 := (hz.front 0 rfl).putObj (rec .exhausted (some (.exit 0)))
  obtain ⟨H57, hq58⟩ : ∃ H__, H__ = (Hz.setIfInBounds (D + 1) (rec .exhausted (some (.exit 0)))) := ⟨_, rfl⟩
  rw [← hq58] at hS56 ⊢
  refine atX_here ?_
  refine wpF_seq ?_
  refine wpF_region ?_
  refine lq rfl (q_loadBlk rfl rfl Try.isAgg46 (hS56.blk 5 rfl) rfl (fun h => h)) ?_
  refine lq rfl (q_build (v := Vg #[I (0), I (0)]) rfl par0 (fun w__ => by kernel_rfl)) ?_
  refine la (v := vo) rfl rfl rfl ?_
  refine lo rfl ?_
  refine e_storeBlkA (cs' := #[I (0), I (0)]) rfl rfl rfl Try.sizeOf28 rfl rfl (fa rfl (fa rfl fe)) (hS56.front 7 rfl) (fun H59 hS60 hxx => ?_)
  refine wpL_nil ?_
  refine wpF_ret ?_
  refine retD_one (hS60.blk 2 rfl) ?_
  have hS61 := (hS60.front 2 rfl).putObj (.deferred none)
  refine ⟨_, resT rfl (resC rfl (loadV_blkA Try.isAgg28 Try.sizeOf28 rfl (hS61.blk 1 rfl)) (resN)), hS61.frame, ?_⟩
  show ∃ w_, (Value.tuple #[vo, Vg #[I (0), I (0)]]) = Value.tuple #[w_, Vg #[I (0), I (0)]] ∧ Rd (SZ S H0) (H59.setIfInBounds D (.deferred none)) w_ (modsTo C N (2 ^ N))
  have hS62 : St H0 NoB (SZ S H0) [rdE vo (modsTo C N (2 ^ N)), blkE D (.deferred none), bE g7 #[I (0), I (0)] 28, blkE (D + 1) (rec .exhausted (some (.exit 0))), bE bnr21 #[I ((N : Int))] 3, bE bcr21 #[vC] 24, bE g18 #[vo] 46, bE g13 #[I (0), I (0)] 28, bE g4 #[I (64)] 3, bE g1 #[I ((N : Int)), vC] 26, rdE vC C] (H59.setIfInBounds D (.deferred none)) := St.fin (hS61.front 3 rfl)
  exact ⟨_, rfl, (hS62.result (hS62.rdS 0 rfl))⟩
end In
end Go.Um
