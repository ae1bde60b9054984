import Derived.Test.YtbfgipgojdinoaaProg
import Derived.Test.YtbfgipgojdinoaaCardC7
import Derived.Test.YtbfgipgojdinoaaUmTopCountsC
namespace Go.Um
open Go.Proofs
open GoT (sz ag rdc)
open KeyT (kv)
theorem el_Bool_4_CardC8 : ElT Try.prog Bool 4 := ⟨Try.isAgg4, Try.sizeOf4⟩
theorem el_Int_3_CardC8 : ElT Try.prog Int 3 := ⟨Try.isAgg3, Try.sizeOf3⟩
theorem em_Bool_4_CardC8 : ElemOk Try.prog Bool 4 := ⟨Try.t4, (.bool false), by kernel_rfl, by kernel_rfl, by kernel_rfl, by kernel_rfl, by kernel_rfl⟩
set_option maxHeartbeats 8000000 in
set_option maxRecDepth 100000 in
theorem Do_S {H0 : Heap} {S : Nat → Prop} (vC vA : Value) (C : List (List Int)) (A : List Int) (V n : Nat) (s r q p st : Int) (rC : Rd S H0 vC C) (rA : Rd S H0 vA A) (hok : cnfOk V C) (hlo : litsOk V A) (hs : 0 ≤ s ∧ s ≤ 1000) (hr : 0 ≤ r ∧ r ≤ 1000000) (hq : 0 ≤ q ∧ q ≤ 1000000) (hp : 0 ≤ p ∧ p ≤ 2) (hn8 : n ≤ 8) (hgo0 : goF C A V (decide (p = 1)) n [] [] 0 = some st) : CallsH Try.prog 8 #[Vg #[I ((V : Int)), vC], vA, Vg #[I (s), I (r), I (q), I (p)], I (2000)] H0 (fun rv_ H' => Ext NoB H0 H' ∧ ∃ v1_ v2_ v3_ u_, rv_ = Value.tuple #[Vg #[I st, v1_, v2_, v3_, I u_], Vg #[I (0), I (0)]] ∧ ∃ (hl_ : List Bool) (sl_ : List Stp) (cl_ : List Int), Rd (SZ S H0) H' v1_ hl_ ∧ Rd (SZ S H0) H' v2_ sl_ ∧ Rd (SZ S H0) H' v3_ cl_ ∧ In64 u_) := by
 obtain ⟨hCin, hC24⟩ := cnf_lits hok
 have hV1 := hok.2.1
 have hAi : litsIn A := fun i hi => lit_in hlo (by omega) hi
 have hS0 : St H0 NoB (SZ S H0) [rdE vC C, rdE vA A] H0 := St.arg (St.arg (St.start (fun _ h => h.2)) (Bl0.nil) rA (fun _ h => h.1)) (Bl0.cons (Bl0.nil)) rC (fun _ h => h.1)
 refine callsH_of_wpF (args := [Vg #[I ((V : Int)), vC], vA, Vg #[I (s), I (r), I (q), I (p)], I (2000)]) (rs := [.cell 8 34, .cell 9 28]) Try.func8 rfl Try.ntmps8 Try.results8 (by kernel_rfl) (Nat.le_of_ble_eq_true rfl) ?_
 have y0 : argF [Vg #[I ((V : Int)), vC], vA, Vg #[I (s), I (r), I (q), I (p)], I (2000)] 0 = Vg #[I ((V : Int)), vC] := rfl
 have y1 : argF [Vg #[I ((V : Int)), vC], vA, Vg #[I (s), I (r), I (q), I (p)], I (2000)] 1 = vA := rfl
 have y2 : argF [Vg #[I ((V : Int)), vC], vA, Vg #[I (s), I (r), I (q), I (p)], I (2000)] 2 = Vg #[I (s), I (r), I (q), I (p)] := rfl
 have y3 : argF [Vg #[I ((V : Int)), vC], vA, Vg #[I (s), I (r), I (q), I (p)], I (2000)] 3 = I (2000) := rfl
 generalize argF [Vg #[I ((V : Int)), vC], vA, Vg #[I (s), I (r), I (q), I (p)], I (2000)] = f0 at *
 refine wpF_seq ?_
 refine wpF_region ?_
 refine lo rfl ?_
 refine e_box (v := Vg #[I ((V : Int)), vC]) rfl y0 hS0 (fun g1 H2 hS3 hxx => ?_)
 refine lo rfl ?_
 refine e_box (v := Vg #[I (s), I (r), I (q), I (p)]) rfl y2 hS3 (fun g4 H5 hS6 hxx => ?_)
 refine lo rfl ?_
 refine e_alloc rfl Try.zeroValue34 hS6 (fun g7 H8 hS9 hxx => ?_)
 refine lo rfl ?_
 refine e_alloc rfl Try.zeroValue28 hS9 (fun g10 H11 hS12 hxx => ?_)
 refine wpL_nil ?_
 refine wpF_seq ?_
 refine wpF_seq ?_
 refine wpF_region ?_
 refine lq rfl (q_loadBlkA rfl rfl Try.isAgg26 Try.sizeOf26 rfl (hS12.blk 3 rfl) (fun h => h)) ?_
 refine lm (v := vA) rfl rfl y1 ?_
 refine lo rfl ?_
 refine e_call rfl Try.call22 (arr2 (v0 := Vg #[I ((V : Int)), vC]) (v1 := vA) rfl rfl) (Both_C vC vA C A (V : Int) (hS12.rdN 4 rfl) (hS12.rdN 5 rfl) hok hlo) ?_
 rintro _ H13 ⟨hxx, rfl⟩
 have hS14 := hS12.ext hxx
 refine lo rfl ?_
 refine e_alloc rfl Try.zeroValue28 hS14 (fun g16 H17 hS18 hxx => ?_)
 refine lo rfl ?_
 refine e_storeBlkA (cs' := #[I (0), I (0)]) rfl rfl rfl Try.sizeOf28 rfl rfl (fa rfl (fa rfl fe)) hS18 (fun H19 hS20 hxx => ?_)
 refine wpL_nil ?_
 refine wpF_seq ?_
 refine wpF_region ?_
 refine lq rfl (q_fieldAddr rfl Try.underlying28 rfl Try.sizeOf3 rfl) ?_
 refine lq rfl (q_loadBlk rfl rfl Try.isAgg3 (hS20.blk 0 rfl) rfl (fun h => h)) ?_
 refine lq rfl (q_neq rfl rfl rfl) ?_
 refine wpL_nil ?_
 refine wpF_condF (Eq.trans rfl (congrArg B (decide_eq_false (by decide)))) ?_
 refine wpF_skip ?_
 refine wpF_seq ?_
 refine wpF_seq ?_
 refine wpF_region ?_
 refine lq rfl (q_loadBlkA rfl rfl Try.isAgg38 Try.sizeOf38 rfl (hS20.blk 3 rfl) (fun h => h)) ?_
 refine lm (v := I (2000)) rfl rfl y3 ?_
 refine lo rfl ?_
 refine e_call rfl Try.call23 (arr2 (v0 := Vg #[I (s), I (r), I (q), I (p)]) (v1 := I (2000)) rfl rfl) (Options_C s r q p 2000 (by omega) (by omega) (by omega) (by omega) (by omega)) ?_
 rintro _ H21 ⟨hxx, rfl⟩
 have hS22 := hS20.ext hxx
 refine lo rfl ?_
 refine e_alloc rfl Try.zeroValue28 hS22 (fun g24 H25 hS26 hxx => ?_)
 refine lo rfl ?_
 refine e_storeBlkA (cs' := #[I (0), I (0)]) rfl rfl rfl Try.sizeOf28 rfl rfl (fa rfl (fa rfl fe)) hS26 (fun H27 hS28 hxx => ?_)
 refine wpL_nil ?_
 refine wpF_seq ?_
 refine wpF_region ?_
 refine lq rfl (q_fieldAddr rfl Try.underlying28 rfl Try.sizeOf3 rfl) ?_
 refine lq rfl (q_loadBlk rfl rfl Try.isAgg3 (hS28.blk 0 rfl) rfl (fun h => h)) ?_
 refine lq rfl (q_neq rfl rfl rfl) ?_
 refine wpL_nil ?_
 refine wpF_condF (Eq.trans rfl (congrArg B (decide_eq_false (by decide)))) ?_
 refine wpF_skip ?_
 refine wpF_seq ?_
 refine wpF_drawn [] [] (fun _ _ => False) (by kernel_rfl) (by kernel_rfl) ?_
 refine rq 0 (by kernel_rfl) rfl rfl (q_fieldAddr rfl Try.underlying26 rfl Try.sizeOf3 rfl) ?_
 refine rq 1 (by kernel_rfl) rfl rfl (q_loadBlk rfl rfl Try.isAgg3 (hS28.blk 5 rfl) rfl (labU_not [] rfl (fe))) ?_
 refine rq 2 (by kernel_rfl) rfl rfl (q_move (v := vA) rfl y1) ?_
 refine rq 3 (by kernel_rfl) rfl rfl (q_fieldAddr rfl Try.underlying38 rfl Try.sizeOf3 rfl) ?_
 refine rq 4 (by kernel_rfl) rfl rfl (q_loadBlk rfl rfl Try.isAgg3 (hS28.blk 4 rfl) rfl (labU_not [] rfl (fe))) ?_
 refine rq 5 (by kernel_rfl) rfl rfl (q_eql rfl rfl rfl) ?_
 refine rq 6 (by kernel_rfl) rfl rfl (q_fieldAddr rfl Try.underlying26 rfl Try.sizeOf24 rfl) ?_
 refine rq 7 (by kernel_rfl) rfl rfl (q_loadBlk rfl rfl Try.isAgg24 (hS28.blk 5 rfl) rfl (labU_not [] rfl (fe))) ?_
 refine wpR_n [8] (by kernel_rfl) ?_
 refine fa ?_ fe
 refine exE rfl rfl ?_
 refine e_call rfl Try.call24 (arr1 (v0 := vC) rfl) (New_T (S := SL (SZ S H0) [bE g24 #[I (0), I (0)] 28, bE g16 #[I (0), I (0)] 28, bE g10 #[I (0), I (0)] 28, bE g7 #[I (0), nS, nS, nS, I (0)] 34, bE g4 #[I (s), I (r), I (q), I (p)] 38, bE g1 #[I ((V : Int)), vC] 26, rdE vC C, rdE vA A]) vC C (hS28.rdS 6 rfl)) ?_
 rintro _ H29o8 ⟨hxx, g29o8, r29o8, rfl, hfr, hpw⟩
 have hS29o8 : St H0 NoB (SZ S H0) [bE g29o8 #[vC, nS, nS, (Value.map (some r29o8))] 80, mapE r29o8 ([] : List (Int × Bool)), bE g24 #[I (0), I (0)] 28, bE g16 #[I (0), I (0)] 28, bE g10 #[I (0), I (0)] 28, bE g7 #[I (0), nS, nS, nS, I (0)] 34, bE g4 #[I (s), I (r), I (q), I (p)] 38, bE g1 #[I ((V : Int)), vC] 26, rdE vC C, rdE vA A] H29o8 := St.gotF (A' := [bE g29o8 #[vC, nS, nS, (Value.map (some r29o8))] 80, mapE r29o8 ([] : List (Int × Bool))]) hS28 hxx hfr hpw
 refine ⟨Ext.mono hxx (fun _ h => h.elim), ?_⟩
 refine rq 9 (by kernel_rfl) rfl rfl (q_build (v := Vg #[I ((V : Int)), vA, B (decide (p = 1)), PT g29o8 0, nS, I (0), nS]) rfl (par4 (v0 := I ((V : Int))) (v1 := vA) (v2 := B (decide (p = 1))) (v3 := PT g29o8 0) rfl rfl rfl rfl) ((hS29o8.rdl 9 rfl).slc (fun zz0 => ∀ w__, (Instr.build 68 #[(0, I ((V : Int))), (1, zz0), (2, B (decide (p = 1))), (3, PT g29o8 0)]).run Try.prog w__ = .ok (Vg #[I ((V : Int)), zz0, B (decide (p = 1)), PT g29o8 0, nS, I (0), nS]) w__) (fun a0 n0 c0 => (fun w__ => by kernel_rfl)))) ?_
 refine wpR_n [10] (by kernel_rfl) ?_
 refine fa ?_ fe
 refine exE rfl rfl ?_
 refine e_box (v := Vg #[I ((V : Int)), vA, B (decide (p = 1)), PT g29o8 0, nS, I (0), nS]) rfl rfl hS29o8 (fun g29o10 H29o10 hS29o10 hxx => ?_)
 refine ⟨Ext.mono hxx (fun _ h => h.elim), ?_⟩
 refine rq 11 (by kernel_rfl) rfl rfl (q_assign (v := PT g29o10 0) rfl rfl) ?_
 refine wpR_end (by kernel_rfl) ?_
 skip
 refine wpF_seq ?_
 refine wpF_region ?_
 refine la (v := I (0)) rfl rfl rfl ?_
 refine wpL_nil ?_
 obtain ⟨vl0, hvl0⟩ : ∃ v : Value, v = nS := ⟨_, rfl⟩
 obtain ⟨vw0, hvw0⟩ : ∃ v : Value, v = nS := ⟨_, rfl⟩
 obtain ⟨vv0, hvv0⟩ : ∃ v : Value, v = nS := ⟨_, rfl⟩
 have hS30 : St H0 NoB (SZ S H0) [rowE 3 vl0 ([] : List Int), rowE 3 vw0 ([] : List Int), rowE 3 vv0 ([] : List Int), bE g29o10 #[I ((V : Int)), vA, B (decide (p = 1)), PT g29o8 0, vv0, I (0), nS] 68, bE g29o8 #[vC, vl0, vw0, (Value.map (some r29o8))] 80, mapE r29o8 (marks [] : List (Int × Bool)), bE g24 #[I (0), I (0)] 28, bE g16 #[I (0), I (0)] 28, bE g10 #[I (0), I (0)] 28, bE g7 #[I (0), nS, nS, nS, I (0)] 34, bE g4 #[I (s), I (r), I (q), I (p)] 38, bE g1 #[I ((V : Int)), vC] 26, rdE vC C, rdE vA A] H29o10 := by subst hvl0 hvw0 hvv0; exact ((hS29o10.row0 3).row0 3).row0 3
 refine wpF_block ?_
 refine wpF_loop (fun mz f H => ∃ (n1 : Nat), ∃ (T : List Int), ∃ (W : List Int), ∃ (Lv : List Int), ∃ (lv : Int), ∃ (vl : Value), ∃ (vw : Value), ∃ (vv : Value), mz = n1 ∧ (goF C A V (decide (p = 1)) n1 T W lv = some st) ∧ (T.length + 9 * n1 ≤ 100) ∧ (W.length + 9 * n1 ≤ 100) ∧ (Lv.length + 9 * n1 ≤ 100) ∧ (0 ≤ lv ∧ lv + n1 ≤ 100) ∧ f 3 = I (2000) ∧ f 4 = PT g1 0 ∧ f 8 = PT g7 0 ∧ f 9 = PT g10 0 ∧ f 12 = PT g29o10 0 ∧ f 13 = I (0) ∧ St H0 NoB (SZ S H0) [rowE 3 vl (T : List Int), rowE 3 vw (W : List Int), bE g29o8 #[vC, vl, vw, (Value.map (some r29o8))] 80, mapE r29o8 (marks T : List (Int × Bool)), rowE 3 vv (Lv : List Int), bE g29o10 #[I ((V : Int)), vA, B (decide (p = 1)), PT g29o8 0, vv, I (lv), nS] 68, bE g24 #[I (0), I (0)] 28, bE g16 #[I (0), I (0)] 28, bE g10 #[I (0), I (0)] 28, bE g7 #[I (0), nS, nS, nS, I (0)] 34, bE g4 #[I (s), I (r), I (q), I (p)] 38, bE g1 #[I ((V : Int)), vC] 26, rdE vC C, rdE vA A] H) (n) ?_ ?_
 ·exact ⟨n, [], [], [], 0, vl0, vw0, vv0, rfl, hgo0, (by simp; omega), (by simp; omega), (by simp; omega), (by omega), y3, rfl, rfl, rfl, rfl, rfl, (show St H0 NoB (SZ S H0) [rowE 3 vl0 (([]) : List Int), rowE 3 vw0 (([]) : List Int), bE g29o8 #[vC, vl0, vw0, (Value.map (some r29o8))] 80, mapE r29o8 (marks ([]) : List (Int × Bool)), rowE 3 vv0 (([]) : List Int), bE g29o10 #[I ((V : Int)), vA, B (decide (p = 1)), PT g29o8 0, vv0, I (0), nS] 68, bE g24 #[I (0), I (0)] 28, bE g16 #[I (0), I (0)] 28, bE g10 #[I (0), I (0)] 28, bE g7 #[I (0), nS, nS, nS, I (0)] 34, bE g4 #[I (s), I (r), I (q), I (p)] 38, bE g1 #[I ((V : Int)), vC] 26, rdE vC C, rdE vA A] H29o10 from (St.drop (show St H0 NoB (SZ S H0) [rowE 3 vl0 ([] : List Int), rowE 3 vw0 ([] : List Int), bE g29o8 #[vC, vl0, vw0, (Value.map (some r29o8))] 80, mapE r29o8 (marks [] : List (Int × Bool)), rowE 3 vv0 ([] : List Int), bE g29o10 #[I ((V : Int)), vA, B (decide (p = 1)), PT g29o8 0, vv0, I (0), nS] 68, bE g24 #[I (0), I (0)] 28, bE g16 #[I (0), I (0)] 28, bE g10 #[I (0), I (0)] 28, bE g7 #[I (0), nS, nS, nS, I (0)] 34, bE g4 #[I (s), I (r), I (q), I (p)] 38, bE g1 #[I ((V : Int)), vC] 26, rdE vC C, rdE vA A] H29o10 from ((((hS30.front 5 rfl).front 5 rfl).front 3 rfl).front 3 rfl)) (sk (sk (sk (sk (sk (sk (sk (sk (sk (sk (sk (sk (sk (sk (List.Sublist.slnil)))))))))))))))))⟩
 intro m31 f31 H31 hI31
 clear y3
 obtain ⟨n1, T, W, Lv, lv, vl, vw, vv, hm31, hgo1, hTl, hWl, hLl, hlv, y3, y4, y8, y9, y12, y13, hS31⟩ := hI31
 refine wpF_block ?_
 refine wpF_seq ?_
 refine wpF_seq ?_
 obtain ⟨m, T2, W2, b, hmn, hrun, hbad, hgood⟩ := go_step hgo1
 obtain ⟨hTz, hWz⟩ := run_len hrun
 refine wpF_region ?_
 refine lm (v := PT g29o10 0) rfl rfl y12 ?_
 have hS32 := hS31
 refine lo rfl ?_
 refine e_call rfl Try.call25 (arr1 (v0 := PT g29o10 0) rfl) (propagate_S _ g29o10 g29o8 r29o8 vC vl vw vA vv (nS) V (decide (p = 1)) lv Lv C T W T2 W2 8 b (St.give (A := [rowE 3 vl (T : List Int), rowE 3 vw (W : List Int), bE g29o8 #[vC, vl, vw, (Value.map (some r29o8))] 80, mapE r29o8 (marks T : List (Int × Bool)), rowE 3 vv (Lv : List Int), bE g29o10 #[I ((V : Int)), vA, B (decide (p = 1)), PT g29o8 0, vv, I (lv), nS] 68]) (L := [bE g24 #[I (0), I (0)] 28, bE g16 #[I (0), I (0)] 28, bE g10 #[I (0), I (0)] 28, bE g7 #[I (0), nS, nS, nS, I (0)] 34, bE g4 #[I (s), I (r), I (q), I (p)] 38, bE g1 #[I ((V : Int)), vC] 26, rdE vC C, rdE vA A]) hS32) (hS32.rdS 12 rfl) hCin hrun (by omega) (by omega) (by omega) (by omega)) ?_
 rintro _ H37 ⟨hxx, r33, r34, r35, l36, rfl, hzl36, hgo⟩
 have hS38 : St H0 NoB (SZ S H0) [rowE 3 r33 (T2 : List Int), rowE 3 r34 (W2 : List Int), bE g29o8 #[vC, r33, r34, (Value.map (some r29o8))] 80, mapE r29o8 (marks T2 : List (Int × Bool)), rowE 3 r35 (l36 : List Int), bE g29o10 #[I ((V : Int)), vA, B (decide (p = 1)), PT g29o8 0, r35, I (lv), nS] 68, bE g24 #[I (0), I (0)] 28, bE g16 #[I (0), I (0)] 28, bE g10 #[I (0), I (0)] 28, bE g7 #[I (0), nS, nS, nS, I (0)] 34, bE g4 #[I (s), I (r), I (q), I (p)] 38, bE g1 #[I ((V : Int)), vC] 26, rdE vC C, rdE vA A] H37 := St.back3 (A := [rowE 3 vl (T : List Int), rowE 3 vw (W : List Int), bE g29o8 #[vC, vl, vw, (Value.map (some r29o8))] 80, mapE r29o8 (marks T : List (Int × Bool)), rowE 3 vv (Lv : List Int), bE g29o10 #[I ((V : Int)), vA, B (decide (p = 1)), PT g29o8 0, vv, I (lv), nS] 68]) (A' := [rowE 3 r33 (T2 : List Int), rowE 3 r34 (W2 : List Int), bE g29o8 #[vC, r33, r34, (Value.map (some r29o8))] 80, mapE r29o8 (marks T2 : List (Int × Bool)), rowE 3 r35 (l36 : List Int), bE g29o10 #[I ((V : Int)), vA, B (decide (p = 1)), PT g29o8 0, r35, I (lv), nS] 68]) (L := [bE g24 #[I (0), I (0)] 28, bE g16 #[I (0), I (0)] 28, bE g10 #[I (0), I (0)] 28, bE g7 #[I (0), nS, nS, nS, I (0)] 34, bE g4 #[I (s), I (r), I (q), I (p)] 38, bE g1 #[I ((V : Int)), vC] 26, rdE vC C, rdE vA A]) hS32 hxx hgo
 refine la (v := I (b)) rfl rfl rfl ?_
 refine wpL_nil ?_
 refine wpF_seq ?_
 refine wpF_region ?_
 refine lm (v := I (b)) rfl rfl rfl ?_
 refine lq rfl (q_geq rfl rfl rfl) ?_
 refine wpL_nil ?_
 refine wpF_condP rfl (fun h52 => ?t100) (fun h52 => ?e100)
 case t100 =>
  refine wpF_seq ?_
  refine wpF_seq ?_
  refine wpF_region ?_
  refine lm (v := I (0)) rfl rfl y13 ?_
  refine lm (v := I (2000)) rfl rfl y3 ?_
  refine lq rfl (q_eql rfl rfl rfl) ?_
  refine wpL_nil ?_
  refine wpF_condF (Eq.trans rfl (congrArg B (decide_eq_false (by decide)))) ?_
  refine wpF_skip ?_
  refine wpF_seq ?_
  refine wpF_region ?_
  refine lm (v := I (0)) rfl rfl y13 ?_
  refine lq rfl (q_add rfl rfl rfl (by constructor <;> omega)) ?_
  refine la (v := I (0 + 1)) rfl rfl rfl ?_
  refine wpL_nil ?_
  refine wpF_seq ?_
  refine wpF_seq ?_
  refine wpF_region ?_
  refine lm (v := PT g29o10 0) rfl rfl y12 ?_
  refine lq rfl (q_nilCheck rfl rfl) ?_
  refine lq rfl (q_fieldAddr rfl Try.underlying68 rfl Try.sizeOf3 rfl) ?_
  refine lq rfl (q_loadBlk rfl rfl Try.isAgg3 (hS38.blk 5 rfl) rfl (fun h => h)) ?_
  refine lq rfl (q_eql rfl rfl rfl) ?_
  refine wpL_nil ?_
  refine wpF_condP rfl (fun h65 => ?t52) (fun h65 => ?e52)
  case e52 =>
   exact absurd (hbad h52).1 h65
  refine wpF_seq ?_
  refine wpF_region ?_
  refine lm (v := PT g29o10 0) rfl rfl y12 ?_
  refine lm (v := I (0 + 1)) rfl rfl rfl ?_
  have hS42 := (St.drop (show St H0 NoB (SZ S H0) [bE g29o10 #[I ((V : Int)), vA, B (decide (p = 1)), PT g29o8 0, r35, I (lv), nS] 68, rowE 3 r33 (T2 : List Int), rowE 3 r34 (W2 : List Int), bE g29o8 #[vC, r33, r34, (Value.map (some r29o8))] 80, mapE r29o8 (marks T2 : List (Int × Bool)), rowE 3 r35 (l36 : List Int), bE g24 #[I (0), I (0)] 28, bE g16 #[I (0), I (0)] 28, bE g10 #[I (0), I (0)] 28, bE g7 #[I (0), nS, nS, nS, I (0)] 34, bE g4 #[I (s), I (r), I (q), I (p)] 38, bE g1 #[I ((V : Int)), vC] 26, rdE vC C, rdE vA A] H37 from (hS38.front 5 rfl)) (sk (sk (sk (sk (sk (sk (sk (sk (sk (sk (sk (sk (sk (sk (List.Sublist.slnil))))))))))))))))
  refine lo rfl ?_
  refine e_call rfl Try.call26 (arr3 (v0 := PT g29o10 0) (v1 := nS) (v2 := I (0 + 1)) rfl rfl rfl) (no_S _ g29o10 vA (PT g29o8 0) r35 (nS) (V : Int) lv (0 + 1) (decide (p = 1)) [] (St.give (A := [bE g29o10 #[I ((V : Int)), vA, B (decide (p = 1)), PT g29o8 0, r35, I (lv), nS] 68]) (L := [rowE 3 r33 (T2 : List Int), rowE 3 r34 (W2 : List Int), bE g29o8 #[vC, r33, r34, (Value.map (some r29o8))] 80, mapE r29o8 (marks T2 : List (Int × Bool)), rowE 3 r35 (l36 : List Int), bE g24 #[I (0), I (0)] 28, bE g16 #[I (0), I (0)] 28, bE g10 #[I (0), I (0)] 28, bE g7 #[I (0), nS, nS, nS, I (0)] 34, bE g4 #[I (s), I (r), I (q), I (p)] 38, bE g1 #[I ((V : Int)), vC] 26, rdE vC C, rdE vA A]) hS42) rdNil (fun i hi => absurd hi (Nat.not_lt_zero i)) (by constructor <;> omega)) ?_
  rintro _ H45 ⟨hxx, r43, x44, rfl, hgo⟩
  have hS46 : St H0 NoB (SZ S H0) [rdE r43 x44, bE g29o10 #[I ((V : Int)), vA, B (decide (p = 1)), PT g29o8 0, r35, I (lv), r43] 68, rowE 3 r33 (T2 : List Int), rowE 3 r34 (W2 : List Int), bE g29o8 #[vC, r33, r34, (Value.map (some r29o8))] 80, mapE r29o8 (marks T2 : List (Int × Bool)), rowE 3 r35 (l36 : List Int), bE g24 #[I (0), I (0)] 28, bE g16 #[I (0), I (0)] 28, bE g10 #[I (0), I (0)] 28, bE g7 #[I (0), nS, nS, nS, I (0)] 34, bE g4 #[I (s), I (r), I (q), I (p)] 38, bE g1 #[I ((V : Int)), vC] 26, rdE vC C, rdE vA A] H45 := St.back3 (A := [bE g29o10 #[I ((V : Int)), vA, B (decide (p = 1)), PT g29o8 0, r35, I (lv), nS] 68]) (A' := [rdE r43 x44, bE g29o10 #[I ((V : Int)), vA, B (decide (p = 1)), PT g29o8 0, r35, I (lv), r43] 68]) (L := [rowE 3 r33 (T2 : List Int), rowE 3 r34 (W2 : List Int), bE g29o8 #[vC, r33, r34, (Value.map (some r29o8))] 80, mapE r29o8 (marks T2 : List (Int × Bool)), rowE 3 r35 (l36 : List Int), bE g24 #[I (0), I (0)] 28, bE g16 #[I (0), I (0)] 28, bE g10 #[I (0), I (0)] 28, bE g7 #[I (0), nS, nS, nS, I (0)] 34, bE g4 #[I (s), I (r), I (q), I (p)] 38, bE g1 #[I ((V : Int)), vC] 26, rdE vC C, rdE vA A]) hS42 hxx hgo
  refine lq rfl (q_build (v := Vg #[I (0), I (0)]) rfl par0 (fun w__ => by kernel_rfl)) ?_
  refine lo rfl ?_
  refine e_storeBlkA (cs' := #[I (2), nS, r43, nS, I (0 + 1)]) rfl y8 rfl Try.sizeOf34 rfl rfl (fa rfl (fa rfl (fa ((oneCell_rdL (hS46.rdl 0 rfl))) (fa rfl (fa rfl fe))))) (hS46.front 10 rfl) (fun H48 hS49 hxx => ?_)
  refine lo rfl ?_
  refine e_storeBlkA (cs' := #[I (0), I (0)]) rfl y9 rfl Try.sizeOf28 rfl rfl (fa rfl (fa rfl fe)) (hS49.front 10 rfl) (fun H50 hS51 hxx => ?_)
  refine wpL_nil ?_
  refine wpF_ret ?_
  refine ⟨_, resC y8 (loadV_blkA Try.isAgg34 Try.sizeOf34 rfl (hS51.blk 1 rfl)) (resC y9 (loadV_blkA Try.isAgg28 Try.sizeOf28 rfl (hS51.blk 0 rfl)) (resN)), hS51.frame, ?_⟩
  show ∃ v1_ v2_ v3_ u_, (Value.tuple #[Vg #[I (2), nS, r43, nS, I (0 + 1)], Vg #[I (0), I (0)]]) = Value.tuple #[Vg #[I st, v1_, v2_, v3_, I u_], Vg #[I (0), I (0)]] ∧ ∃ (hl_ : List Bool) (sl_ : List Stp) (cl_ : List Int), Rd (SZ S H0) H50 v1_ hl_ ∧ Rd (SZ S H0) H50 v2_ sl_ ∧ Rd (SZ S H0) H50 v3_ cl_ ∧ In64 u_
  have hst : st = _ := (hbad h52).2
  rw [hst]
  exact ⟨_, _, _, _, rfl, _, _, _, rdNil, (hS51.result (hS51.rdS 2 rfl)), rdNil, by constructor <;> omega⟩
 obtain ⟨htr, hasked, hopen⟩ := hgood h52
 obtain ⟨hai1, hai2⟩ := (ask_in (T := T2) (i := 0) (nx := 0) hAi (by decide)).1
 rw [List.drop_zero] at hai1 hai2
 refine wpF_skip ?_
 refine wpF_seq ?_
 refine wpF_region ?_
 refine lm (v := PT g29o10 0) rfl rfl y12 ?_
 have hS53 := hS38
 refine lo rfl ?_
 refine e_call rfl Try.call30 (arr1 (v0 := PT g29o10 0) rfl) (decide_S _ g29o10 g29o8 r29o8 vC r33 r34 vA r35 (nS) V (decide (p = 1)) lv A T2 W2 l36 (St.give (A := [rowE 3 r33 (T2 : List Int), rowE 3 r34 (W2 : List Int), bE g29o8 #[vC, r33, r34, (Value.map (some r29o8))] 80, mapE r29o8 (marks T2 : List (Int × Bool)), rowE 3 r35 (l36 : List Int), bE g29o10 #[I ((V : Int)), vA, B (decide (p = 1)), PT g29o8 0, r35, I (lv), nS] 68]) (L := [bE g24 #[I (0), I (0)] 28, bE g16 #[I (0), I (0)] 28, bE g10 #[I (0), I (0)] 28, bE g7 #[I (0), nS, nS, nS, I (0)] 34, bE g4 #[I (s), I (r), I (q), I (p)] 38, bE g1 #[I ((V : Int)), vC] 26, rdE vC C, rdE vA A]) hS53) (hS53.rdS 13 rfl) hlo (by omega) (by omega) (by omega) (by omega) (by omega)) ?_
 rintro _ H57 ⟨hxx, r54, r55, r56, rfl, hgo⟩
 have hS58 : St H0 NoB (SZ S H0) [rowE 3 r54 (decT T2 A (decide (p = 1)) V T2 (decN T2 A (decide (p = 1)) V) : List Int), rowE 3 r55 (decT T2 A (decide (p = 1)) V W2 (-1) : List Int), bE g29o8 #[vC, r54, r55, (Value.map (some r29o8))] 80, mapE r29o8 (marks (decT T2 A (decide (p = 1)) V T2 (decN T2 A (decide (p = 1)) V)) : List (Int × Bool)), rowE 3 r56 (decT T2 A (decide (p = 1)) V l36 (lv + 1) : List Int), bE g29o10 #[I ((V : Int)), vA, B (decide (p = 1)), PT g29o8 0, r56, I (decL T2 A (decide (p = 1)) V lv), nS] 68, bE g24 #[I (0), I (0)] 28, bE g16 #[I (0), I (0)] 28, bE g10 #[I (0), I (0)] 28, bE g7 #[I (0), nS, nS, nS, I (0)] 34, bE g4 #[I (s), I (r), I (q), I (p)] 38, bE g1 #[I ((V : Int)), vC] 26, rdE vC C, rdE vA A] H57 := St.back3 (A := [rowE 3 r33 (T2 : List Int), rowE 3 r34 (W2 : List Int), bE g29o8 #[vC, r33, r34, (Value.map (some r29o8))] 80, mapE r29o8 (marks T2 : List (Int × Bool)), rowE 3 r35 (l36 : List Int), bE g29o10 #[I ((V : Int)), vA, B (decide (p = 1)), PT g29o8 0, r35, I (lv), nS] 68]) (A' := [rowE 3 r54 (decT T2 A (decide (p = 1)) V T2 (decN T2 A (decide (p = 1)) V) : List Int), rowE 3 r55 (decT T2 A (decide (p = 1)) V W2 (-1) : List Int), bE g29o8 #[vC, r54, r55, (Value.map (some r29o8))] 80, mapE r29o8 (marks (decT T2 A (decide (p = 1)) V T2 (decN T2 A (decide (p = 1)) V)) : List (Int × Bool)), rowE 3 r56 (decT T2 A (decide (p = 1)) V l36 (lv + 1) : List Int), bE g29o10 #[I ((V : Int)), vA, B (decide (p = 1)), PT g29o8 0, r56, I (decL T2 A (decide (p = 1)) V lv), nS] 68]) (L := [bE g24 #[I (0), I (0)] 28, bE g16 #[I (0), I (0)] 28, bE g10 #[I (0), I (0)] 28, bE g7 #[I (0), nS, nS, nS, I (0)] 34, bE g4 #[I (s), I (r), I (q), I (p)] 38, bE g1 #[I ((V : Int)), vC] 26, rdE vC C, rdE vA A]) hS53 hxx hgo
 refine lm (v := Value.tuple #[B (decide ((askF T2 A 0).1 = 0 ∧ decN T2 A (decide (p = 1)) V = 0)), I ((askF T2 A 0).1)]) rfl rfl rfl ?_
 refine lq rfl (q_extract (vs := #[B (decide ((askF T2 A 0).1 = 0 ∧ decN T2 A (decide (p = 1)) V = 0)), I ((askF T2 A 0).1)]) (v := B (decide ((askF T2 A 0).1 = 0 ∧ decN T2 A (decide (p = 1)) V = 0))) rfl rfl rfl) ?_
 refine lq rfl (q_extract (vs := #[B (decide ((askF T2 A 0).1 = 0 ∧ decN T2 A (decide (p = 1)) V = 0)), I ((askF T2 A 0).1)]) (v := I ((askF T2 A 0).1)) rfl rfl rfl) ?_
 refine la (v := B (decide ((askF T2 A 0).1 = 0 ∧ decN T2 A (decide (p = 1)) V = 0))) rfl rfl rfl ?_
 refine la (v := I ((askF T2 A 0).1)) rfl rfl rfl ?_
 refine wpL_nil ?_
 refine wpF_seq ?_
 refine wpF_seq ?_
 refine wpF_region ?_
 refine lm (v := I ((askF T2 A 0).1)) rfl rfl rfl ?_
 refine lq rfl (q_neq rfl rfl rfl) ?_
 refine wpL_nil ?_
 refine wpF_condP rfl (fun h88 => ?t99) (fun h88 => ?e99)
 case t99 =>
  have hds : decS T2 A (decide (p = 1)) V := .inl h88
  obtain ⟨e1, e2, e3, e4⟩ := dec_list (W := W2) (Lv := l36) (lv := lv) hds
  have hS61 : St H0 NoB (SZ S H0) [rowE 3 r54 (T2 : List Int), rowE 3 r55 (W2 : List Int), bE g29o8 #[vC, r54, r55, (Value.map (some r29o8))] 80, mapE r29o8 (marks T2 : List (Int × Bool)), rowE 3 r56 (l36 : List Int), bE g29o10 #[I ((V : Int)), vA, B (decide (p = 1)), PT g29o8 0, r56, I (lv), nS] 68, bE g24 #[I (0), I (0)] 28, bE g16 #[I (0), I (0)] 28, bE g10 #[I (0), I (0)] 28, bE g7 #[I (0), nS, nS, nS, I (0)] 34, bE g4 #[I (s), I (r), I (q), I (p)] 38, bE g1 #[I ((V : Int)), vC] 26, rdE vC C, rdE vA A] H57 := by have h__ := hS58; rw [e1, e2, e3, e4] at h__; exact h__
  refine wpF_seq ?_
  refine wpF_region ?_
  refine lm (v := PT g29o10 0) rfl rfl y12 ?_
  refine lm (v := PT g29o10 0) rfl rfl y12 ?_
  refine lm (v := I ((askF T2 A 0).1)) rfl rfl rfl ?_
  have hS62 := hS61
  refine lo rfl ?_
  refine e_call rfl Try.call31 (arr2 (v0 := PT g29o10 0) (v1 := I ((askF T2 A 0).1)) rfl rfl) (core_S _ g29o10 g29o8 r29o8 vC r54 r55 vA r56 (nS) V (decide (p = 1)) lv C T2 W2 l36 ((askF T2 A 0).1) 12 (St.give (A := [rowE 3 r54 (T2 : List Int), rowE 3 r55 (W2 : List Int), bE g29o8 #[vC, r54, r55, (Value.map (some r29o8))] 80, mapE r29o8 (marks T2 : List (Int × Bool)), rowE 3 r56 (l36 : List Int), bE g29o10 #[I ((V : Int)), vA, B (decide (p = 1)), PT g29o8 0, r56, I (lv), nS] 68]) (L := [bE g24 #[I (0), I (0)] 28, bE g16 #[I (0), I (0)] 28, bE g10 #[I (0), I (0)] 28, bE g7 #[I (0), nS, nS, nS, I (0)] 34, bE g4 #[I (s), I (r), I (q), I (p)] 38, bE g1 #[I ((V : Int)), vC] 26, rdE vC C, rdE vA A]) hS62) (hS62.rdS 12 rfl) hCin hC24 (by omega) (by decide) (hasked h88).2) ?_
  rintro r63 H65 ⟨hxx, x64, hlix64, hgo⟩
  have hS66 : St H0 NoB (SZ S H0) [rdE r63 x64, rowE 3 r54 (T2 : List Int), rowE 3 r55 (W2 : List Int), bE g29o8 #[vC, r54, r55, (Value.map (some r29o8))] 80, mapE r29o8 (marks T2 : List (Int × Bool)), rowE 3 r56 (l36 : List Int), bE g29o10 #[I ((V : Int)), vA, B (decide (p = 1)), PT g29o8 0, r56, I (lv), nS] 68, bE g24 #[I (0), I (0)] 28, bE g16 #[I (0), I (0)] 28, bE g10 #[I (0), I (0)] 28, bE g7 #[I (0), nS, nS, nS, I (0)] 34, bE g4 #[I (s), I (r), I (q), I (p)] 38, bE g1 #[I ((V : Int)), vC] 26, rdE vC C, rdE vA A] H65 := St.back3 (A := [rowE 3 r54 (T2 : List Int), rowE 3 r55 (W2 : List Int), bE g29o8 #[vC, r54, r55, (Value.map (some r29o8))] 80, mapE r29o8 (marks T2 : List (Int × Bool)), rowE 3 r56 (l36 : List Int), bE g29o10 #[I ((V : Int)), vA, B (decide (p = 1)), PT g29o8 0, r56, I (lv), nS] 68]) (A' := [rdE r63 x64, rowE 3 r54 (T2 : List Int), rowE 3 r55 (W2 : List Int), bE g29o8 #[vC, r54, r55, (Value.map (some r29o8))] 80, mapE r29o8 (marks T2 : List (Int × Bool)), rowE 3 r56 (l36 : List Int), bE g29o10 #[I ((V : Int)), vA, B (decide (p = 1)), PT g29o8 0, r56, I (lv), nS] 68]) (L := [bE g24 #[I (0), I (0)] 28, bE g16 #[I (0), I (0)] 28, bE g10 #[I (0), I (0)] 28, bE g7 #[I (0), nS, nS, nS, I (0)] 34, bE g4 #[I (s), I (r), I (q), I (p)] 38, bE g1 #[I ((V : Int)), vC] 26, rdE vC C, rdE vA A]) hS62 hxx hgo
  refine lm (v := I (0)) rfl rfl y13 ?_
  have hS68 := (St.drop (show St H0 NoB (SZ S H0) [bE g29o10 #[I ((V : Int)), vA, B (decide (p = 1)), PT g29o8 0, r56, I (lv), nS] 68, rdE r63 x64, rowE 3 r54 (T2 : List Int), rowE 3 r55 (W2 : List Int), bE g29o8 #[vC, r54, r55, (Value.map (some r29o8))] 80, mapE r29o8 (marks T2 : List (Int × Bool)), rowE 3 r56 (l36 : List Int), bE g24 #[I (0), I (0)] 28, bE g16 #[I (0), I (0)] 28, bE g10 #[I (0), I (0)] 28, bE g7 #[I (0), nS, nS, nS, I (0)] 34, bE g4 #[I (s), I (r), I (q), I (p)] 38, bE g1 #[I ((V : Int)), vC] 26, rdE vC C, rdE vA A] H65 from (hS66.front 6 rfl)) (sk (sk (sk (sk (sk (sk (sk (sk (sk (sk (sk (sk (sk (sk (sk (List.Sublist.slnil)))))))))))))))))
  refine lo rfl ?_
  refine e_call rfl Try.call26 (arr3 (v0 := PT g29o10 0) (v1 := r63) (v2 := I (0)) rfl rfl rfl) (no_S _ g29o10 vA (PT g29o8 0) r56 r63 (V : Int) lv 0 (decide (p = 1)) x64 (St.give (A := [bE g29o10 #[I ((V : Int)), vA, B (decide (p = 1)), PT g29o8 0, r56, I (lv), nS] 68]) (L := [rdE r63 x64, rowE 3 r54 (T2 : List Int), rowE 3 r55 (W2 : List Int), bE g29o8 #[vC, r54, r55, (Value.map (some r29o8))] 80, mapE r29o8 (marks T2 : List (Int × Bool)), rowE 3 r56 (l36 : List Int), bE g24 #[I (0), I (0)] 28, bE g16 #[I (0), I (0)] 28, bE g10 #[I (0), I (0)] 28, bE g7 #[I (0), nS, nS, nS, I (0)] 34, bE g4 #[I (s), I (r), I (q), I (p)] 38, bE g1 #[I ((V : Int)), vC] 26, rdE vC C, rdE vA A]) hS68) (hS68.rdS 1 rfl) hlix64 (by constructor <;> omega)) ?_
  rintro _ H71 ⟨hxx, r69, x70, rfl, hgo⟩
  have hS72 : St H0 NoB (SZ S H0) [rdE r69 x70, bE g29o10 #[I ((V : Int)), vA, B (decide (p = 1)), PT g29o8 0, r56, I (lv), r69] 68, rdE r63 x64, rowE 3 r54 (T2 : List Int), rowE 3 r55 (W2 : List Int), bE g29o8 #[vC, r54, r55, (Value.map (some r29o8))] 80, mapE r29o8 (marks T2 : List (Int × Bool)), rowE 3 r56 (l36 : List Int), bE g24 #[I (0), I (0)] 28, bE g16 #[I (0), I (0)] 28, bE g10 #[I (0), I (0)] 28, bE g7 #[I (0), nS, nS, nS, I (0)] 34, bE g4 #[I (s), I (r), I (q), I (p)] 38, bE g1 #[I ((V : Int)), vC] 26, rdE vC C, rdE vA A] H71 := St.back3 (A := [bE g29o10 #[I ((V : Int)), vA, B (decide (p = 1)), PT g29o8 0, r56, I (lv), nS] 68]) (A' := [rdE r69 x70, bE g29o10 #[I ((V : Int)), vA, B (decide (p = 1)), PT g29o8 0, r56, I (lv), r69] 68]) (L := [rdE r63 x64, rowE 3 r54 (T2 : List Int), rowE 3 r55 (W2 : List Int), bE g29o8 #[vC, r54, r55, (Value.map (some r29o8))] 80, mapE r29o8 (marks T2 : List (Int × Bool)), rowE 3 r56 (l36 : List Int), bE g24 #[I (0), I (0)] 28, bE g16 #[I (0), I (0)] 28, bE g10 #[I (0), I (0)] 28, bE g7 #[I (0), nS, nS, nS, I (0)] 34, bE g4 #[I (s), I (r), I (q), I (p)] 38, bE g1 #[I ((V : Int)), vC] 26, rdE vC C, rdE vA A]) hS68 hxx hgo
  refine lq rfl (q_build (v := Vg #[I (0), I (0)]) rfl par0 (fun w__ => by kernel_rfl)) ?_
  refine lo rfl ?_
  refine e_storeBlkA (cs' := #[I (2), nS, r69, r63, I (0)]) rfl y8 rfl Try.sizeOf34 rfl rfl (fa rfl (fa rfl (fa ((oneCell_rdL (hS72.rdl 0 rfl))) (fa ((oneCell_rdL (hS72.rdl 2 rfl))) (fa rfl fe))))) (hS72.front 11 rfl) (fun H74 hS75 hxx => ?_)
  refine lo rfl ?_
  refine e_storeBlkA (cs' := #[I (0), I (0)]) rfl y9 rfl Try.sizeOf28 rfl rfl (fa rfl (fa rfl fe)) (hS75.front 11 rfl) (fun H76 hS77 hxx => ?_)
  refine wpL_nil ?_
  refine wpF_ret ?_
  refine ⟨_, resC y8 (loadV_blkA Try.isAgg34 Try.sizeOf34 rfl (hS77.blk 1 rfl)) (resC y9 (loadV_blkA Try.isAgg28 Try.sizeOf28 rfl (hS77.blk 0 rfl)) (resN)), hS77.frame, ?_⟩
  show ∃ v1_ v2_ v3_ u_, (Value.tuple #[Vg #[I (2), nS, r69, r63, I (0)], Vg #[I (0), I (0)]]) = Value.tuple #[Vg #[I st, v1_, v2_, v3_, I u_], Vg #[I (0), I (0)]] ∧ ∃ (hl_ : List Bool) (sl_ : List Stp) (cl_ : List Int), Rd (SZ S H0) H76 v1_ hl_ ∧ Rd (SZ S H0) H76 v2_ sl_ ∧ Rd (SZ S H0) H76 v3_ cl_ ∧ In64 u_
  have hst : st = _ := (hasked h88).1
  rw [hst]
  exact ⟨_, _, _, _, rfl, _, _, _, rdNil, (hS77.result (hS77.rdS 2 rfl)), (hS77.result (hS77.rdS 4 rfl)), by constructor <;> omega⟩
 refine wpF_skip ?_
 refine wpF_seq ?_
 refine wpF_region ?_
 refine lm (v := B (decide ((askF T2 A 0).1 = 0 ∧ decN T2 A (decide (p = 1)) V = 0))) rfl rfl rfl ?_
 refine wpL_nil ?_
 refine wpF_condP rfl (fun h96 => ?t98) (fun h96 => ?e98)
 case e98 =>
  have hds : ¬ decS T2 A (decide (p = 1)) V := fun h => h.elim (fun h => h88 h) (fun h => h96 ⟨Decidable.of_not_not h88, h⟩)
  obtain ⟨e1, e2, e3, e4⟩ := dec_more (W := W2) (Lv := l36) (lv := lv) hds
  have hS80 : St H0 NoB (SZ S H0) [rowE 3 r54 (T2 ++ [decN T2 A (decide (p = 1)) V] : List Int), rowE 3 r55 (W2 ++ [-1] : List Int), bE g29o8 #[vC, r54, r55, (Value.map (some r29o8))] 80, mapE r29o8 (marks (T2 ++ [decN T2 A (decide (p = 1)) V]) : List (Int × Bool)), rowE 3 r56 (l36 ++ [lv + 1] : List Int), bE g29o10 #[I ((V : Int)), vA, B (decide (p = 1)), PT g29o8 0, r56, I (lv + 1), nS] 68, bE g24 #[I (0), I (0)] 28, bE g16 #[I (0), I (0)] 28, bE g10 #[I (0), I (0)] 28, bE g7 #[I (0), nS, nS, nS, I (0)] 34, bE g4 #[I (s), I (r), I (q), I (p)] 38, bE g1 #[I ((V : Int)), vC] 26, rdE vC C, rdE vA A] H57 := by have h__ := hS58; rw [e1, e2, e3, e4] at h__; exact h__
  refine wpF_skip ?_
  refine ⟨_, ?_, m, T2 ++ [decN T2 A (decide (p = 1)) V], W2 ++ [-1], l36 ++ [lv + 1], lv + 1, r54, r55, r56, rfl, (by have h__ := (hopen h88).2 (fun h => h96 ⟨Decidable.of_not_not h88, h⟩); exact h__), (by simp only [List.length_append, List.length_singleton]; omega), (by simp only [List.length_append, List.length_singleton]; omega), (by simp only [List.length_append, List.length_singleton]; omega), (by omega), y3, y4, y8, y9, y12, y13, (show St H0 NoB (SZ S H0) [rowE 3 r54 ((T2 ++ [decN T2 A (decide (p = 1)) V]) : List Int), rowE 3 r55 ((W2 ++ [-1]) : List Int), bE g29o8 #[vC, r54, r55, (Value.map (some r29o8))] 80, mapE r29o8 (marks (T2 ++ [decN T2 A (decide (p = 1)) V]) : List (Int × Bool)), rowE 3 r56 ((l36 ++ [lv + 1]) : List Int), bE g29o10 #[I ((V : Int)), vA, B (decide (p = 1)), PT g29o8 0, r56, I ((lv + 1)), nS] 68, bE g24 #[I (0), I (0)] 28, bE g16 #[I (0), I (0)] 28, bE g10 #[I (0), I (0)] 28, bE g7 #[I (0), nS, nS, nS, I (0)] 34, bE g4 #[I (s), I (r), I (q), I (p)] 38, bE g1 #[I ((V : Int)), vC] 26, rdE vC C, rdE vA A] H57 from hS80)⟩
  omega
 have hds : decS T2 A (decide (p = 1)) V := .inr h96.2
 obtain ⟨e1, e2, e3, e4⟩ := dec_list (W := W2) (Lv := l36) (lv := lv) hds
 have hS79 : St H0 NoB (SZ S H0) [rowE 3 r54 (T2 : List Int), rowE 3 r55 (W2 : List Int), bE g29o8 #[vC, r54, r55, (Value.map (some r29o8))] 80, mapE r29o8 (marks T2 : List (Int × Bool)), rowE 3 r56 (l36 : List Int), bE g29o10 #[I ((V : Int)), vA, B (decide (p = 1)), PT g29o8 0, r56, I (lv), nS] 68, bE g24 #[I (0), I (0)] 28, bE g16 #[I (0), I (0)] 28, bE g10 #[I (0), I (0)] 28, bE g7 #[I (0), nS, nS, nS, I (0)] 34, bE g4 #[I (s), I (r), I (q), I (p)] 38, bE g1 #[I ((V : Int)), vC] 26, rdE vC C, rdE vA A] H57 := by have h__ := hS58; rw [e1, e2, e3, e4] at h__; exact h__
 refine wpF_seq ?_
 refine wpF_region ?_
 refine lq rfl (q_fieldAddr rfl Try.underlying26 rfl Try.sizeOf3 y4) ?_
 refine lq rfl (q_loadBlk rfl rfl Try.isAgg3 (hS79.blk 11 rfl) rfl (fun h => h)) ?_
 refine lo rfl ?_
 refine e_makeSlice (n := V) (x0 := (false : Bool)) rfl Try.underlying31 Try.zeroValue4 em_Bool_4_CardC8 Try.sizeOf4 rfl rfl (by omega) (fun _ _ => Rd.bool.2 rfl) hS79 (by have hb : GoT.bytes Bool = 1 := rfl; rw [hb]; omega) (by omega) (fun v81 H82 hS83 hxx => ?_)
 refine la (v := v81) rfl rfl rfl ?_
 refine wpL_nil ?_
 refine wpF_seq ?_
 refine wpF_seq ?_
 refine wpF_region ?_
 refine lm (v := PT g29o10 0) rfl rfl y12 ?_
 refine lq rfl (q_nilCheck rfl rfl) ?_
 refine lq rfl (q_fieldAddr rfl Try.underlying68 rfl Try.sizeOf65 rfl) ?_
 refine lq rfl (q_loadBlk rfl rfl Try.isAgg65 (hS83.blk 6 rfl) rfl (fun h => h)) ?_
 refine lq rfl (q_nilCheck rfl rfl) ?_
 refine lq rfl (q_fieldAddr rfl Try.underlying80 rfl Try.sizeOf22 rfl) ?_
 refine lq rfl (q_loadBlk rfl rfl Try.isAgg22 (hS83.blk 3 rfl) rfl (fun h => h)) ?_
 refine lq rfl (q_lenRd rfl Try.underlying22 rfl (hS83.rowl 1 rfl)) ?_
 refine lm (v := I (0)) rfl rfl rfl ?_
 refine wpL_nil ?_
 refine wpF_block ?_
 refine wpF_loop (fun mz f H => ∃ (i : Nat), ∃ (Hh : List Bool), mz = T2.length - i ∧ (i ≤ T2.length) ∧ (Hh.length = V) ∧ f 8 = PT g7 0 ∧ f 9 = PT g10 0 ∧ f 13 = I (0) ∧ f 19 = v81 ∧ f 106 = r54 ∧ f 107 = I ((T2.length : Int)) ∧ f 108 = I ((i : Int)) ∧ St H0 NoB (SZ S H0) [rowE 4 v81 (Hh : List Bool), rowE 3 r54 (T2 : List Int), rowE 3 r55 (W2 : List Int), bE g29o8 #[vC, r54, r55, (Value.map (some r29o8))] 80, mapE r29o8 (marks T2 : List (Int × Bool)), rowE 3 r56 (l36 : List Int), bE g29o10 #[I ((V : Int)), vA, B (decide (p = 1)), PT g29o8 0, r56, I (lv), nS] 68, bE g24 #[I (0), I (0)] 28, bE g16 #[I (0), I (0)] 28, bE g10 #[I (0), I (0)] 28, bE g7 #[I (0), nS, nS, nS, I (0)] 34, bE g4 #[I (s), I (r), I (q), I (p)] 38, bE g1 #[I ((V : Int)), vC] 26, rdE vC C, rdE vA A] H) (T2.length - 0) ?_ ?_
 ·exact ⟨0, List.replicate V false, rfl, Nat.zero_le _, (by simp), y8, y9, y13, rfl, rfl, rfl, (Eq.trans rfl (congrArg I (by omega))), (show St H0 NoB (SZ S H0) [rowE 4 v81 ((List.replicate V false) : List Bool), rowE 3 r54 (T2 : List Int), rowE 3 r55 (W2 : List Int), bE g29o8 #[vC, r54, r55, (Value.map (some r29o8))] 80, mapE r29o8 (marks T2 : List (Int × Bool)), rowE 3 r56 (l36 : List Int), bE g29o10 #[I ((V : Int)), vA, B (decide (p = 1)), PT g29o8 0, r56, I (lv), nS] 68, bE g24 #[I (0), I (0)] 28, bE g16 #[I (0), I (0)] 28, bE g10 #[I (0), I (0)] 28, bE g7 #[I (0), nS, nS, nS, I (0)] 34, bE g4 #[I (s), I (r), I (q), I (p)] 38, bE g1 #[I ((V : Int)), vC] 26, rdE vC C, rdE vA A] H82 from hS83)⟩
 intro m84 f84 H84 hI84
 clear y13 y8 y9
 obtain ⟨i, Hh, hm84, hi, hHl, y8, y9, y13, y19, y106, y107, y108, hS84⟩ := hI84
 refine wpF_seq ?_
 refine wpF_region ?_
 refine lq rfl (q_lss rfl y108 y107) ?_
 refine wpL_nil ?_
 refine wpF_seq ?_
 refine wpF_condP rfl (fun hlt => ?t97) (fun hlt => ?e97)
 case e97 =>
  refine wpF_exit ?_
  refine atX_here ?_
  refine wpF_seq ?_
  refine wpF_region ?_
  refine lm (v := v81) rfl rfl y19 ?_
  refine lm (v := I (0)) rfl rfl y13 ?_
  refine lq rfl (q_build (v := Vg #[I (1), v81, nS, nS, I (0)]) rfl (par3 (v0 := I (1)) (v1 := v81) (v2 := I (0)) rfl rfl rfl) ((hS84.rowl 0 rfl).slc (fun zz0 => ∀ w__, (Instr.build 34 #[(0, I (1)), (1, zz0), (4, I (0))]).run Try.prog w__ = .ok (Vg #[I (1), zz0, nS, nS, I (0)]) w__) (fun a0 n0 c0 => (fun w__ => by kernel_rfl)))) ?_
  refine lq rfl (q_build (v := Vg #[I (0), I (0)]) rfl par0 (fun w__ => by kernel_rfl)) ?_
  refine lo rfl ?_
  refine e_storeBlkA (cs' := #[I (1), v81, nS, nS, I (0)]) rfl y8 rfl Try.sizeOf34 rfl rfl (fa rfl (fa ((oneCell_rdL (hS84.rowl 0 rfl))) (fa rfl (fa rfl (fa rfl fe))))) (hS84.front 10 rfl) (fun H92 hS93 hxx => ?_)
  refine lo rfl ?_
  refine e_storeBlkA (cs' := #[I (0), I (0)]) rfl y9 rfl Try.sizeOf28 rfl rfl (fa rfl (fa rfl fe)) (hS93.front 10 rfl) (fun H94 hS95 hxx => ?_)
  refine wpL_nil ?_
  refine wpF_ret ?_
  refine ⟨_, resC y8 (loadV_blkA Try.isAgg34 Try.sizeOf34 rfl (hS95.blk 1 rfl)) (resC y9 (loadV_blkA Try.isAgg28 Try.sizeOf28 rfl (hS95.blk 0 rfl)) (resN)), hS95.frame, ?_⟩
  show ∃ v1_ v2_ v3_ u_, (Value.tuple #[Vg #[I (1), v81, nS, nS, I (0)], Vg #[I (0), I (0)]]) = Value.tuple #[Vg #[I st, v1_, v2_, v3_, I u_], Vg #[I (0), I (0)]] ∧ ∃ (hl_ : List Bool) (sl_ : List Stp) (cl_ : List Int), Rd (SZ S H0) H94 v1_ hl_ ∧ Rd (SZ S H0) H94 v2_ sl_ ∧ Rd (SZ S H0) H94 v3_ cl_ ∧ In64 u_
  have hS96 : St H0 NoB (SZ S H0) [rdE v81 Hh, bE g10 #[I (0), I (0)] 28, bE g7 #[I (1), v81, nS, nS, I (0)] 34, rowE 3 r54 (T2 : List Int), rowE 3 r55 (W2 : List Int), bE g29o8 #[vC, r54, r55, (Value.map (some r29o8))] 80, mapE r29o8 (marks T2 : List (Int × Bool)), rowE 3 r56 (l36 : List Int), bE g29o10 #[I ((V : Int)), vA, B (decide (p = 1)), PT g29o8 0, r56, I (lv), nS] 68, bE g24 #[I (0), I (0)] 28, bE g16 #[I (0), I (0)] 28, bE g4 #[I (s), I (r), I (q), I (p)] 38, bE g1 #[I ((V : Int)), vC] 26, rdE vC C, rdE vA A] H94 := St.fin (hS95.front 2 rfl)
  have hst : st = _ := (hopen h88).1 h96.2
  rw [hst]
  exact ⟨_, _, _, _, rfl, _, _, _, (hS96.result (hS96.rdS 0 rfl)), rdNil, rdNil, by constructor <;> omega⟩
 have hvr := var_rng (htr _ (nth_mem (l := T2) (k := i) (by omega)))
 obtain ⟨hv0, hv1, hv2⟩ := htr _ (nth_mem (l := T2) (k := i) (by omega))
 refine wpF_skip ?_
 refine wpF_seq ?_
 refine wpF_block ?_
 refine wpF_seq ?_
 refine wpF_region ?_
 refine lq rfl (q_indexRd (k := i) rfl Try.underlying22 el_Int_3_CardC8 y106 y108 (hS84.rowl 1 rfl) (by omega) (by omega)) ?_
 refine lq rfl (q_loadInt (k := i) rfl rfl el_Int_3_CardC8 (hS84.rowl 1 rfl) (by omega) (fun _ h => h)) ?_
 refine la (v := I (nth T2 i)) rfl rfl rfl ?_
 refine wpL_nil ?_
 refine wpF_region ?_
 refine lm (v := v81) rfl rfl y19 ?_
 refine lm (v := I (nth T2 i)) rfl rfl rfl ?_
 refine lo rfl ?_
 refine e_call rfl Try.call32 (arr1 (v0 := I (nth T2 i)) rfl) (Var_C (nth T2 i) (by omega)) ?_
 rintro _ H86 ⟨hxx, rfl⟩
 have hS87 := hS84.ext hxx
 refine lq rfl (q_sub rfl rfl rfl (by constructor <;> omega)) ?_
 refine lm (v := I (nth T2 i)) rfl rfl rfl ?_
 refine lq rfl (q_gtr rfl rfl rfl) ?_
 refine lq rfl (q_indexRd (k := ((varA (nth T2 i)) - 1).toNat) rfl Try.underlying31 el_Bool_4_CardC8 rfl rfl (hS87.rowl 0 rfl) (by omega) (by omega)) ?_
 have hS89 := hS87
 refine lo rfl ?_
 refine e_rowSet (k := ((varA (nth T2 i)) - 1).toNat) (u := B (decide (0 < (nth T2 i)))) rfl rfl rfl rfl Try.sizeOf4 (by first | (simp; omega) | omega) hS89 (Rd.bool.2 rfl) (fun H90 hS91 hxx => ?_)
 refine wpL_nil ?_
 refine wpF_region ?_
 refine lq rfl (q_add rfl y108 rfl (by constructor <;> omega)) ?_
 refine lm (v := I ((i : Int) + 1)) rfl rfl rfl ?_
 refine wpL_nil ?_
 refine ⟨_, ?_, i + 1, Hh.set (((varA (nth T2 i)) - 1).toNat) (decide (0 < (nth T2 i))), rfl, (by omega), (by rw [List.length_set]; exact hHl), y8, y9, y13, y19, y106, y107, (Eq.trans rfl (congrArg I (by omega))), (show St H0 NoB (SZ S H0) [rowE 4 v81 ((Hh.set (((varA (nth T2 i)) - 1).toNat) (decide (0 < (nth T2 i)))) : List Bool), rowE 3 r54 (T2 : List Int), rowE 3 r55 (W2 : List Int), bE g29o8 #[vC, r54, r55, (Value.map (some r29o8))] 80, mapE r29o8 (marks T2 : List (Int × Bool)), rowE 3 r56 (l36 : List Int), bE g29o10 #[I ((V : Int)), vA, B (decide (p = 1)), PT g29o8 0, r56, I (lv), nS] 68, bE g24 #[I (0), I (0)] 28, bE g16 #[I (0), I (0)] 28, bE g10 #[I (0), I (0)] 28, bE g7 #[I (0), nS, nS, nS, I (0)] 34, bE g4 #[I (s), I (r), I (q), I (p)] 38, bE g1 #[I ((V : Int)), vC] 26, rdE vC C, rdE vA A] H90 from hS91)⟩
 omega
end Go.Um
