import Derived.Test.YtbfgipgojdinoaaProg
import Derived.Test.YtbfgipgojdinoaaCardC5
import Derived.Test.YtbfgipgojdinoaaSortE
import Derived.Test.YtbfgipgojdinoaaUmTopCountsD
namespace Go.Um
open Go.Proofs
open GoT (sz ag rdc)
open KeyT (kv)
theorem el_Int_3_CardC6 : ElT Try.prog Int 3 := ⟨Try.isAgg3, Try.sizeOf3⟩
theorem el_LInt_22_CardC6 : ElT Try.prog (List Int) 22 := ⟨Try.isAgg22, Try.sizeOf22⟩
theorem em_Int_3_CardC6 : ElemOk Try.prog Int 3 := ⟨Try.t3, (.int .i64 0), by kernel_rfl, by kernel_rfl, by kernel_rfl, by kernel_rfl, by kernel_rfl⟩
set_option maxRecDepth 100000 in
theorem Index {H0 : Heap} (vs : Value) (l : List Int) (n : Int) (rs : Rd NoB H0 vs l) : CallsH Try.prog 60 #[vs, I (n)] H0 (fun rv_ H' => Ext NoB H0 H' ∧ rv_ = I (idxOf (fun x => decide (x = n)) l)) := by
 have hsm := (Rd.list.1 rs).small
 have hS0 : St H0 NoB NoB [rdE vs l] H0 := St.arg (St.start (fun _ h => h.elim)) (Bl0.nil) rs (fun _ h => h)
 refine callsH_of_wpF (args := [vs, I (n)]) (rs := [.tmp 4]) Try.func60 rfl Try.ntmps60 Try.results60 (by kernel_rfl) (Nat.le_of_ble_eq_true rfl) ?_
 have y0 : argF [vs, I (n)] 0 = vs := rfl
 have y1 : argF [vs, I (n)] 1 = I (n) := rfl
 generalize argF [vs, I (n)] = f0 at *
 refine wpF_seq ?_
 refine wpF_region ?_
 refine la (v := I (0)) rfl rfl rfl ?_
 refine wpL_nil ?_
 refine wpF_seq ?_
 refine wpF_seq ?_
 refine wpF_region ?_
 refine lm (v := vs) rfl rfl y0 ?_
 refine lq rfl (q_lenRd rfl Try.underlying22 rfl (hS0.rdl 0 rfl)) ?_
 refine lm (v := I (0)) rfl rfl rfl ?_
 refine wpL_nil ?_
 refine wpF_block ?_
 refine wpF_loop (fun mz f H => ∃ (k : Nat), mz = l.length - k ∧ (k ≤ l.length) ∧ (∀ j, j < k → decide (nth l j = n) = false) ∧ f 0 = vs ∧ f 1 = I (n) ∧ f 7 = I ((l.length : Int)) ∧ f 8 = I ((k : Int)) ∧ H0 = H) (l.length - 0) ?_ ?_
 ·exact ⟨0, rfl, Nat.zero_le _, (fun j hj => absurd hj (Nat.not_lt_zero j)), y0, y1, rfl, (Eq.trans rfl (congrArg I (by omega))), rfl⟩
 intro m1 f1 H1 hI1
 clear y0 y1
 obtain ⟨k, hm1, hk, hno, y0, y1, y7, y8, rfl⟩ := hI1
 refine wpF_seq ?_
 refine wpF_region ?_
 refine lq rfl (q_lss rfl y8 y7) ?_
 refine wpL_nil ?_
 refine wpF_seq ?_
 refine wpF_condP rfl (fun hlt => ?t5) (fun hlt => ?e5)
 case e5 =>
  refine wpF_exit ?_
  refine atX_here ?_
  refine wpF_seq ?_
  refine wpF_region ?_
  refine la (v := I (-1)) rfl rfl rfl ?_
  refine wpL_nil ?_
  refine wpF_ret ?_
  refine ⟨_, resT rfl resN, hS0.frame, ?_⟩
  show (I (-1)) = I (idxOf (fun x => decide (x = n)) l)
  exact congrArg I (idxOf_no fun j hj => hno j (by omega)).symm
 refine wpF_skip ?_
 refine wpF_seq ?_
 refine wpF_block ?_
 refine wpF_seq ?_
 refine wpF_region ?_
 refine lm (v := I ((k : Int))) rfl rfl y8 ?_
 refine la (v := I ((k : Int))) rfl rfl rfl ?_
 refine wpL_nil ?_
 refine wpF_seq ?_
 refine wpF_region ?_
 refine lm (v := I (n)) rfl rfl y1 ?_
 refine lm (v := vs) rfl rfl y0 ?_
 refine lm (v := I ((k : Int))) rfl rfl rfl ?_
 refine lq rfl (q_indexRd (k := k) rfl Try.underlying22 el_Int_3_CardC6 rfl rfl (hS0.rdl 0 rfl) (by omega) (by omega)) ?_
 refine lq rfl (q_loadInt (k := k) rfl rfl el_Int_3_CardC6 (hS0.rdl 0 rfl) (by omega) (fun _ h => h)) ?_
 refine lq rfl (q_eql rfl rfl rfl) ?_
 refine wpL_nil ?_
 refine wpF_condP rfl (fun hg => ?t4) (fun hg => ?e4)
 case e4 =>
  refine wpF_skip ?_
  refine wpF_region ?_
  refine lq rfl (q_add rfl y8 rfl (by constructor <;> omega)) ?_
  refine lm (v := I ((k : Int) + 1)) rfl rfl rfl ?_
  refine wpL_nil ?_
  refine ⟨_, ?_, k + 1, rfl, (by omega), (all_succ hno (decide_eq_false (fun h => hg h.symm))), y0, y1, y7, (Eq.trans rfl (congrArg I (by omega))), rfl⟩
  omega
 refine wpF_seq ?_
 refine wpF_region ?_
 refine lm (v := I ((k : Int))) rfl rfl rfl ?_
 refine la (v := I ((k : Int))) rfl rfl rfl ?_
 refine wpL_nil ?_
 refine wpF_ret ?_
 refine ⟨_, resT rfl resN, hS0.frame, ?_⟩
 show (I ((k : Int))) = I (idxOf (fun x => decide (x = n)) l)
 exact congrArg I (idxOf_at (g := fun x => decide (x = n)) (l := l) (k := k) (by omega) hno (decide_eq_true hg.symm)).symm
set_option maxRecDepth 100000 in
theorem Contains {H0 : Heap} (vs : Value) (l : List Int) (n : Int) (rs : Rd NoB H0 vs l) : CallsH Try.prog 55 #[vs, I (n)] H0 (fun rv_ H' => Ext NoB H0 H' ∧ rv_ = B (hasB l n)) := by
 have hS0 : St H0 NoB NoB [rdE vs l] H0 := St.arg (St.start (fun _ h => h.elim)) (Bl0.nil) rs (fun _ h => h)
 refine callsH_of_wpF (args := [vs, I (n)]) (rs := [.tmp 4]) Try.func55 rfl Try.ntmps55 Try.results55 (by kernel_rfl) (Nat.le_of_ble_eq_true rfl) ?_
 have y0 : argF [vs, I (n)] 0 = vs := rfl
 have y1 : argF [vs, I (n)] 1 = I (n) := rfl
 generalize argF [vs, I (n)] = f0 at *
 refine wpF_seq ?_
 refine wpF_region ?_
 refine la (v := B (false)) rfl rfl rfl ?_
 refine wpL_nil ?_
 refine wpF_seq ?_
 refine wpF_region ?_
 refine lm (v := vs) rfl rfl y0 ?_
 refine lm (v := I (n)) rfl rfl y1 ?_
 refine lo rfl ?_
 refine e_call rfl Try.call60 (arr2 (v0 := vs) (v1 := I (n)) rfl rfl) (Index vs l n (hS0.rdN 0 rfl) ) ?_
 rintro _ H1 ⟨hxx, rfl⟩
 have hS2 := hS0.ext hxx
 refine lq rfl (q_geq rfl rfl rfl) ?_
 refine la (v := B (decide (0 ≤ (idxOf (fun x => decide (x = n)) l)))) rfl rfl rfl ?_
 refine wpL_nil ?_
 refine wpF_ret ?_
 refine ⟨_, resT rfl resN, hS2.frame, ?_⟩
 show (B (decide (0 ≤ (idxOf (fun x => decide (x = n)) l)))) = B (hasB l n)
 exact congrArg B (bool_congr_of (idxOf_any.trans (any_has (n := n))).symm).symm
set_option maxHeartbeats 8000000 in
set_option maxRecDepth 100000 in
theorem core_S {H0 : Heap} (S : Nat → Prop) (gs gt mr : Nat) (vC vl vw vA vv vz : Value) (V : Nat) (ph : Bool) (lv : Int) (C : List (List Int)) (T W Lv : List Int) (l : Int) (n : Nat) (hg : Given S [rowE 3 vl (T : List Int), rowE 3 vw (W : List Int), bE gt #[vC, vl, vw, (Value.map (some mr))] 80, mapE mr (marks T : List (Int × Bool)), rowE 3 vv (Lv : List Int), bE gs #[I ((V : Int)), vA, B (ph), PT gt 0, vv, I (lv), vz] 68] H0) (rC : Rd S H0 vC C) (hC : ∀ c ∈ C, litsIn c) (hC24 : ∀ c ∈ C, c.length ≤ 24) (hl : -120 ≤ l ∧ l ≤ 120) (hn12 : n ≤ 12) (hcr0 : (coreF C T W n [-l] [-l] [l]).isSome = true) : CallsH Try.prog 31 #[PT gs 0, I (l)] H0 (fun rv_ H' => Ext (own [rowE 3 vl (T : List Int), rowE 3 vw (W : List Int), bE gt #[vC, vl, vw, (Value.map (some mr))] 80, mapE mr (marks T : List (Int × Bool)), rowE 3 vv (Lv : List Int), bE gs #[I ((V : Int)), vA, B (ph), PT gt 0, vv, I (lv), vz] 68]) H0 H' ∧ ∃ out_ : List Int, litsIn out_ ∧ Gone S [rowE 3 vl (T : List Int), rowE 3 vw (W : List Int), bE gt #[vC, vl, vw, (Value.map (some mr))] 80, mapE mr (marks T : List (Int × Bool)), rowE 3 vv (Lv : List Int), bE gs #[I ((V : Int)), vA, B (ph), PT gt 0, vv, I (lv), vz] 68] [rdE rv_ out_, rowE 3 vl (T : List Int), rowE 3 vw (W : List Int), bE gt #[vC, vl, vw, (Value.map (some mr))] 80, mapE mr (marks T : List (Int × Bool)), rowE 3 vv (Lv : List Int), bE gs #[I ((V : Int)), vA, B (ph), PT gt 0, vv, I (lv), vz] 68] H0 H') := by
 have hS0 : St H0 (own [rowE 3 vl (T : List Int), rowE 3 vw (W : List Int), bE gt #[vC, vl, vw, (Value.map (some mr))] 80, mapE mr (marks T : List (Int × Bool)), rowE 3 vv (Lv : List Int), bE gs #[I ((V : Int)), vA, B (ph), PT gt 0, vv, I (lv), vz] 68]) (fun b => S b ∧ ¬ own [rowE 3 vl (T : List Int), rowE 3 vw (W : List Int), bE gt #[vC, vl, vw, (Value.map (some mr))] 80, mapE mr (marks T : List (Int × Bool)), rowE 3 vv (Lv : List Int), bE gs #[I ((V : Int)), vA, B (ph), PT gt 0, vv, I (lv), vz] 68] b) [rdE vC C, rowE 3 vl (T : List Int), rowE 3 vw (W : List Int), bE gt #[vC, vl, vw, (Value.map (some mr))] 80, mapE mr (marks T : List (Int × Bool)), rowE 3 vv (Lv : List Int), bE gs #[I ((V : Int)), vA, B (ph), PT gt 0, vv, I (lv), vz] 68] H0 := (hg.st.rdG rC fun b hb => hg.sub hb)
 have hsm := (Rd.list.1 rC).small
 refine callsH_of_wpF (args := [PT gs 0, I (l)]) (rs := [.tmp 4]) Try.func31 rfl Try.ntmps31 Try.results31 (by kernel_rfl) (Nat.le_of_ble_eq_true rfl) ?_
 have y0 : argF [PT gs 0, I (l)] 0 = PT gs 0 := rfl
 have y1 : argF [PT gs 0, I (l)] 1 = I (l) := rfl
 generalize argF [PT gs 0, I (l)] = f0 at *
 refine wpF_seq ?_
 refine wpF_region ?_
 refine la (v := nS) rfl rfl rfl ?_
 refine wpL_nil ?_
 refine wpF_seq ?_
 refine wpF_region ?_
 refine lm (v := I (l)) rfl rfl y1 ?_
 refine lo rfl ?_
 refine e_buildSlice (vs := [I (l)]) (xs := ([l] : List Int)) rfl Try.underlying22 Try.zeroValue3 rfl Try.sizeOf3 (par1 (v0 := I (l)) rfl) rfl hS0 (RdVs.cons (Rd.int.2 ⟨rfl, by first | assumption | (constructor <;> omega)⟩) (RdVs.nil)) (by decide) (by decide) (fun v1 H2 hS3 hxx hvv1 => ?_)
 refine la (v := v1) rfl rfl rfl ?_
 refine wpL_nil ?_
 refine wpF_seq ?_
 refine wpF_region ?_
 refine lm (v := I (l)) rfl rfl y1 ?_
 refine lq rfl (q_neg rfl rfl (by constructor <;> omega)) ?_
 refine lo rfl ?_
 refine e_buildSlice (vs := [I (-l)]) (xs := ([-l] : List Int)) rfl Try.underlying22 Try.zeroValue3 rfl Try.sizeOf3 (par1 (v0 := I (-l)) rfl) rfl hS3 (RdVs.cons (Rd.int.2 ⟨rfl, by first | assumption | (constructor <;> omega)⟩) (RdVs.nil)) (by decide) (by decide) (fun v4 H5 hS6 hxx hvv4 => ?_)
 refine la (v := v4) rfl rfl rfl ?_
 refine wpL_nil ?_
 have hS7 : St H0 (own [rowE 3 vl (T : List Int), rowE 3 vw (W : List Int), bE gt #[vC, vl, vw, (Value.map (some mr))] 80, mapE mr (marks T : List (Int × Bool)), rowE 3 vv (Lv : List Int), bE gs #[I ((V : Int)), vA, B (ph), PT gt 0, vv, I (lv), vz] 68]) (fun b => S b ∧ ¬ own [rowE 3 vl (T : List Int), rowE 3 vw (W : List Int), bE gt #[vC, vl, vw, (Value.map (some mr))] 80, mapE mr (marks T : List (Int × Bool)), rowE 3 vv (Lv : List Int), bE gs #[I ((V : Int)), vA, B (ph), PT gt 0, vv, I (lv), vz] 68] b) [queE 3 v4 ([-l] : List Int), rowE 3 v1 ([l] : List Int), rdE vC C, rowE 3 vl (T : List Int), rowE 3 vw (W : List Int), bE gt #[vC, vl, vw, (Value.map (some mr))] 80, mapE mr (marks T : List (Int × Bool)), rowE 3 vv (Lv : List Int), bE gs #[I ((V : Int)), vA, B (ph), PT gt 0, vv, I (lv), vz] 68] H5 := St.que (hS6) (by simp)
 refine wpF_seq ?_
 refine wpF_region ?_
 refine lo rfl ?_
 refine e_makeMap (κ := Int) (β := Bool) rfl hS7 (fun r8 H9 hS10 hxx => ?_)
 refine lm (v := I (l)) rfl rfl y1 ?_
 refine lq rfl (q_neg rfl rfl (by constructor <;> omega)) ?_
 have hS11 := hS10
 refine lo rfl ?_
 refine e_mapUpdate (k := (-l)) (.inr rfl) Try.underlying78 (keyLaw_int Try.underlying3) rfl rfl rfl hS11 (Rd.bool.2 rfl) (fun H12 hS13 hxx => ?_)
 refine lm (v := (Value.map (some r8))) rfl rfl rfl ?_
 refine la (v := (Value.map (some r8))) rfl rfl rfl ?_
 refine wpL_nil ?_
 have hS14 : St H0 (own [rowE 3 vl (T : List Int), rowE 3 vw (W : List Int), bE gt #[vC, vl, vw, (Value.map (some mr))] 80, mapE mr (marks T : List (Int × Bool)), rowE 3 vv (Lv : List Int), bE gs #[I ((V : Int)), vA, B (ph), PT gt 0, vv, I (lv), vz] 68]) (fun b => S b ∧ ¬ own [rowE 3 vl (T : List Int), rowE 3 vw (W : List Int), bE gt #[vC, vl, vw, (Value.map (some mr))] 80, mapE mr (marks T : List (Int × Bool)), rowE 3 vv (Lv : List Int), bE gs #[I ((V : Int)), vA, B (ph), PT gt 0, vv, I (lv), vz] 68] b) [mapE r8 (marks [-l] : List (Int × Bool)), queE 3 v4 ([-l] : List Int), rowE 3 v1 ([l] : List Int), rdE vC C, rowE 3 vl (T : List Int), rowE 3 vw (W : List Int), bE gt #[vC, vl, vw, (Value.map (some mr))] 80, mapE mr (marks T : List (Int × Bool)), rowE 3 vv (Lv : List Int), bE gs #[I ((V : Int)), vA, B (ph), PT gt 0, vv, I (lv), vz] 68] H12 := by have h__ := hS13; exact h__
 refine wpF_seq ?_
 refine wpF_block ?_
 refine wpF_loop (fun mz f H => ∃ (n1 : Nat), ∃ (td : List Int), ∃ (se : List Int), ∃ (O : List Int), ∃ (vo : Value), ∃ (vq : Value), mz = n1 ∧ ((coreF C T W n1 td se O).isSome = true) ∧ (litsIn td) ∧ (O ≠ []) ∧ (litsIn O) ∧ (O.length + n1 ≤ 100) ∧ (td.length + 24 * n1 ≤ 1000) ∧ f 0 = PT gs 0 ∧ f 5 = vo ∧ f 6 = vq ∧ f 7 = (Value.map (some r8)) ∧ St H0 (own [rowE 3 vl (T : List Int), rowE 3 vw (W : List Int), bE gt #[vC, vl, vw, (Value.map (some mr))] 80, mapE mr (marks T : List (Int × Bool)), rowE 3 vv (Lv : List Int), bE gs #[I ((V : Int)), vA, B (ph), PT gt 0, vv, I (lv), vz] 68]) (fun b => S b ∧ ¬ own [rowE 3 vl (T : List Int), rowE 3 vw (W : List Int), bE gt #[vC, vl, vw, (Value.map (some mr))] 80, mapE mr (marks T : List (Int × Bool)), rowE 3 vv (Lv : List Int), bE gs #[I ((V : Int)), vA, B (ph), PT gt 0, vv, I (lv), vz] 68] b) [rowE 3 vo (O : List Int), queE 3 vq (td : List Int), mapE r8 (marks se : List (Int × Bool)), rdE vC C, rowE 3 vl (T : List Int), rowE 3 vw (W : List Int), bE gt #[vC, vl, vw, (Value.map (some mr))] 80, mapE mr (marks T : List (Int × Bool)), rowE 3 vv (Lv : List Int), bE gs #[I ((V : Int)), vA, B (ph), PT gt 0, vv, I (lv), vz] 68] H) (n) ?_ ?_
 ·exact ⟨n, [-l], [-l], [l], v1, v4, rfl, hcr0, (lits_one (by omega)), (by simp), (lits_one (by omega)), (by simp; omega), (by simp; omega), y0, rfl, rfl, rfl, (show St H0 (own [rowE 3 vl (T : List Int), rowE 3 vw (W : List Int), bE gt #[vC, vl, vw, (Value.map (some mr))] 80, mapE mr (marks T : List (Int × Bool)), rowE 3 vv (Lv : List Int), bE gs #[I ((V : Int)), vA, B (ph), PT gt 0, vv, I (lv), vz] 68]) (fun b => S b ∧ ¬ own [rowE 3 vl (T : List Int), rowE 3 vw (W : List Int), bE gt #[vC, vl, vw, (Value.map (some mr))] 80, mapE mr (marks T : List (Int × Bool)), rowE 3 vv (Lv : List Int), bE gs #[I ((V : Int)), vA, B (ph), PT gt 0, vv, I (lv), vz] 68] b) [rowE 3 v1 (([l]) : List Int), queE 3 v4 (([-l]) : List Int), mapE r8 (marks ([-l]) : List (Int × Bool)), rdE vC C, rowE 3 vl (T : List Int), rowE 3 vw (W : List Int), bE gt #[vC, vl, vw, (Value.map (some mr))] 80, mapE mr (marks T : List (Int × Bool)), rowE 3 vv (Lv : List Int), bE gs #[I ((V : Int)), vA, B (ph), PT gt 0, vv, I (lv), vz] 68] H12 from (St.drop (show St H0 (own [rowE 3 vl (T : List Int), rowE 3 vw (W : List Int), bE gt #[vC, vl, vw, (Value.map (some mr))] 80, mapE mr (marks T : List (Int × Bool)), rowE 3 vv (Lv : List Int), bE gs #[I ((V : Int)), vA, B (ph), PT gt 0, vv, I (lv), vz] 68]) (fun b => S b ∧ ¬ own [rowE 3 vl (T : List Int), rowE 3 vw (W : List Int), bE gt #[vC, vl, vw, (Value.map (some mr))] 80, mapE mr (marks T : List (Int × Bool)), rowE 3 vv (Lv : List Int), bE gs #[I ((V : Int)), vA, B (ph), PT gt 0, vv, I (lv), vz] 68] b) [rowE 3 v1 ([l] : List Int), queE 3 v4 ([-l] : List Int), mapE r8 (marks [-l] : List (Int × Bool)), rdE vC C, rowE 3 vl (T : List Int), rowE 3 vw (W : List Int), bE gt #[vC, vl, vw, (Value.map (some mr))] 80, mapE mr (marks T : List (Int × Bool)), rowE 3 vv (Lv : List Int), bE gs #[I ((V : Int)), vA, B (ph), PT gt 0, vv, I (lv), vz] 68] H12 from ((hS14.front 1 rfl).front 2 rfl)) (sk (sk (sk (sk (sk (sk (sk (sk (sk (sk (List.Sublist.slnil)))))))))))))⟩
 intro m15 f15 H15 hI15
 clear y0
 obtain ⟨n1, td, se, O, vo, vq, hm15, hcr, htd, hO, hOi, hOl, htl, y0, y5, y6, y7, hS15⟩ := hI15
 refine wpF_seq ?_
 refine wpF_seq ?_
 refine wpF_region ?_
 refine lm (v := vq) rfl rfl y6 ?_
 refine lq rfl (q_lenRd rfl Try.underlying22 rfl (hS15.queN 1 rfl)) ?_
 refine lq rfl (q_gtr rfl rfl rfl) ?_
 refine wpL_nil ?_
 refine wpF_condP rfl (fun hlt => ?t67) (fun hlt => ?e67)
 case e67 =>
  refine wpF_exit ?_
  refine atX_here ?_
  refine wpF_seq ?_
  refine wpF_region ?_
  refine lm (v := vo) rfl rfl y5 ?_
  have hS61 := hS15
  refine lo rfl ?_
  refine e_call rfl Try.call61 (arr1 (v0 := vo) rfl) (sort_ints hO hS61) ?_
  rintro _ H63 ⟨hxx, rfl, l62, hpml62, hS64⟩
  refine wpL_nil ?_
  refine wpF_seq ?_
  refine wpF_region ?_
  refine lm (v := vo) rfl rfl y5 ?_
  refine la (v := vo) rfl rfl rfl ?_
  refine wpL_nil ?_
  refine wpF_ret ?_
  refine ⟨_, resT rfl resN, hS64.frameM, ?_⟩
  show ∃ out_ : List Int, litsIn out_ ∧ Gone S [rowE 3 vl (T : List Int), rowE 3 vw (W : List Int), bE gt #[vC, vl, vw, (Value.map (some mr))] 80, mapE mr (marks T : List (Int × Bool)), rowE 3 vv (Lv : List Int), bE gs #[I ((V : Int)), vA, B (ph), PT gt 0, vv, I (lv), vz] 68] [rdE vo out_, rowE 3 vl (T : List Int), rowE 3 vw (W : List Int), bE gt #[vC, vl, vw, (Value.map (some mr))] 80, mapE mr (marks T : List (Int × Bool)), rowE 3 vv (Lv : List Int), bE gs #[I ((V : Int)), vA, B (ph), PT gt 0, vv, I (lv), vz] 68] H0 H63
  have hS66 : St H0 (own [rowE 3 vl (T : List Int), rowE 3 vw (W : List Int), bE gt #[vC, vl, vw, (Value.map (some mr))] 80, mapE mr (marks T : List (Int × Bool)), rowE 3 vv (Lv : List Int), bE gs #[I ((V : Int)), vA, B (ph), PT gt 0, vv, I (lv), vz] 68]) (fun b => S b ∧ ¬ own [rowE 3 vl (T : List Int), rowE 3 vw (W : List Int), bE gt #[vC, vl, vw, (Value.map (some mr))] 80, mapE mr (marks T : List (Int × Bool)), rowE 3 vv (Lv : List Int), bE gs #[I ((V : Int)), vA, B (ph), PT gt 0, vv, I (lv), vz] 68] b) [rdE vo l62, queE 3 vq (td : List Int), mapE r8 (marks se : List (Int × Bool)), rdE vC C, rowE 3 vl (T : List Int), rowE 3 vw (W : List Int), bE gt #[vC, vl, vw, (Value.map (some mr))] 80, mapE mr (marks T : List (Int × Bool)), rowE 3 vv (Lv : List Int), bE gs #[I ((V : Int)), vA, B (ph), PT gt 0, vv, I (lv), vz] 68] H63 := St.fin hS64
  have hL : St H0 (own [rowE 3 vl (T : List Int), rowE 3 vw (W : List Int), bE gt #[vC, vl, vw, (Value.map (some mr))] 80, mapE mr (marks T : List (Int × Bool)), rowE 3 vv (Lv : List Int), bE gs #[I ((V : Int)), vA, B (ph), PT gt 0, vv, I (lv), vz] 68]) (fun b => S b ∧ ¬ own [rowE 3 vl (T : List Int), rowE 3 vw (W : List Int), bE gt #[vC, vl, vw, (Value.map (some mr))] 80, mapE mr (marks T : List (Int × Bool)), rowE 3 vv (Lv : List Int), bE gs #[I ((V : Int)), vA, B (ph), PT gt 0, vv, I (lv), vz] 68] b) [rdE vo l62, rowE 3 vl (T : List Int), rowE 3 vw (W : List Int), bE gt #[vC, vl, vw, (Value.map (some mr))] 80, mapE mr (marks T : List (Int × Bool)), rowE 3 vv (Lv : List Int), bE gs #[I ((V : Int)), vA, B (ph), PT gt 0, vv, I (lv), vz] 68] H63 := (hS66.drop (sk (sn (sn (sn (sk (sk (sk (sk (sk (sk (List.Sublist.slnil))))))))))))
  exact ⟨_, lits_perm hOi hpml62, St.leave3 hL⟩
 have hcd := cons_drop (td := td) (by omega)
 have hcr2 : (coreF C T W n1 (nth td 0 :: td.drop 1) se O).isSome = true := by rw [← hcd]; exact hcr
 obtain ⟨hi1, m, hm1, hm2, hm3⟩ := core_step hcr2
 obtain ⟨hx1, hx2⟩ := htd 0 (by omega)
 have hdl : (td.drop 1).length = td.length - 1 := List.length_drop
 refine wpF_skip ?_
 refine wpF_block ?_
 refine wpF_seq ?_
 refine wpF_region ?_
 refine lm (v := vq) rfl rfl y6 ?_
 refine lq rfl (q_indexRd (k := 0) rfl Try.underlying22 el_Int_3_CardC6 rfl rfl (hS15.queN 1 rfl) (by omega) (by omega)) ?_
 refine lq rfl (q_loadInt (k := 0) rfl rfl el_Int_3_CardC6 (hS15.queN 1 rfl) (by omega) (fun _ h => h)) ?_
 refine la (v := I (nth td 0)) rfl rfl rfl ?_
 refine wpL_nil ?_
 refine wpF_seq ?_
 have hS17 : St H0 (own [rowE 3 vl (T : List Int), rowE 3 vw (W : List Int), bE gt #[vC, vl, vw, (Value.map (some mr))] 80, mapE mr (marks T : List (Int × Bool)), rowE 3 vv (Lv : List Int), bE gs #[I ((V : Int)), vA, B (ph), PT gt 0, vv, I (lv), vz] 68]) (fun b => S b ∧ ¬ own [rowE 3 vl (T : List Int), rowE 3 vw (W : List Int), bE gt #[vC, vl, vw, (Value.map (some mr))] 80, mapE mr (marks T : List (Int × Bool)), rowE 3 vv (Lv : List Int), bE gs #[I ((V : Int)), vA, B (ph), PT gt 0, vv, I (lv), vz] 68] b) [rowE 3 vo (O : List Int), queE 3 vq (nth td 0 :: td.drop 1 : List Int), mapE r8 (marks se : List (Int × Bool)), rdE vC C, rowE 3 vl (T : List Int), rowE 3 vw (W : List Int), bE gt #[vC, vl, vw, (Value.map (some mr))] 80, mapE mr (marks T : List (Int × Bool)), rowE 3 vv (Lv : List Int), bE gs #[I ((V : Int)), vA, B (ph), PT gt 0, vv, I (lv), vz] 68] H15 := by have h__ := hS15; rw [cons_drop (td := td) (by omega)] at h__; exact h__
 refine wpF_region ?_
 refine lm (v := vq) rfl rfl y6 ?_
 have hS18 : St H0 (own [rowE 3 vl (T : List Int), rowE 3 vw (W : List Int), bE gt #[vC, vl, vw, (Value.map (some mr))] 80, mapE mr (marks T : List (Int × Bool)), rowE 3 vv (Lv : List Int), bE gs #[I ((V : Int)), vA, B (ph), PT gt 0, vv, I (lv), vz] 68]) (fun b => S b ∧ ¬ own [rowE 3 vl (T : List Int), rowE 3 vw (W : List Int), bE gt #[vC, vl, vw, (Value.map (some mr))] 80, mapE mr (marks T : List (Int × Bool)), rowE 3 vv (Lv : List Int), bE gs #[I ((V : Int)), vA, B (ph), PT gt 0, vv, I (lv), vz] 68] b) [queE 3 (sliceV 1 vq 1 ((nth td 0 :: td.drop 1).length)) (td.drop 1 : List Int), rowE 3 vo (O : List Int), mapE r8 (marks se : List (Int × Bool)), rdE vC C, rowE 3 vl (T : List Int), rowE 3 vw (W : List Int), bE gt #[vC, vl, vw, (Value.map (some mr))] 80, mapE mr (marks T : List (Int × Bool)), rowE 3 vv (Lv : List Int), bE gs #[I ((V : Int)), vA, B (ph), PT gt 0, vv, I (lv), vz] 68] H15 := St.queTail ((hS17.front 1 rfl))
 refine lq rfl (q_sliceRd (k := 1) (m := (nth td 0 :: td.drop 1).length) rfl Try.underlying22 el_Int_3_CardC6 rfl (hS17.queN 1 rfl) (lo1 rfl (by omega)) hi0 (by first | omega | (simp only [List.length_cons]; omega)) (by first | omega | (simp only [List.length_cons]; omega))) ?_
 refine la (v := (sliceV 1 vq 1 ((nth td 0 :: td.drop 1).length))) rfl rfl rfl ?_
 refine wpL_nil ?_
 refine wpF_seq ?_
 refine wpF_region ?_
 refine lm (v := PT gs 0) rfl rfl y0 ?_
 refine lq rfl (q_nilCheck rfl rfl) ?_
 refine lq rfl (q_fieldAddr rfl Try.underlying68 rfl Try.sizeOf65 rfl) ?_
 refine lq rfl (q_loadBlk rfl rfl Try.isAgg65 (hS18.blk 9 rfl) rfl (fun h => h)) ?_
 refine lq rfl (q_nilCheck rfl rfl) ?_
 refine lq rfl (q_fieldAddr rfl Try.underlying80 rfl Try.sizeOf22 rfl) ?_
 refine lq rfl (q_loadBlk rfl rfl Try.isAgg22 (hS18.blk 6 rfl) rfl (fun h => h)) ?_
 refine lm (v := I (nth td 0)) rfl rfl rfl ?_
 refine lo rfl ?_
 refine e_call rfl Try.call60 (arr2 (v0 := vl) (v1 := I (nth td 0)) rfl rfl) (Index vl T (nth td 0) (hS18.rowN 4 rfl) ) ?_
 rintro _ H19 ⟨hxx, rfl⟩
 have hS20 := hS18.ext hxx
 refine la (v := I ((idxOf (fun x => decide (x = (nth td 0))) T))) rfl rfl rfl ?_
 refine wpL_nil ?_
 refine wpF_seq ?_
 refine wpF_seq ?_
 refine wpF_region ?_
 refine lm (v := PT gs 0) rfl rfl y0 ?_
 refine lq rfl (q_nilCheck rfl rfl) ?_
 refine lq rfl (q_fieldAddr rfl Try.underlying68 rfl Try.sizeOf65 rfl) ?_
 refine lq rfl (q_loadBlk rfl rfl Try.isAgg65 (hS20.blk 9 rfl) rfl (fun h => h)) ?_
 refine lq rfl (q_nilCheck rfl rfl) ?_
 refine lq rfl (q_fieldAddr rfl Try.underlying80 rfl Try.sizeOf22 rfl) ?_
 refine lq rfl (q_loadBlk rfl rfl Try.isAgg22 (hS20.blk 6 rfl) rfl (fun h => h)) ?_
 refine lm (v := I ((idxOf (fun x => decide (x = (nth td 0))) T))) rfl rfl rfl ?_
 refine lq rfl (q_indexRd (k := ((idxOf (fun x => decide (x = (nth td 0))) T)).toNat) rfl Try.underlying22 el_Int_3_CardC6 rfl rfl (hS20.rowl 5 rfl) (by omega) (by omega)) ?_
 refine lq rfl (q_loadInt (k := ((idxOf (fun x => decide (x = (nth td 0))) T)).toNat) rfl rfl el_Int_3_CardC6 (hS20.rowl 5 rfl) (by omega) (fun _ h => h)) ?_
 refine lq rfl (q_lss rfl rfl rfl) ?_
 refine wpL_nil ?_
 refine wpF_condP rfl (fun h48 => ?t60) (fun h48 => ?e60)
 case t60 =>
  have hm4 := hm2 h48
  refine wpF_seq ?_
  refine wpF_seq ?_
  refine wpF_region ?_
  refine lm (v := vo) rfl rfl y5 ?_
  refine lm (v := I (nth td 0)) rfl rfl rfl ?_
  refine lo rfl ?_
  refine e_call rfl Try.call55 (arr2 (v0 := vo) (v1 := I (nth td 0)) rfl rfl) (Contains vo O (nth td 0) (hS20.rowN 1 rfl) ) ?_
  rintro _ H23 ⟨hxx, rfl⟩
  have hS24 := hS20.ext hxx
  refine lq rfl (q_not rfl rfl) ?_
  refine wpL_nil ?_
  refine wpF_cond rfl (fun h52 => ?t35) (fun h52 => ?e35)
  case e35 =>
   have hm5 : (coreF C T W m (td.drop 1) se O).isSome = true := by rw [if_pos (by simpa [hasB] using h52)] at hm4; exact hm4
   refine wpF_skip ?_
   refine wpF_exit ?_
   refine atX_here ?_
   refine ⟨_, ?_, m, td.drop 1, se, O, vo, (sliceV 1 vq 1 ((nth td 0 :: td.drop 1).length)), rfl, hm5, (lits_drop htd), hO, hOi, (by first | omega | (simp only [List.length_append, List.length_singleton]; omega)), (by omega), y0, y5, rfl, y7, (show St H0 (own [rowE 3 vl (T : List Int), rowE 3 vw (W : List Int), bE gt #[vC, vl, vw, (Value.map (some mr))] 80, mapE mr (marks T : List (Int × Bool)), rowE 3 vv (Lv : List Int), bE gs #[I ((V : Int)), vA, B (ph), PT gt 0, vv, I (lv), vz] 68]) (fun b => S b ∧ ¬ own [rowE 3 vl (T : List Int), rowE 3 vw (W : List Int), bE gt #[vC, vl, vw, (Value.map (some mr))] 80, mapE mr (marks T : List (Int × Bool)), rowE 3 vv (Lv : List Int), bE gs #[I ((V : Int)), vA, B (ph), PT gt 0, vv, I (lv), vz] 68] b) [rowE 3 vo (O : List Int), queE 3 (sliceV 1 vq 1 ((nth td 0 :: td.drop 1).length)) ((td.drop 1) : List Int), mapE r8 (marks se : List (Int × Bool)), rdE vC C, rowE 3 vl (T : List Int), rowE 3 vw (W : List Int), bE gt #[vC, vl, vw, (Value.map (some mr))] 80, mapE mr (marks T : List (Int × Bool)), rowE 3 vv (Lv : List Int), bE gs #[I ((V : Int)), vA, B (ph), PT gt 0, vv, I (lv), vz] 68] H23 from (St.drop (show St H0 (own [rowE 3 vl (T : List Int), rowE 3 vw (W : List Int), bE gt #[vC, vl, vw, (Value.map (some mr))] 80, mapE mr (marks T : List (Int × Bool)), rowE 3 vv (Lv : List Int), bE gs #[I ((V : Int)), vA, B (ph), PT gt 0, vv, I (lv), vz] 68]) (fun b => S b ∧ ¬ own [rowE 3 vl (T : List Int), rowE 3 vw (W : List Int), bE gt #[vC, vl, vw, (Value.map (some mr))] 80, mapE mr (marks T : List (Int × Bool)), rowE 3 vv (Lv : List Int), bE gs #[I ((V : Int)), vA, B (ph), PT gt 0, vv, I (lv), vz] 68] b) [rowE 3 vo (O : List Int), queE 3 (sliceV 1 vq 1 ((nth td 0 :: td.drop 1).length)) (td.drop 1 : List Int), mapE r8 (marks se : List (Int × Bool)), rdE vC C, rowE 3 vl (T : List Int), rowE 3 vw (W : List Int), bE gt #[vC, vl, vw, (Value.map (some mr))] 80, mapE mr (marks T : List (Int × Bool)), rowE 3 vv (Lv : List Int), bE gs #[I ((V : Int)), vA, B (ph), PT gt 0, vv, I (lv), vz] 68] H23 from (hS24.front 1 rfl)) (sk (sk (sk (sk (sk (sk (sk (sk (sk (sk (List.Sublist.slnil)))))))))))))⟩
   omega
  have hm5 : (coreF C T W m (td.drop 1) se (O ++ [nth td 0])).isSome = true := by rw [if_neg (by simpa [hasB] using h52)] at hm4; exact hm4
  refine wpF_region ?_
  refine lm (v := vo) rfl rfl y5 ?_
  refine lm (v := I (nth td 0)) rfl rfl rfl ?_
  refine lo rfl ?_
  refine e_buildSlice (vs := [I (nth td 0)]) (xs := ([nth td 0] : List Int)) rfl Try.underlying22 Try.zeroValue3 rfl Try.sizeOf3 (par1 (v0 := I (nth td 0)) rfl) rfl hS24 (RdVs.cons (Rd.int.2 ⟨rfl, by first | assumption | (constructor <;> omega)⟩) (RdVs.nil)) (by decide) (by decide) (fun v27 H28 hS29 hxx hvv27 => ?_)
  have hS30 : St H0 (own [rowE 3 vl (T : List Int), rowE 3 vw (W : List Int), bE gt #[vC, vl, vw, (Value.map (some mr))] 80, mapE mr (marks T : List (Int × Bool)), rowE 3 vv (Lv : List Int), bE gs #[I ((V : Int)), vA, B (ph), PT gt 0, vv, I (lv), vz] 68]) (fun b => S b ∧ ¬ own [rowE 3 vl (T : List Int), rowE 3 vw (W : List Int), bE gt #[vC, vl, vw, (Value.map (some mr))] 80, mapE mr (marks T : List (Int × Bool)), rowE 3 vv (Lv : List Int), bE gs #[I ((V : Int)), vA, B (ph), PT gt 0, vv, I (lv), vz] 68] b) [rdE v27 ([nth td 0] : List Int), queE 3 (sliceV 1 vq 1 ((nth td 0 :: td.drop 1).length)) (td.drop 1 : List Int), rowE 3 vo (O : List Int), mapE r8 (marks se : List (Int × Bool)), rdE vC C, rowE 3 vl (T : List Int), rowE 3 vw (W : List Int), bE gt #[vC, vl, vw, (Value.map (some mr))] 80, mapE mr (marks T : List (Int × Bool)), rowE 3 vv (Lv : List Int), bE gs #[I ((V : Int)), vA, B (ph), PT gt 0, vv, I (lv), vz] 68] H28 := St.fin hS29
  have hS31 := (hS30.front 2 rfl)
  refine lo rfl ?_
  refine e_append rfl Try.underlying22 em_Int_3_CardC6 rfl rfl hS31 (hS31.rdS 1 rfl) (fun _ h => h) (by have hb : GoT.bytes Int = 8 := rfl; simp [hb]; omega) (by decide) (fun v32 H33 hS34 hxx => ?_)
  refine la (v := v32) rfl rfl rfl ?_
  refine wpL_nil ?_
  refine wpF_exit ?_
  refine atX_here ?_
  refine ⟨_, ?_, m, td.drop 1, se, O ++ ([nth td 0]), v32, (sliceV 1 vq 1 ((nth td 0 :: td.drop 1).length)), rfl, hm5, (lits_drop htd), (by simp), (lits_app hOi ⟨hx1, hx2⟩), (by first | omega | (simp only [List.length_append, List.length_singleton]; omega)), (by omega), y0, rfl, rfl, y7, (show St H0 (own [rowE 3 vl (T : List Int), rowE 3 vw (W : List Int), bE gt #[vC, vl, vw, (Value.map (some mr))] 80, mapE mr (marks T : List (Int × Bool)), rowE 3 vv (Lv : List Int), bE gs #[I ((V : Int)), vA, B (ph), PT gt 0, vv, I (lv), vz] 68]) (fun b => S b ∧ ¬ own [rowE 3 vl (T : List Int), rowE 3 vw (W : List Int), bE gt #[vC, vl, vw, (Value.map (some mr))] 80, mapE mr (marks T : List (Int × Bool)), rowE 3 vv (Lv : List Int), bE gs #[I ((V : Int)), vA, B (ph), PT gt 0, vv, I (lv), vz] 68] b) [rowE 3 v32 ((O ++ ([nth td 0])) : List Int), queE 3 (sliceV 1 vq 1 ((nth td 0 :: td.drop 1).length)) ((td.drop 1) : List Int), mapE r8 (marks se : List (Int × Bool)), rdE vC C, rowE 3 vl (T : List Int), rowE 3 vw (W : List Int), bE gt #[vC, vl, vw, (Value.map (some mr))] 80, mapE mr (marks T : List (Int × Bool)), rowE 3 vv (Lv : List Int), bE gs #[I ((V : Int)), vA, B (ph), PT gt 0, vv, I (lv), vz] 68] H33 from (hS34.drop (sk (sn (sk (sk (sk (sk (sk (sk (sk (sk (sk (List.Sublist.slnil))))))))))))))⟩
  omega
 obtain ⟨hwl, hm4⟩ := hm3 h48
 have hcl := hC (nth C (nth W (idxOf (fun x => decide (x = nth td 0)) T).toNat).toNat) (nth_mem (by omega))
 have hc24 := hC24 (nth C (nth W (idxOf (fun x => decide (x = nth td 0)) T).toNat).toNat) (nth_mem (by omega))
 refine wpF_skip ?_
 refine wpF_seq ?_
 obtain ⟨u36o18, huu36o18, hlu36o18⟩ := (Rd.list.1 (hS20.rdS 3 rfl)).elem ((nth W (((idxOf (fun x => decide (x = (nth td 0))) T)).toNat)).toNat) (by omega)
 have hS36o18 := hS20.rd huu36o18
 refine wpF_cut (fun f H => f 0 = PT gs 0 ∧ f 5 = vo ∧ f 6 = (sliceV 1 vq 1 ((nth td 0 :: td.drop 1).length)) ∧ f 7 = (Value.map (some r8)) ∧ f 8 = I (nth td 0) ∧ f 75 = u36o18 ∧ f 76 = I (((nth C ((nth W (((idxOf (fun x => decide (x = (nth td 0))) T)).toNat)).toNat)).length : Int)) ∧ f 77 = I (0) ∧ St H0 (own [rowE 3 vl (T : List Int), rowE 3 vw (W : List Int), bE gt #[vC, vl, vw, (Value.map (some mr))] 80, mapE mr (marks T : List (Int × Bool)), rowE 3 vv (Lv : List Int), bE gs #[I ((V : Int)), vA, B (ph), PT gt 0, vv, I (lv), vz] 68]) (fun b => S b ∧ ¬ own [rowE 3 vl (T : List Int), rowE 3 vw (W : List Int), bE gt #[vC, vl, vw, (Value.map (some mr))] 80, mapE mr (marks T : List (Int × Bool)), rowE 3 vv (Lv : List Int), bE gs #[I ((V : Int)), vA, B (ph), PT gt 0, vv, I (lv), vz] 68] b) [rdE u36o18 (nth C ((nth W (((idxOf (fun x => decide (x = (nth td 0))) T)).toNat)).toNat)), queE 3 (sliceV 1 vq 1 ((nth td 0 :: td.drop 1).length)) (td.drop 1 : List Int), rowE 3 vo (O : List Int), mapE r8 (marks se : List (Int × Bool)), rdE vC C, rowE 3 vl (T : List Int), rowE 3 vw (W : List Int), bE gt #[vC, vl, vw, (Value.map (some mr))] 80, mapE mr (marks T : List (Int × Bool)), rowE 3 vv (Lv : List Int), bE gs #[I ((V : Int)), vA, B (ph), PT gt 0, vv, I (lv), vz] 68] H) ?_ ?_
 ·refine wpF_drawn [] [] (fun _ _ => False) (by kernel_rfl) (by kernel_rfl) ?_
  refine rq 0 (by kernel_rfl) rfl rfl (q_move (v := PT gs 0) rfl y0) ?_
  refine rq 1 (by kernel_rfl) rfl rfl (q_nilCheck rfl rfl) ?_
  refine rq 2 (by kernel_rfl) rfl rfl (q_fieldAddr rfl Try.underlying68 rfl Try.sizeOf65 rfl) ?_
  refine rq 3 (by kernel_rfl) rfl rfl (q_loadBlk rfl rfl Try.isAgg65 (hS20.blk 9 rfl) rfl (labU_not [] rfl (fe))) ?_
  refine rq 4 (by kernel_rfl) rfl rfl (q_nilCheck rfl rfl) ?_
  refine rq 5 (by kernel_rfl) rfl rfl (q_fieldAddr rfl Try.underlying80 rfl Try.sizeOf24 rfl) ?_
  refine rq 6 (by kernel_rfl) rfl rfl (q_loadBlk rfl rfl Try.isAgg24 (hS20.blk 6 rfl) rfl (labU_not [] rfl (fe))) ?_
  refine rq 7 (by kernel_rfl) rfl rfl (q_move (v := PT gs 0) rfl y0) ?_
  refine rq 8 (by kernel_rfl) rfl rfl (q_nilCheck rfl rfl) ?_
  refine rq 9 (by kernel_rfl) rfl rfl (q_fieldAddr rfl Try.underlying68 rfl Try.sizeOf65 rfl) ?_
  refine rq 10 (by kernel_rfl) rfl rfl (q_loadBlk rfl rfl Try.isAgg65 (hS20.blk 9 rfl) rfl (labU_not [] rfl (fe))) ?_
  refine rq 11 (by kernel_rfl) rfl rfl (q_nilCheck rfl rfl) ?_
  refine rq 12 (by kernel_rfl) rfl rfl (q_fieldAddr rfl Try.underlying80 rfl Try.sizeOf22 rfl) ?_
  refine rq 13 (by kernel_rfl) rfl rfl (q_loadBlk rfl rfl Try.isAgg22 (hS20.blk 6 rfl) rfl (labU_not [] rfl (fe))) ?_
  refine rq 14 (by kernel_rfl) rfl rfl (q_move (v := I ((idxOf (fun x => decide (x = (nth td 0))) T))) rfl rfl) ?_
  refine rq 15 (by kernel_rfl) rfl rfl (q_indexRd (k := ((idxOf (fun x => decide (x = (nth td 0))) T)).toNat) rfl Try.underlying22 el_Int_3_CardC6 rfl rfl (hS20.rowl 5 rfl) (by omega) (by omega)) ?_
  refine rq 16 (by kernel_rfl) rfl rfl (q_loadInt (k := ((idxOf (fun x => decide (x = (nth td 0))) T)).toNat) rfl rfl el_Int_3_CardC6 (hS20.rowl 5 rfl) (by omega) (labU_sub [] rfl (fe))) ?_
  refine rq 17 (by kernel_rfl) rfl rfl (q_indexRd (k := (nth W (((idxOf (fun x => decide (x = (nth td 0))) T)).toNat)).toNat) rfl Try.underlying24 el_LInt_22_CardC6 rfl rfl (hS20.rdl 3 rfl) (by omega) (by omega)) ?_
  refine rq 18 (by kernel_rfl) rfl rfl (q_loadE rfl rfl (hlu36o18 Try.prog 22 _ el_LInt_22_CardC6 (labU_sub [] rfl (fe)))) ?_
  refine rq 19 (by kernel_rfl) rfl rfl (q_lenRd rfl Try.underlying22 rfl (hS36o18.rdl 0 rfl)) ?_
  refine rq 20 (by kernel_rfl) rfl rfl (q_move (v := I (0)) rfl rfl) ?_
  refine wpR_end (by kernel_rfl) ?_
  exact ⟨y0, y5, rfl, y7, rfl, rfl, rfl, rfl, hS36o18⟩
 clear y0 y5 y7
 rintro f37 H37 ⟨y0, y5, y6, y7, y8, y75, y76, y77, hS37⟩
 refine wpF_block ?_
 refine wpF_loop (fun mz f H => ∃ (i : Nat), ∃ (td2 : List Int), ∃ (se2 : List Int), ∃ (vq2 : Value), mz = (nth C (nth W (idxOf (fun x => decide (x = nth td 0)) T).toNat).toNat).length - i ∧ (i ≤ (nth C (nth W (idxOf (fun x => decide (x = nth td 0)) T).toNat).toNat).length) ∧ (moreF (nth td 0) ((nth C (nth W (idxOf (fun x => decide (x = nth td 0)) T).toNat).toNat).drop i) td2 se2 = moreF (nth td 0) (nth C (nth W (idxOf (fun x => decide (x = nth td 0)) T).toNat).toNat) (td.drop 1) se) ∧ (litsIn td2) ∧ (td2.length ≤ td.length - 1 + i) ∧ f 0 = PT gs 0 ∧ f 5 = vo ∧ f 6 = vq2 ∧ f 7 = (Value.map (some r8)) ∧ f 8 = I (nth td 0) ∧ f 75 = u36o18 ∧ f 76 = I (((nth C ((nth W (((idxOf (fun x => decide (x = (nth td 0))) T)).toNat)).toNat)).length : Int)) ∧ f 77 = I ((i : Int)) ∧ St H0 (own [rowE 3 vl (T : List Int), rowE 3 vw (W : List Int), bE gt #[vC, vl, vw, (Value.map (some mr))] 80, mapE mr (marks T : List (Int × Bool)), rowE 3 vv (Lv : List Int), bE gs #[I ((V : Int)), vA, B (ph), PT gt 0, vv, I (lv), vz] 68]) (fun b => S b ∧ ¬ own [rowE 3 vl (T : List Int), rowE 3 vw (W : List Int), bE gt #[vC, vl, vw, (Value.map (some mr))] 80, mapE mr (marks T : List (Int × Bool)), rowE 3 vv (Lv : List Int), bE gs #[I ((V : Int)), vA, B (ph), PT gt 0, vv, I (lv), vz] 68] b) [queE 3 vq2 (td2 : List Int), mapE r8 (marks se2 : List (Int × Bool)), rdE u36o18 (nth C ((nth W (((idxOf (fun x => decide (x = (nth td 0))) T)).toNat)).toNat)), rowE 3 vo (O : List Int), rdE vC C, rowE 3 vl (T : List Int), rowE 3 vw (W : List Int), bE gt #[vC, vl, vw, (Value.map (some mr))] 80, mapE mr (marks T : List (Int × Bool)), rowE 3 vv (Lv : List Int), bE gs #[I ((V : Int)), vA, B (ph), PT gt 0, vv, I (lv), vz] 68] H) ((nth C (nth W (idxOf (fun x => decide (x = nth td 0)) T).toNat).toNat).length - 0) ?_ ?_
 ·exact ⟨0, td.drop 1, se, (sliceV 1 vq 1 ((nth td 0 :: td.drop 1).length)), rfl, Nat.zero_le _, rfl, (lits_drop htd), (by omega), y0, y5, y6, y7, y8, y75, y76, (Eq.trans y77 (congrArg I (by omega))), (show St H0 (own [rowE 3 vl (T : List Int), rowE 3 vw (W : List Int), bE gt #[vC, vl, vw, (Value.map (some mr))] 80, mapE mr (marks T : List (Int × Bool)), rowE 3 vv (Lv : List Int), bE gs #[I ((V : Int)), vA, B (ph), PT gt 0, vv, I (lv), vz] 68]) (fun b => S b ∧ ¬ own [rowE 3 vl (T : List Int), rowE 3 vw (W : List Int), bE gt #[vC, vl, vw, (Value.map (some mr))] 80, mapE mr (marks T : List (Int × Bool)), rowE 3 vv (Lv : List Int), bE gs #[I ((V : Int)), vA, B (ph), PT gt 0, vv, I (lv), vz] 68] b) [queE 3 (sliceV 1 vq 1 ((nth td 0 :: td.drop 1).length)) ((td.drop 1) : List Int), mapE r8 (marks se : List (Int × Bool)), rdE u36o18 (nth C ((nth W (((idxOf (fun x => decide (x = (nth td 0))) T)).toNat)).toNat)), rowE 3 vo (O : List Int), rdE vC C, rowE 3 vl (T : List Int), rowE 3 vw (W : List Int), bE gt #[vC, vl, vw, (Value.map (some mr))] 80, mapE mr (marks T : List (Int × Bool)), rowE 3 vv (Lv : List Int), bE gs #[I ((V : Int)), vA, B (ph), PT gt 0, vv, I (lv), vz] 68] H37 from (St.drop (show St H0 (own [rowE 3 vl (T : List Int), rowE 3 vw (W : List Int), bE gt #[vC, vl, vw, (Value.map (some mr))] 80, mapE mr (marks T : List (Int × Bool)), rowE 3 vv (Lv : List Int), bE gs #[I ((V : Int)), vA, B (ph), PT gt 0, vv, I (lv), vz] 68]) (fun b => S b ∧ ¬ own [rowE 3 vl (T : List Int), rowE 3 vw (W : List Int), bE gt #[vC, vl, vw, (Value.map (some mr))] 80, mapE mr (marks T : List (Int × Bool)), rowE 3 vv (Lv : List Int), bE gs #[I ((V : Int)), vA, B (ph), PT gt 0, vv, I (lv), vz] 68] b) [queE 3 (sliceV 1 vq 1 ((nth td 0 :: td.drop 1).length)) (td.drop 1 : List Int), mapE r8 (marks se : List (Int × Bool)), rdE u36o18 (nth C ((nth W (((idxOf (fun x => decide (x = (nth td 0))) T)).toNat)).toNat)), rowE 3 vo (O : List Int), rdE vC C, rowE 3 vl (T : List Int), rowE 3 vw (W : List Int), bE gt #[vC, vl, vw, (Value.map (some mr))] 80, mapE mr (marks T : List (Int × Bool)), rowE 3 vv (Lv : List Int), bE gs #[I ((V : Int)), vA, B (ph), PT gt 0, vv, I (lv), vz] 68] H37 from ((hS37.front 3 rfl).front 2 rfl)) (sk (sk (sk (sk (sk (sk (sk (sk (sk (sk (sk (List.Sublist.slnil))))))))))))))⟩
 intro m38 f38 H38 hI38
 clear y0 y5 y6 y7 y75 y76 y77 y8
 obtain ⟨i, td2, se2, vq2, hm38, hi, hmo, htd2, hl2, y0, y5, y6, y7, y8, y75, y76, y77, hS38⟩ := hI38
 refine wpF_seq ?_
 refine wpF_region ?_
 refine lq rfl (q_lss rfl y77 y76) ?_
 refine wpL_nil ?_
 refine wpF_seq ?_
 refine wpF_condP rfl (fun hlt2 => ?t59) (fun hlt2 => ?e59)
 case e59 =>
  have hme : moreF (nth td 0) (nth C (nth W (idxOf (fun x => decide (x = nth td 0)) T).toNat).toNat) (td.drop 1) se = (td2, se2) := ((more_end (by omega)).symm.trans hmo).symm
  have hm5 : (coreF C T W m td2 se2 O).isSome = true := by rw [hme] at hm4; exact hm4
  refine wpF_exit ?_
  refine atX_here ?_
  refine ⟨_, ?_, m, td2, se2, O, vo, vq2, rfl, hm5, htd2, hO, hOi, (by first | omega | (simp only [List.length_append, List.length_singleton]; omega)), (by omega), y0, y5, y6, y7, (St.drop (show St H0 (own [rowE 3 vl (T : List Int), rowE 3 vw (W : List Int), bE gt #[vC, vl, vw, (Value.map (some mr))] 80, mapE mr (marks T : List (Int × Bool)), rowE 3 vv (Lv : List Int), bE gs #[I ((V : Int)), vA, B (ph), PT gt 0, vv, I (lv), vz] 68]) (fun b => S b ∧ ¬ own [rowE 3 vl (T : List Int), rowE 3 vw (W : List Int), bE gt #[vC, vl, vw, (Value.map (some mr))] 80, mapE mr (marks T : List (Int × Bool)), rowE 3 vv (Lv : List Int), bE gs #[I ((V : Int)), vA, B (ph), PT gt 0, vv, I (lv), vz] 68] b) [rowE 3 vo (O : List Int), queE 3 vq2 (td2 : List Int), mapE r8 (marks se2 : List (Int × Bool)), rdE u36o18 (nth C ((nth W (((idxOf (fun x => decide (x = (nth td 0))) T)).toNat)).toNat)), rdE vC C, rowE 3 vl (T : List Int), rowE 3 vw (W : List Int), bE gt #[vC, vl, vw, (Value.map (some mr))] 80, mapE mr (marks T : List (Int × Bool)), rowE 3 vv (Lv : List Int), bE gs #[I ((V : Int)), vA, B (ph), PT gt 0, vv, I (lv), vz] 68] H38 from (hS38.front 3 rfl)) (sk (sk (sk (sn (sk (sk (sk (sk (sk (sk (sk (List.Sublist.slnil)))))))))))))⟩
  omega
 have hci := hcl i (by omega)
 refine wpF_skip ?_
 refine wpF_seq ?_
 refine wpF_block ?_
 refine wpF_seq ?_
 refine wpF_region ?_
 refine lq rfl (q_indexRd (k := i) rfl Try.underlying22 el_Int_3_CardC6 y75 y77 (hS38.rdl 2 rfl) (by omega) (by omega)) ?_
 refine lq rfl (q_loadInt (k := i) rfl rfl el_Int_3_CardC6 (hS38.rdl 2 rfl) (by omega) (fun _ h => h)) ?_
 refine la (v := I (nth (nth C ((nth W (((idxOf (fun x => decide (x = (nth td 0))) T)).toNat)).toNat)) i)) rfl rfl rfl ?_
 refine wpL_nil ?_
 refine fcr (fun f H => f 0 = PT gs 0 ∧ f 5 = vo ∧ f 6 = vq2 ∧ f 7 = (Value.map (some r8)) ∧ f 8 = I (nth td 0) ∧ f 11 = I (nth (nth C ((nth W (((idxOf (fun x => decide (x = (nth td 0))) T)).toNat)).toNat)) i) ∧ f 75 = u36o18 ∧ f 76 = I (((nth C ((nth W (((idxOf (fun x => decide (x = (nth td 0))) T)).toNat)).toNat)).length : Int)) ∧ f 77 = I ((i : Int)) ∧ f 90 = B (decide (((nth (nth C ((nth W (((idxOf (fun x => decide (x = (nth td 0))) T)).toNat)).toNat)) i) ≠ (nth td 0)) ∧ ((!((mget (marks se2) (-(nth (nth C ((nth W (((idxOf (fun x => decide (x = (nth td 0))) T)).toNat)).toNat)) i))).getD false)) = true))) ∧ H38 = H) ?_ ?_
 ·refine lm (v := I (nth (nth C ((nth W (((idxOf (fun x => decide (x = (nth td 0))) T)).toNat)).toNat)) i)) rfl rfl rfl ?_
  refine lm (v := I (nth td 0)) rfl rfl y8 ?_
  refine lq rfl (q_neq rfl rfl rfl) ?_
  refine lm (v := B (decide ((nth (nth C ((nth W (((idxOf (fun x => decide (x = (nth td 0))) T)).toNat)).toNat)) i) ≠ (nth td 0)))) rfl rfl rfl ?_
  by_cases hg40 : (nth (nth C ((nth W (((idxOf (fun x => decide (x = (nth td 0))) T)).toNat)).toNat)) i) ≠ (nth td 0)
  ·have hb41 := Eq.trans rfl (congrArg B (decide_eq_true hg40))
   refine gq rfl rfl rfl hb41 (q_move (v := (Value.map (some r8))) rfl y7) ?_
   refine gq rfl rfl rfl hb41 (q_move (v := I (nth (nth C ((nth W (((idxOf (fun x => decide (x = (nth td 0))) T)).toNat)).toNat)) i)) rfl rfl) ?_
   refine gq rfl rfl rfl hb41 (q_neg rfl rfl (by constructor <;> omega)) ?_
   obtain ⟨u43, hlu43, hru43⟩ := lookD (t := 78) (d := (false : Bool)) Try.underlying78 (keyLaw_int Try.underlying3) Try.zeroValue4 (fun _ _ => Rd.bool.2 rfl) (-(nth (nth C ((nth W (((idxOf (fun x => decide (x = (nth td 0))) T)).toNat)).toNat)) i)) (hS38.get 1 rfl)
   obtain rfl := Rd.bool.1 hru43
   refine gq rfl rfl rfl hb41 (q_lookup0 rfl rfl rfl (hlu43 _ (fun h => h))) ?_
   refine gq rfl rfl rfl hb41 (q_not rfl rfl) ?_
   refine lq rfl (q_pickT (v := B (!((mget (marks se2) (-(nth (nth C ((nth W (((idxOf (fun x => decide (x = (nth td 0))) T)).toNat)).toNat)) i))).getD false))) rfl hb41 rfl) ?_
   exact ⟨y0, y5, y6, y7, y8, rfl, y75, y76, y77, (Eq.trans rfl (congrArg B (bool_congr_of ((Iff.rfl).trans (((and_iff_right hg40).trans Iff.rfl)).symm)))), rfl⟩
  ·have hb42 := Eq.trans rfl (congrArg B (decide_eq_false hg40))
   refine wpL_gs rfl rfl rfl hb42 rfl ?_
   refine wpL_gs rfl rfl rfl hb42 rfl ?_
   refine wpL_gs rfl rfl rfl hb42 rfl ?_
   refine wpL_gs rfl rfl rfl hb42 rfl ?_
   refine wpL_gs rfl rfl rfl hb42 rfl ?_
   refine lq rfl (q_pickF (v := B (false)) rfl hb42 rfl) ?_
   exact ⟨y0, y5, y6, y7, y8, rfl, y75, y76, y77, (Eq.trans rfl (congrArg B ((decide_eq_false (fun h => hg40 h.1)).symm))), rfl⟩
 clear y0 y5 y6 y7 y75 y76 y77 y8
 rintro f44 _ ⟨y0, y5, y6, y7, y8, y11, y75, y76, y77, y90, rfl⟩
 refine wpF_condP y90 (fun h90 => ?t58) (fun h90 => ?e58)
 case e58 =>
  have hmo2 := (more_no (td := td2) (show i < (nth C (nth W (idxOf (fun x => decide (x = nth td 0)) T).toNat).toNat).length by omega) (by simpa only [marks_get, decide_eq_true_eq, Bool.not_eq_true', decide_eq_false_iff_not] using h90)).symm.trans hmo
  refine wpF_skip ?_
  refine wpF_region ?_
  refine lq rfl (q_add rfl y77 rfl (by constructor <;> omega)) ?_
  refine lm (v := I ((i : Int) + 1)) rfl rfl rfl ?_
  refine wpL_nil ?_
  refine ⟨_, ?_, i + 1, td2, se2, vq2, rfl, (by omega), hmo2, htd2, (by first | omega | (simp only [List.length_append, List.length_singleton]; omega)), y0, y5, y6, y7, y8, y75, y76, (Eq.trans rfl (congrArg I (by omega))), hS38⟩
  omega
 have hmo2 := (more_yes (td := td2) (show i < (nth C (nth W (idxOf (fun x => decide (x = nth td 0)) T).toNat).toNat).length by omega) (by simpa only [marks_get, decide_eq_true_eq, Bool.not_eq_true', decide_eq_false_iff_not] using h90)).symm.trans hmo
 refine wpF_seq ?_
 refine wpF_region ?_
 refine lm (v := (Value.map (some r8))) rfl rfl y7 ?_
 refine lm (v := I (nth (nth C ((nth W (((idxOf (fun x => decide (x = (nth td 0))) T)).toNat)).toNat)) i)) rfl rfl y11 ?_
 refine lq rfl (q_neg rfl rfl (by constructor <;> omega)) ?_
 have hS46 := (hS38.front 1 rfl)
 refine lo rfl ?_
 refine e_mapUpdate (k := (-(nth (nth C ((nth W (((idxOf (fun x => decide (x = (nth td 0))) T)).toNat)).toNat)) i))) (.inl rfl) Try.underlying78 (keyLaw_int Try.underlying3) rfl rfl rfl hS46 (Rd.bool.2 rfl) (fun H47 hS48 hxx => ?_)
 refine wpL_nil ?_
 have hS49 : St H0 (own [rowE 3 vl (T : List Int), rowE 3 vw (W : List Int), bE gt #[vC, vl, vw, (Value.map (some mr))] 80, mapE mr (marks T : List (Int × Bool)), rowE 3 vv (Lv : List Int), bE gs #[I ((V : Int)), vA, B (ph), PT gt 0, vv, I (lv), vz] 68]) (fun b => S b ∧ ¬ own [rowE 3 vl (T : List Int), rowE 3 vw (W : List Int), bE gt #[vC, vl, vw, (Value.map (some mr))] 80, mapE mr (marks T : List (Int × Bool)), rowE 3 vv (Lv : List Int), bE gs #[I ((V : Int)), vA, B (ph), PT gt 0, vv, I (lv), vz] 68] b) [mapE r8 (marks (se2 ++ [-nth (nth C (nth W (idxOf (fun x => decide (x = nth td 0)) T).toNat).toNat) i]) : List (Int × Bool)), queE 3 vq2 (td2 : List Int), rdE u36o18 (nth C ((nth W (((idxOf (fun x => decide (x = (nth td 0))) T)).toNat)).toNat)), rowE 3 vo (O : List Int), rdE vC C, rowE 3 vl (T : List Int), rowE 3 vw (W : List Int), bE gt #[vC, vl, vw, (Value.map (some mr))] 80, mapE mr (marks T : List (Int × Bool)), rowE 3 vv (Lv : List Int), bE gs #[I ((V : Int)), vA, B (ph), PT gt 0, vv, I (lv), vz] 68] H47 := by have h__ := hS48; rw [← marks_app] at h__; exact h__
 refine wpF_region ?_
 refine lm (v := vq2) rfl rfl y6 ?_
 refine lm (v := I (nth (nth C ((nth W (((idxOf (fun x => decide (x = (nth td 0))) T)).toNat)).toNat)) i)) rfl rfl y11 ?_
 refine lq rfl (q_neg rfl rfl (by constructor <;> omega)) ?_
 refine lo rfl ?_
 refine e_buildSlice (vs := [I (-(nth (nth C ((nth W (((idxOf (fun x => decide (x = (nth td 0))) T)).toNat)).toNat)) i))]) (xs := ([-(nth (nth C ((nth W (((idxOf (fun x => decide (x = (nth td 0))) T)).toNat)).toNat)) i)] : List Int)) rfl Try.underlying22 Try.zeroValue3 rfl Try.sizeOf3 (par1 (v0 := I (-(nth (nth C ((nth W (((idxOf (fun x => decide (x = (nth td 0))) T)).toNat)).toNat)) i))) rfl) rfl hS49 (RdVs.cons (Rd.int.2 ⟨rfl, by first | assumption | (constructor <;> omega)⟩) (RdVs.nil)) (by decide) (by decide) (fun v50 H51 hS52 hxx hvv50 => ?_)
 have hS53 : St H0 (own [rowE 3 vl (T : List Int), rowE 3 vw (W : List Int), bE gt #[vC, vl, vw, (Value.map (some mr))] 80, mapE mr (marks T : List (Int × Bool)), rowE 3 vv (Lv : List Int), bE gs #[I ((V : Int)), vA, B (ph), PT gt 0, vv, I (lv), vz] 68]) (fun b => S b ∧ ¬ own [rowE 3 vl (T : List Int), rowE 3 vw (W : List Int), bE gt #[vC, vl, vw, (Value.map (some mr))] 80, mapE mr (marks T : List (Int × Bool)), rowE 3 vv (Lv : List Int), bE gs #[I ((V : Int)), vA, B (ph), PT gt 0, vv, I (lv), vz] 68] b) [rdE v50 ([-(nth (nth C ((nth W (((idxOf (fun x => decide (x = (nth td 0))) T)).toNat)).toNat)) i)] : List Int), mapE r8 (marks (se2 ++ [-nth (nth C (nth W (idxOf (fun x => decide (x = nth td 0)) T).toNat).toNat) i]) : List (Int × Bool)), queE 3 vq2 (td2 : List Int), rdE u36o18 (nth C ((nth W (((idxOf (fun x => decide (x = (nth td 0))) T)).toNat)).toNat)), rowE 3 vo (O : List Int), rdE vC C, rowE 3 vl (T : List Int), rowE 3 vw (W : List Int), bE gt #[vC, vl, vw, (Value.map (some mr))] 80, mapE mr (marks T : List (Int × Bool)), rowE 3 vv (Lv : List Int), bE gs #[I ((V : Int)), vA, B (ph), PT gt 0, vv, I (lv), vz] 68] H51 := St.fin hS52
 have hS54 := (hS53.front 2 rfl)
 refine lo rfl ?_
 refine e_appendQ rfl Try.underlying22 em_Int_3_CardC6 rfl rfl hS54 (hS54.rdS 1 rfl) (by omega) (fun v55 H56 hS57 hxx => ?_)
 refine la (v := v55) rfl rfl rfl ?_
 refine wpL_nil ?_
 refine wpF_region ?_
 refine lq rfl (q_add rfl y77 rfl (by constructor <;> omega)) ?_
 refine lm (v := I ((i : Int) + 1)) rfl rfl rfl ?_
 refine wpL_nil ?_
 refine ⟨_, ?_, i + 1, td2 ++ ([-(nth (nth C ((nth W (((idxOf (fun x => decide (x = (nth td 0))) T)).toNat)).toNat)) i)]), (se2 ++ [-nth (nth C (nth W (idxOf (fun x => decide (x = nth td 0)) T).toNat).toNat) i]), v55, rfl, (by omega), hmo2, (lits_app htd2 (by omega)), (by first | omega | (simp only [List.length_append, List.length_singleton]; omega)), y0, y5, rfl, y7, y8, y75, y76, (Eq.trans rfl (congrArg I (by omega))), (show St H0 (own [rowE 3 vl (T : List Int), rowE 3 vw (W : List Int), bE gt #[vC, vl, vw, (Value.map (some mr))] 80, mapE mr (marks T : List (Int × Bool)), rowE 3 vv (Lv : List Int), bE gs #[I ((V : Int)), vA, B (ph), PT gt 0, vv, I (lv), vz] 68]) (fun b => S b ∧ ¬ own [rowE 3 vl (T : List Int), rowE 3 vw (W : List Int), bE gt #[vC, vl, vw, (Value.map (some mr))] 80, mapE mr (marks T : List (Int × Bool)), rowE 3 vv (Lv : List Int), bE gs #[I ((V : Int)), vA, B (ph), PT gt 0, vv, I (lv), vz] 68] b) [queE 3 v55 ((td2 ++ ([-(nth (nth C ((nth W (((idxOf (fun x => decide (x = (nth td 0))) T)).toNat)).toNat)) i)])) : List Int), mapE r8 (marks (se2 ++ [-nth (nth C (nth W (idxOf (fun x => decide (x = nth td 0)) T).toNat).toNat) i]) : List (Int × Bool)), rdE u36o18 (nth C ((nth W (((idxOf (fun x => decide (x = (nth td 0))) T)).toNat)).toNat)), rowE 3 vo (O : List Int), rdE vC C, rowE 3 vl (T : List Int), rowE 3 vw (W : List Int), bE gt #[vC, vl, vw, (Value.map (some mr))] 80, mapE mr (marks T : List (Int × Bool)), rowE 3 vv (Lv : List Int), bE gs #[I ((V : Int)), vA, B (ph), PT gt 0, vv, I (lv), vz] 68] H56 from (hS57.drop (sk (sn (sk (sk (sk (sk (sk (sk (sk (sk (sk (sk (List.Sublist.slnil)))))))))))))))⟩
 omega
end Go.Um
