import Derived.Test.YtbfgipgojdinoaaProg
import Derived.Test.YtbfgipgojdinoaaCardC3
import Derived.Test.YtbfgipgojdinoaaUmTopCountsC
namespace Go.Um
open Go.Proofs
open GoT (sz ag rdc)
open KeyT (kv)
theorem el_LInt_22_CardC4 : ElT Try.prog (List Int) 22 := ⟨Try.isAgg22, Try.sizeOf22⟩
set_option maxHeartbeats 2000000 in
set_option maxRecDepth 100000 in
theorem Run_T {H0 : Heap} (S : Nat → Prop) (gt mr : Nat) (vC vl vw : Value) (C : List (List Int)) (T W T2 W2 : List Int) (n : Nat) (b : Int) (hg : Given S [rowE 3 vl (T : List Int), rowE 3 vw (W : List Int), bE gt #[vC, vl, vw, (Value.map (some mr))] 80, mapE mr (marks T : List (Int × Bool))] H0) (rC : Rd S H0 vC C) (hC : ∀ c ∈ C, litsIn c) (hr : runF C n T W = some (T2, W2, b)) (hTl : T.length + n ≤ 900) (hWl : W.length + n ≤ 900) : CallsH Try.prog 49 #[PT gt 0] H0 (fun rv_ H' => Ext (own [rowE 3 vl (T : List Int), rowE 3 vw (W : List Int), bE gt #[vC, vl, vw, (Value.map (some mr))] 80, mapE mr (marks T : List (Int × Bool))]) H0 H' ∧ ∃ vl_ vw_, rv_ = I b ∧ Gone S [rowE 3 vl (T : List Int), rowE 3 vw (W : List Int), bE gt #[vC, vl, vw, (Value.map (some mr))] 80, mapE mr (marks T : List (Int × Bool))] [rowE 3 vl_ (T2 : List Int), rowE 3 vw_ (W2 : List Int), bE gt #[vC, vl_, vw_, (Value.map (some mr))] 80, mapE mr (marks T2 : List (Int × Bool))] H0 H') := by
 have hS0 : St H0 (own [rowE 3 vl (T : List Int), rowE 3 vw (W : List Int), bE gt #[vC, vl, vw, (Value.map (some mr))] 80, mapE mr (marks T : List (Int × Bool))]) (fun b => S b ∧ ¬ own [rowE 3 vl (T : List Int), rowE 3 vw (W : List Int), bE gt #[vC, vl, vw, (Value.map (some mr))] 80, mapE mr (marks T : List (Int × Bool))] b) [rdE vC C, rowE 3 vl (T : List Int), rowE 3 vw (W : List Int), bE gt #[vC, vl, vw, (Value.map (some mr))] 80, mapE mr (marks T : List (Int × Bool))] H0 := (hg.st.rdG rC fun b hb => hg.sub hb)
 have hsm := (Rd.list.1 rC).small
 refine callsH_of_wpF (args := [PT gt 0]) (rs := [.tmp 2]) Try.func49 rfl Try.ntmps49 Try.results49 (by kernel_rfl) (Nat.le_of_ble_eq_true rfl) ?_
 have y0 : argF [PT gt 0] 0 = PT gt 0 := rfl
 generalize argF [PT gt 0] = f0 at *
 refine wpF_seq ?_
 refine wpF_region ?_
 refine la (v := I (0)) rfl rfl rfl ?_
 refine wpL_nil ?_
 refine wpF_block ?_
 refine wpF_loop (fun mz f H => ∃ (n1 : Nat), ∃ (Tk : List Int), ∃ (Wk : List Int), ∃ (vlk : Value), ∃ (vwk : Value), mz = n1 ∧ (runF C n1 Tk Wk = some (T2, W2, b)) ∧ (Tk.length + n1 ≤ 900) ∧ (Wk.length + n1 ≤ 900) ∧ f 0 = PT gt 0 ∧ St H0 (own [rowE 3 vl (T : List Int), rowE 3 vw (W : List Int), bE gt #[vC, vl, vw, (Value.map (some mr))] 80, mapE mr (marks T : List (Int × Bool))]) (fun b => S b ∧ ¬ own [rowE 3 vl (T : List Int), rowE 3 vw (W : List Int), bE gt #[vC, vl, vw, (Value.map (some mr))] 80, mapE mr (marks T : List (Int × Bool))] b) [rdE vC C, rowE 3 vlk (Tk : List Int), rowE 3 vwk (Wk : List Int), bE gt #[vC, vlk, vwk, (Value.map (some mr))] 80, mapE mr (marks Tk : List (Int × Bool))] H) (n) ?_ ?_
 ·exact ⟨n, T, W, vl, vw, rfl, hr, hTl, hWl, y0, hS0⟩
 intro m1 f1 H1 hI1
 clear y0
 obtain ⟨n1, Tk, Wk, vlk, vwk, hm1, hrk, hTk, hWk, y0, hS1⟩ := hI1
 refine wpF_block ?_
 refine wpF_seq ?_
 refine wpF_region ?_
 refine la (v := I (-1)) rfl rfl rfl ?_
 refine wpL_nil ?_
 refine wpF_seq ?_
 refine wpF_seq ?_
 refine wpF_region ?_
 refine lm (v := PT gt 0) rfl rfl y0 ?_
 refine lq rfl (q_nilCheck rfl rfl) ?_
 refine lq rfl (q_fieldAddr rfl Try.underlying80 rfl Try.sizeOf24 rfl) ?_
 refine lq rfl (q_loadBlk rfl rfl Try.isAgg24 (hS1.blk 3 rfl) rfl (fun h => h)) ?_
 refine lq rfl (q_lenRd rfl Try.underlying24 rfl (hS1.rdl 0 rfl)) ?_
 refine lm (v := I (0)) rfl rfl rfl ?_
 refine wpL_nil ?_
 refine wpF_block ?_
 refine wpF_loop (fun mz f H => ∃ (k : Nat), ∃ (fi : Int), mz = C.length - k ∧ (k ≤ C.length) ∧ (scanF Tk (C.drop k) k fi = scanL C Tk) ∧ f 0 = PT gt 0 ∧ f 3 = I (fi) ∧ f 13 = vC ∧ f 14 = I ((C.length : Int)) ∧ f 15 = I ((k : Int)) ∧ St H0 (own [rowE 3 vl (T : List Int), rowE 3 vw (W : List Int), bE gt #[vC, vl, vw, (Value.map (some mr))] 80, mapE mr (marks T : List (Int × Bool))]) (fun b => S b ∧ ¬ own [rowE 3 vl (T : List Int), rowE 3 vw (W : List Int), bE gt #[vC, vl, vw, (Value.map (some mr))] 80, mapE mr (marks T : List (Int × Bool))] b) [rdE vC C, rowE 3 vlk (Tk : List Int), rowE 3 vwk (Wk : List Int), bE gt #[vC, vlk, vwk, (Value.map (some mr))] 80, mapE mr (marks Tk : List (Int × Bool))] H) (C.length - 0) ?_ ?_
 ·exact ⟨0, (-1), rfl, Nat.zero_le _, rfl, y0, (Eq.trans rfl (congrArg I (by omega))), rfl, rfl, (Eq.trans rfl (congrArg I (by omega))), hS1⟩
 intro m2 f2 H2 hI2
 clear y0
 obtain ⟨k, fi, hm2, hk, hsc, y0, y3, y13, y14, y15, hS2⟩ := hI2
 refine wpF_seq ?_
 refine wpF_region ?_
 refine lq rfl (q_lss rfl y15 y14) ?_
 refine wpL_nil ?_
 refine wpF_seq ?_
 refine wpF_condP rfl (fun hlt => ?t31) (fun hlt => ?e31)
 case e31 =>
  have hse : scanL C Tk = (false, fi) := ((scF_end (by omega)).symm.trans hsc).symm
  refine wpF_exit ?_
  refine atX_here ?_
  refine wpF_seq ?_
  refine wpF_seq ?_
  refine wpF_region ?_
  refine lm (v := I (fi)) rfl rfl y3 ?_
  refine lq rfl (q_lss rfl rfl rfl) ?_
  refine wpL_nil ?_
  refine wpF_condP rfl (fun h37 => ?t30) (fun h37 => ?e30)
  case t30 =>
   refine wpF_seq ?_
   refine wpF_region ?_
   refine la (v := I (-1)) rfl rfl rfl ?_
   refine wpL_nil ?_
   refine wpF_ret ?_
   refine ⟨_, resT rfl resN, hS2.frameM, ?_⟩
   show ∃ vl_ vw_, (I (-1)) = I b ∧ Gone S [rowE 3 vl (T : List Int), rowE 3 vw (W : List Int), bE gt #[vC, vl, vw, (Value.map (some mr))] 80, mapE mr (marks T : List (Int × Bool))] [rowE 3 vl_ (T2 : List Int), rowE 3 vw_ (W2 : List Int), bE gt #[vC, vl_, vw_, (Value.map (some mr))] 80, mapE mr (marks T2 : List (Int × Bool))] H0 H2
   have hX := run_done hrk hse h37
   simp only [Prod.mk.injEq] at hX
   obtain ⟨rfl, rfl, rfl⟩ : Tk = T2 ∧ Wk = W2 ∧ _ = b := ⟨hX.1.symm, hX.2.1.symm, hX.2.2.symm⟩
   have hL : St H0 (own [rowE 3 vl (T : List Int), rowE 3 vw (W : List Int), bE gt #[vC, vl, vw, (Value.map (some mr))] 80, mapE mr (marks T : List (Int × Bool))]) (fun b => S b ∧ ¬ own [rowE 3 vl (T : List Int), rowE 3 vw (W : List Int), bE gt #[vC, vl, vw, (Value.map (some mr))] 80, mapE mr (marks T : List (Int × Bool))] b) [rowE 3 vlk (Tk : List Int), rowE 3 vwk (Wk : List Int), bE gt #[vC, vlk, vwk, (Value.map (some mr))] 80, mapE mr (marks Tk : List (Int × Bool))] H2 := (hS2.drop (sn (sk (sk (sk (sk (List.Sublist.slnil)))))))
   exact ⟨_, _, rfl, St.leave3 hL⟩
  have hfl := scan_lt hse
  obtain ⟨m, hm1, hm2⟩ := run_step hrk hse h37
  have hsi : -120 ≤ (stateL Tk (nth C fi.toNat)).2 ∧ (stateL Tk (nth C fi.toNat)).2 ≤ 120 := state_in (k := 0) (hC _ (nth_mem (by omega))) (by decide)
  refine wpF_skip ?_
  refine wpF_seq ?_
  obtain ⟨u19, huu19, hlu19⟩ := (Rd.list.1 (hS2.rdS 0 rfl)).elem ((fi).toNat) (by omega)
  have hS20 := hS2.rd huu19
  refine wpF_region ?_
  refine lm (v := PT gt 0) rfl rfl y0 ?_
  refine lm (v := PT gt 0) rfl rfl y0 ?_
  refine lq rfl (q_nilCheck rfl rfl) ?_
  refine lq rfl (q_fieldAddr rfl Try.underlying80 rfl Try.sizeOf24 rfl) ?_
  refine lq rfl (q_loadBlk rfl rfl Try.isAgg24 (hS2.blk 3 rfl) rfl (fun h => h)) ?_
  refine lm (v := I (fi)) rfl rfl y3 ?_
  refine lq rfl (q_indexRd (k := (fi).toNat) rfl Try.underlying24 el_LInt_22_CardC4 rfl rfl (hS2.rdl 0 rfl) (by omega) (by omega)) ?_
  refine lq rfl (q_loadE rfl rfl (hlu19 Try.prog 22 _ el_LInt_22_CardC4 (fun _ h => False.elim h))) ?_
  refine lo rfl ?_
  refine e_call rfl Try.call74 (arr2 (v0 := PT gt 0) (v1 := u19) rfl rfl) (state_T gt mr vC vlk vwk u19 Tk (nth C ((fi).toNat)) (hS20.blk 4 rfl) (MapOk.no (hS20.get 5 rfl)) (hS20.rdN 0 rfl) (hC _ (nth_mem (by omega)))) ?_
  rintro _ H21 ⟨hxx, rfl⟩
  have hS22 := hS20.ext hxx
  refine lm (v := Value.tuple #[B ((stateL Tk (nth C ((fi).toNat))).1), I ((stateL Tk (nth C ((fi).toNat))).2)]) rfl rfl rfl ?_
  refine lq rfl (q_extract (vs := #[B ((stateL Tk (nth C ((fi).toNat))).1), I ((stateL Tk (nth C ((fi).toNat))).2)]) (v := B ((stateL Tk (nth C ((fi).toNat))).1)) rfl rfl rfl) ?_
  refine lq rfl (q_extract (vs := #[B ((stateL Tk (nth C ((fi).toNat))).1), I ((stateL Tk (nth C ((fi).toNat))).2)]) (v := I ((stateL Tk (nth C ((fi).toNat))).2)) rfl rfl rfl) ?_
  refine la (v := B ((stateL Tk (nth C ((fi).toNat))).1)) rfl rfl rfl ?_
  refine la (v := I ((stateL Tk (nth C ((fi).toNat))).2)) rfl rfl rfl ?_
  refine wpL_nil ?_
  refine wpF_region ?_
  refine lm (v := PT gt 0) rfl rfl y0 ?_
  refine lm (v := I ((stateL Tk (nth C ((fi).toNat))).2)) rfl rfl rfl ?_
  refine lm (v := I (fi)) rfl rfl y3 ?_
  have hS24 := (St.drop (show St H0 (own [rowE 3 vl (T : List Int), rowE 3 vw (W : List Int), bE gt #[vC, vl, vw, (Value.map (some mr))] 80, mapE mr (marks T : List (Int × Bool))]) (fun b => S b ∧ ¬ own [rowE 3 vl (T : List Int), rowE 3 vw (W : List Int), bE gt #[vC, vl, vw, (Value.map (some mr))] 80, mapE mr (marks T : List (Int × Bool))] b) [rowE 3 vlk (Tk : List Int), rowE 3 vwk (Wk : List Int), bE gt #[vC, vlk, vwk, (Value.map (some mr))] 80, mapE mr (marks Tk : List (Int × Bool)), rdE u19 (nth C ((fi).toNat)), rdE vC C] H21 from ((((hS22.front 5 rfl).front 5 rfl).front 5 rfl).front 5 rfl)) (sk (sk (sk (sk (sk (sk (List.Sublist.slnil))))))))
  refine lo rfl ?_
  refine e_call rfl Try.call58 (arr3 (v0 := PT gt 0) (v1 := I ((stateL Tk (nth C ((fi).toNat))).2)) (v2 := I (fi)) rfl rfl rfl) (Add_T _ gt mr vC vlk vwk Tk Wk ((stateL Tk (nth C ((fi).toNat))).2) fi (St.give (A := [rowE 3 vlk (Tk : List Int), rowE 3 vwk (Wk : List Int), bE gt #[vC, vlk, vwk, (Value.map (some mr))] 80, mapE mr (marks Tk : List (Int × Bool))]) (L := [rdE u19 (nth C ((fi).toNat)), rdE vC C]) hS24) (by omega) (by omega) (by first | assumption | (constructor <;> omega)) (by first | assumption | (constructor <;> omega))) ?_
  rintro _ H27 ⟨hxx, r25, r26, rfl, hgo⟩
  have hS28 : St H0 (own [rowE 3 vl (T : List Int), rowE 3 vw (W : List Int), bE gt #[vC, vl, vw, (Value.map (some mr))] 80, mapE mr (marks T : List (Int × Bool))]) (fun b => S b ∧ ¬ own [rowE 3 vl (T : List Int), rowE 3 vw (W : List Int), bE gt #[vC, vl, vw, (Value.map (some mr))] 80, mapE mr (marks T : List (Int × Bool))] b) [rowE 3 r25 (Tk ++ [((stateL Tk (nth C ((fi).toNat))).2)] : List Int), rowE 3 r26 (Wk ++ [fi] : List Int), bE gt #[vC, r25, r26, (Value.map (some mr))] 80, mapE mr (marks (Tk ++ [((stateL Tk (nth C ((fi).toNat))).2)]) : List (Int × Bool)), rdE u19 (nth C ((fi).toNat)), rdE vC C] H27 := St.back3 (A := [rowE 3 vlk (Tk : List Int), rowE 3 vwk (Wk : List Int), bE gt #[vC, vlk, vwk, (Value.map (some mr))] 80, mapE mr (marks Tk : List (Int × Bool))]) (A' := [rowE 3 r25 (Tk ++ [((stateL Tk (nth C ((fi).toNat))).2)] : List Int), rowE 3 r26 (Wk ++ [fi] : List Int), bE gt #[vC, r25, r26, (Value.map (some mr))] 80, mapE mr (marks (Tk ++ [((stateL Tk (nth C ((fi).toNat))).2)]) : List (Int × Bool))]) (L := [rdE u19 (nth C ((fi).toNat)), rdE vC C]) hS24 hxx hgo
  refine wpL_nil ?_
  refine ⟨_, ?_, m, Tk ++ [((stateL Tk (nth C ((fi).toNat))).2)], Wk ++ [fi], r25, r26, rfl, hm2, (by simp only [List.length_append, List.length_singleton]; omega), (by simp only [List.length_append, List.length_singleton]; omega), y0, (show St H0 (own [rowE 3 vl (T : List Int), rowE 3 vw (W : List Int), bE gt #[vC, vl, vw, (Value.map (some mr))] 80, mapE mr (marks T : List (Int × Bool))]) (fun b => S b ∧ ¬ own [rowE 3 vl (T : List Int), rowE 3 vw (W : List Int), bE gt #[vC, vl, vw, (Value.map (some mr))] 80, mapE mr (marks T : List (Int × Bool))] b) [rdE vC C, rowE 3 r25 ((Tk ++ [((stateL Tk (nth C ((fi).toNat))).2)]) : List Int), rowE 3 r26 ((Wk ++ [fi]) : List Int), bE gt #[vC, r25, r26, (Value.map (some mr))] 80, mapE mr (marks (Tk ++ [((stateL Tk (nth C ((fi).toNat))).2)]) : List (Int × Bool))] H27 from (St.drop (show St H0 (own [rowE 3 vl (T : List Int), rowE 3 vw (W : List Int), bE gt #[vC, vl, vw, (Value.map (some mr))] 80, mapE mr (marks T : List (Int × Bool))]) (fun b => S b ∧ ¬ own [rowE 3 vl (T : List Int), rowE 3 vw (W : List Int), bE gt #[vC, vl, vw, (Value.map (some mr))] 80, mapE mr (marks T : List (Int × Bool))] b) [rdE vC C, rowE 3 r25 (Tk ++ [((stateL Tk (nth C ((fi).toNat))).2)] : List Int), rowE 3 r26 (Wk ++ [fi] : List Int), bE gt #[vC, r25, r26, (Value.map (some mr))] 80, mapE mr (marks (Tk ++ [((stateL Tk (nth C ((fi).toNat))).2)]) : List (Int × Bool)), rdE u19 (nth C ((fi).toNat))] H27 from (hS28.front 5 rfl)) (sk (sk (sk (sk (sk (sn (List.Sublist.slnil)))))))))⟩
  omega
 refine wpF_skip ?_
 refine wpF_seq ?_
 refine wpF_block ?_
 refine wpF_seq ?_
 obtain ⟨u4, huu4, hlu4⟩ := (Rd.list.1 (hS2.rdS 0 rfl)).elem k (by omega)
 have hS5 := hS2.rd huu4
 refine wpF_region ?_
 refine lm (v := I ((k : Int))) rfl rfl y15 ?_
 refine lq rfl (q_indexRd (k := k) rfl Try.underlying24 el_LInt_22_CardC4 y13 y15 (hS2.rdl 0 rfl) (by omega) (by omega)) ?_
 refine lq rfl (q_loadE rfl rfl (hlu4 Try.prog 22 _ el_LInt_22_CardC4 (fun _ h => False.elim h))) ?_
 refine la (v := I ((k : Int))) rfl rfl rfl ?_
 refine la (v := u4) rfl rfl rfl ?_
 refine wpL_nil ?_
 refine wpF_seq ?_
 refine wpF_region ?_
 refine lm (v := PT gt 0) rfl rfl y0 ?_
 refine lm (v := u4) rfl rfl rfl ?_
 refine lo rfl ?_
 refine e_call rfl Try.call74 (arr2 (v0 := PT gt 0) (v1 := u4) rfl rfl) (state_T gt mr vC vlk vwk u4 Tk (nth C k) (hS5.blk 4 rfl) (MapOk.no (hS5.get 5 rfl)) (hS5.rdN 0 rfl) (hC _ (nth_mem (by omega)))) ?_
 rintro _ H6 ⟨hxx, rfl⟩
 have hS7 := hS5.ext hxx
 refine lm (v := Value.tuple #[B ((stateL Tk (nth C k)).1), I ((stateL Tk (nth C k)).2)]) rfl rfl rfl ?_
 refine lq rfl (q_extract (vs := #[B ((stateL Tk (nth C k)).1), I ((stateL Tk (nth C k)).2)]) (v := B ((stateL Tk (nth C k)).1)) rfl rfl rfl) ?_
 refine lq rfl (q_extract (vs := #[B ((stateL Tk (nth C k)).1), I ((stateL Tk (nth C k)).2)]) (v := I ((stateL Tk (nth C k)).2)) rfl rfl rfl) ?_
 refine la (v := B ((stateL Tk (nth C k)).1)) rfl rfl rfl ?_
 refine la (v := I ((stateL Tk (nth C k)).2)) rfl rfl rfl ?_
 refine wpL_nil ?_
 refine wpF_seq ?_
 refine wpF_seq ?_
 refine wpF_region ?_
 refine lm (v := B ((stateL Tk (nth C k)).1)) rfl rfl rfl ?_
 refine wpL_nil ?_
 refine wpF_cond rfl (fun h26 => ?t17) (fun h26 => ?e17)
 case t17 =>
  refine wpF_seq ?_
  refine wpF_region ?_
  refine lm (v := I ((k : Int))) rfl rfl rfl ?_
  refine la (v := I ((k : Int))) rfl rfl rfl ?_
  refine wpL_nil ?_
  refine wpF_ret ?_
  refine ⟨_, resT rfl resN, hS7.frameM, ?_⟩
  show ∃ vl_ vw_, (I ((k : Int))) = I b ∧ Gone S [rowE 3 vl (T : List Int), rowE 3 vw (W : List Int), bE gt #[vC, vl, vw, (Value.map (some mr))] 80, mapE mr (marks T : List (Int × Bool))] [rowE 3 vl_ (T2 : List Int), rowE 3 vw_ (W2 : List Int), bE gt #[vC, vl_, vw_, (Value.map (some mr))] 80, mapE mr (marks T2 : List (Int × Bool))] H0 H6
  have hX := run_no hrk (hsc.symm.trans (scF_no (show k < C.length by omega) h26))
  simp only [Prod.mk.injEq] at hX
  obtain ⟨rfl, rfl, rfl⟩ : Tk = T2 ∧ Wk = W2 ∧ _ = b := ⟨hX.1.symm, hX.2.1.symm, hX.2.2.symm⟩
  have hL : St H0 (own [rowE 3 vl (T : List Int), rowE 3 vw (W : List Int), bE gt #[vC, vl, vw, (Value.map (some mr))] 80, mapE mr (marks T : List (Int × Bool))]) (fun b => S b ∧ ¬ own [rowE 3 vl (T : List Int), rowE 3 vw (W : List Int), bE gt #[vC, vl, vw, (Value.map (some mr))] 80, mapE mr (marks T : List (Int × Bool))] b) [rowE 3 vlk (Tk : List Int), rowE 3 vwk (Wk : List Int), bE gt #[vC, vlk, vwk, (Value.map (some mr))] 80, mapE mr (marks Tk : List (Int × Bool))] H6 := (hS7.drop (sn (sn (sk (sk (sk (sk (List.Sublist.slnil))))))))
  exact ⟨_, _, rfl, St.leave3 hL⟩
 have hsc2 := (scF_next (f := fi) (show k < C.length by omega) (by rw [h26]; exact Bool.false_ne_true)).symm.trans hsc
 refine wpF_skip ?_
 refine fcr (fun f H => f 0 = PT gt 0 ∧ f 3 = I (fi) ∧ f 4 = I ((k : Int)) ∧ f 13 = vC ∧ f 14 = I ((C.length : Int)) ∧ f 15 = I ((k : Int)) ∧ f 33 = B (decide ((((stateL Tk (nth C k)).2) ≠ 0) ∧ (fi < 0))) ∧ H6 = H) ?_ ?_
 ·refine lm (v := I ((stateL Tk (nth C k)).2)) rfl rfl rfl ?_
  refine lq rfl (q_neq rfl rfl rfl) ?_
  refine lm (v := B (decide (((stateL Tk (nth C k)).2) ≠ 0))) rfl rfl rfl ?_
  by_cases hg10 : ((stateL Tk (nth C k)).2) ≠ 0
  ·have hb11 := Eq.trans rfl (congrArg B (decide_eq_true hg10))
   refine gq rfl rfl rfl hb11 (q_move (v := I (fi)) rfl y3) ?_
   refine gq rfl rfl rfl hb11 (q_lss rfl rfl rfl) ?_
   refine lq rfl (q_pickT (v := B (decide (fi < 0))) rfl hb11 rfl) ?_
   exact ⟨y0, y3, rfl, y13, y14, y15, (Eq.trans rfl (congrArg B (decide_congr_of ((Iff.rfl).trans (((and_iff_right hg10).trans Iff.rfl)).symm)))), rfl⟩
  ·have hb12 := Eq.trans rfl (congrArg B (decide_eq_false hg10))
   refine wpL_gs rfl rfl rfl hb12 rfl ?_
   refine wpL_gs rfl rfl rfl hb12 rfl ?_
   refine lq rfl (q_pickF (v := B (false)) rfl hb12 rfl) ?_
   exact ⟨y0, y3, rfl, y13, y14, y15, (Eq.trans rfl (congrArg B ((decide_eq_false (fun h => hg10 h.1)).symm))), rfl⟩
 clear y0 y13 y14 y15 y3
 rintro f13 _ ⟨y0, y3, y4, y13, y14, y15, y33, rfl⟩
 refine wpF_cut (fun f H => f 0 = PT gt 0 ∧ f 3 = I (if (stateL Tk (nth C k)).2 ≠ 0 ∧ fi < 0 then (k : Int) else fi) ∧ f 13 = vC ∧ f 14 = I ((C.length : Int)) ∧ f 15 = I ((k : Int)) ∧ St H0 (own [rowE 3 vl (T : List Int), rowE 3 vw (W : List Int), bE gt #[vC, vl, vw, (Value.map (some mr))] 80, mapE mr (marks T : List (Int × Bool))]) (fun b => S b ∧ ¬ own [rowE 3 vl (T : List Int), rowE 3 vw (W : List Int), bE gt #[vC, vl, vw, (Value.map (some mr))] 80, mapE mr (marks T : List (Int × Bool))] b) [rdE u4 (nth C k), rdE vC C, rowE 3 vlk (Tk : List Int), rowE 3 vwk (Wk : List Int), bE gt #[vC, vlk, vwk, (Value.map (some mr))] 80, mapE mr (marks Tk : List (Int × Bool))] H) ?_ ?_
 ·refine wpF_condP y33 (fun h33 => ?t16) (fun h33 => ?e16)
  case e16 =>
   refine wpF_skip ?_
   exact ⟨y0, (Eq.trans y3 (congrArg I (if_neg h33).symm)), y13, y14, y15, hS7⟩
  refine wpF_region ?_
  refine lm (v := I ((k : Int))) rfl rfl y4 ?_
  refine la (v := I ((k : Int))) rfl rfl rfl ?_
  refine wpL_nil ?_
  exact ⟨y0, (Eq.trans rfl (congrArg I (if_pos h33).symm)), y13, y14, y15, hS7⟩
 clear y0 y13 y14 y15 y3 y33 y4
 rintro f14 H14 ⟨y0, y3, y13, y14, y15, hS14⟩
 refine wpF_region ?_
 refine lq rfl (q_add rfl y15 rfl (by constructor <;> omega)) ?_
 refine lm (v := I ((k : Int) + 1)) rfl rfl rfl ?_
 refine wpL_nil ?_
 refine ⟨_, ?_, k + 1, if (stateL Tk (nth C k)).2 ≠ 0 ∧ fi < 0 then (k : Int) else fi, rfl, (by omega), hsc2, y0, (Eq.trans y3 (congrArg I (by omega))), y13, y14, (Eq.trans rfl (congrArg I (by omega))), (hS14.drop (sn (sk (sk (sk (sk (sk (List.Sublist.slnil))))))))⟩
 omega
end Go.Um
