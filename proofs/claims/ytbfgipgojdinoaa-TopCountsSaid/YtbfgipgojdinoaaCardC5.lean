import Derived.Test.YtbfgipgojdinoaaProg
import Derived.Test.YtbfgipgojdinoaaCardC4
import Derived.Test.YtbfgipgojdinoaaUmTopCountsC
namespace Go.Um
open Go.Proofs
open GoT (sz ag rdc)
open KeyT (kv)
theorem el_Int_3_CardC5 : ElT Try.prog Int 3 := ⟨Try.isAgg3, Try.sizeOf3⟩
theorem em_Int_3_CardC5 : ElemOk Try.prog Int 3 := ⟨Try.t3, (.int .i64 0), by kernel_rfl, by kernel_rfl, by kernel_rfl, by kernel_rfl, by kernel_rfl⟩
set_option maxHeartbeats 4000000 in
set_option maxRecDepth 100000 in
theorem propagate_S {H0 : Heap} (S : Nat → Prop) (gs gt mr : Nat) (vC vl vw vA vv vz : Value) (V : Nat) (ph : Bool) (lv : Int) (Lv : List Int) (C : List (List Int)) (T W T2 W2 : List Int) (n : Nat) (b : Int) (hg : Given S [rowE 3 vl (T : List Int), rowE 3 vw (W : List Int), bE gt #[vC, vl, vw, (Value.map (some mr))] 80, mapE mr (marks T : List (Int × Bool)), rowE 3 vv (Lv : List Int), bE gs #[I ((V : Int)), vA, B (ph), PT gt 0, vv, I (lv), vz] 68] H0) (rC : Rd S H0 vC C) (hC : ∀ c ∈ C, litsIn c) (hr : runF C n T W = some (T2, W2, b)) (hTl : T.length + n ≤ 900) (hWl : W.length + n ≤ 900) (hlv : 0 ≤ lv ∧ lv ≤ 900) (hLl : Lv.length ≤ 1000) : CallsH Try.prog 25 #[PT gs 0] H0 (fun rv_ H' => Ext (own [rowE 3 vl (T : List Int), rowE 3 vw (W : List Int), bE gt #[vC, vl, vw, (Value.map (some mr))] 80, mapE mr (marks T : List (Int × Bool)), rowE 3 vv (Lv : List Int), bE gs #[I ((V : Int)), vA, B (ph), PT gt 0, vv, I (lv), vz] 68]) H0 H' ∧ ∃ vl_ vw_ vv_ Lv_, rv_ = I b ∧ (Lv_.length ≤ Lv.length ∨ Lv_.length ≤ T2.length) ∧ Gone S [rowE 3 vl (T : List Int), rowE 3 vw (W : List Int), bE gt #[vC, vl, vw, (Value.map (some mr))] 80, mapE mr (marks T : List (Int × Bool)), rowE 3 vv (Lv : List Int), bE gs #[I ((V : Int)), vA, B (ph), PT gt 0, vv, I (lv), vz] 68] [rowE 3 vl_ (T2 : List Int), rowE 3 vw_ (W2 : List Int), bE gt #[vC, vl_, vw_, (Value.map (some mr))] 80, mapE mr (marks T2 : List (Int × Bool)), rowE 3 vv_ (Lv_ : List Int), bE gs #[I ((V : Int)), vA, B (ph), PT gt 0, vv_, I (lv), vz] 68] H0 H') := by
 have hS0 : St H0 (own [rowE 3 vl (T : List Int), rowE 3 vw (W : List Int), bE gt #[vC, vl, vw, (Value.map (some mr))] 80, mapE mr (marks T : List (Int × Bool)), rowE 3 vv (Lv : List Int), bE gs #[I ((V : Int)), vA, B (ph), PT gt 0, vv, I (lv), vz] 68]) (fun b => S b ∧ ¬ own [rowE 3 vl (T : List Int), rowE 3 vw (W : List Int), bE gt #[vC, vl, vw, (Value.map (some mr))] 80, mapE mr (marks T : List (Int × Bool)), rowE 3 vv (Lv : List Int), bE gs #[I ((V : Int)), vA, B (ph), PT gt 0, vv, I (lv), vz] 68] b) [rdE vC C, rowE 3 vl (T : List Int), rowE 3 vw (W : List Int), bE gt #[vC, vl, vw, (Value.map (some mr))] 80, mapE mr (marks T : List (Int × Bool)), rowE 3 vv (Lv : List Int), bE gs #[I ((V : Int)), vA, B (ph), PT gt 0, vv, I (lv), vz] 68] H0 := (hg.st.rdG rC fun b hb => hg.sub hb)
 obtain ⟨hTz, hWz⟩ := run_len hr
 refine callsH_of_wpF (args := [PT gs 0]) (rs := [.tmp 2]) Try.func25 rfl Try.ntmps25 Try.results25 (by kernel_rfl) (Nat.le_of_ble_eq_true rfl) ?_
 have y0 : argF [PT gs 0] 0 = PT gs 0 := rfl
 generalize argF [PT gs 0] = f0 at *
 refine wpF_seq ?_
 refine wpF_region ?_
 refine la (v := I (0)) rfl rfl rfl ?_
 refine wpL_nil ?_
 refine wpF_seq ?_
 refine wpF_region ?_
 refine lm (v := PT gs 0) rfl rfl y0 ?_
 refine lq rfl (q_nilCheck rfl rfl) ?_
 refine lq rfl (q_fieldAddr rfl Try.underlying68 rfl Try.sizeOf65 rfl) ?_
 refine lq rfl (q_loadBlk rfl rfl Try.isAgg65 (hS0.blk 6 rfl) rfl (fun h => h)) ?_
 have hS1 := (St.drop (show St H0 (own [rowE 3 vl (T : List Int), rowE 3 vw (W : List Int), bE gt #[vC, vl, vw, (Value.map (some mr))] 80, mapE mr (marks T : List (Int × Bool)), rowE 3 vv (Lv : List Int), bE gs #[I ((V : Int)), vA, B (ph), PT gt 0, vv, I (lv), vz] 68]) (fun b => S b ∧ ¬ own [rowE 3 vl (T : List Int), rowE 3 vw (W : List Int), bE gt #[vC, vl, vw, (Value.map (some mr))] 80, mapE mr (marks T : List (Int × Bool)), rowE 3 vv (Lv : List Int), bE gs #[I ((V : Int)), vA, B (ph), PT gt 0, vv, I (lv), vz] 68] b) [rowE 3 vl (T : List Int), rowE 3 vw (W : List Int), bE gt #[vC, vl, vw, (Value.map (some mr))] 80, mapE mr (marks T : List (Int × Bool)), rdE vC C, rowE 3 vv (Lv : List Int), bE gs #[I ((V : Int)), vA, B (ph), PT gt 0, vv, I (lv), vz] 68] H0 from ((((hS0.front 4 rfl).front 4 rfl).front 4 rfl).front 4 rfl)) (sk (sk (sk (sk (sk (sk (sk (List.Sublist.slnil)))))))))
 refine lo rfl ?_
 refine e_call rfl Try.call49 (arr1 (v0 := PT gt 0) rfl) (Run_T _ gt mr vC vl vw C T W T2 W2 n b (St.give (A := [rowE 3 vl (T : List Int), rowE 3 vw (W : List Int), bE gt #[vC, vl, vw, (Value.map (some mr))] 80, mapE mr (marks T : List (Int × Bool))]) (L := [rdE vC C, rowE 3 vv (Lv : List Int), bE gs #[I ((V : Int)), vA, B (ph), PT gt 0, vv, I (lv), vz] 68]) hS1) (hS1.rdS 4 rfl) hC hr hTl hWl) ?_
 rintro _ H4 ⟨hxx, r2, r3, rfl, hgo⟩
 have hS5 : St H0 (own [rowE 3 vl (T : List Int), rowE 3 vw (W : List Int), bE gt #[vC, vl, vw, (Value.map (some mr))] 80, mapE mr (marks T : List (Int × Bool)), rowE 3 vv (Lv : List Int), bE gs #[I ((V : Int)), vA, B (ph), PT gt 0, vv, I (lv), vz] 68]) (fun b => S b ∧ ¬ own [rowE 3 vl (T : List Int), rowE 3 vw (W : List Int), bE gt #[vC, vl, vw, (Value.map (some mr))] 80, mapE mr (marks T : List (Int × Bool)), rowE 3 vv (Lv : List Int), bE gs #[I ((V : Int)), vA, B (ph), PT gt 0, vv, I (lv), vz] 68] b) [rowE 3 r2 (T2 : List Int), rowE 3 r3 (W2 : List Int), bE gt #[vC, r2, r3, (Value.map (some mr))] 80, mapE mr (marks T2 : List (Int × Bool)), rdE vC C, rowE 3 vv (Lv : List Int), bE gs #[I ((V : Int)), vA, B (ph), PT gt 0, vv, I (lv), vz] 68] H4 := St.back3 (A := [rowE 3 vl (T : List Int), rowE 3 vw (W : List Int), bE gt #[vC, vl, vw, (Value.map (some mr))] 80, mapE mr (marks T : List (Int × Bool))]) (A' := [rowE 3 r2 (T2 : List Int), rowE 3 r3 (W2 : List Int), bE gt #[vC, r2, r3, (Value.map (some mr))] 80, mapE mr (marks T2 : List (Int × Bool))]) (L := [rdE vC C, rowE 3 vv (Lv : List Int), bE gs #[I ((V : Int)), vA, B (ph), PT gt 0, vv, I (lv), vz] 68]) hS1 hxx hgo
 refine la (v := I (b)) rfl rfl rfl ?_
 refine wpL_nil ?_
 refine wpF_seq ?_
 refine wpF_block ?_
 refine wpF_loop (fun mz f H => ∃ (Lk : List Int), ∃ (vvk : Value), mz = T2.length - Lk.length ∧ (Lk.length ≤ Lv.length ∨ Lk.length ≤ T2.length) ∧ f 0 = PT gs 0 ∧ f 3 = I (b) ∧ St H0 (own [rowE 3 vl (T : List Int), rowE 3 vw (W : List Int), bE gt #[vC, vl, vw, (Value.map (some mr))] 80, mapE mr (marks T : List (Int × Bool)), rowE 3 vv (Lv : List Int), bE gs #[I ((V : Int)), vA, B (ph), PT gt 0, vv, I (lv), vz] 68]) (fun b => S b ∧ ¬ own [rowE 3 vl (T : List Int), rowE 3 vw (W : List Int), bE gt #[vC, vl, vw, (Value.map (some mr))] 80, mapE mr (marks T : List (Int × Bool)), rowE 3 vv (Lv : List Int), bE gs #[I ((V : Int)), vA, B (ph), PT gt 0, vv, I (lv), vz] 68] b) [rdE vC C, rowE 3 r2 (T2 : List Int), rowE 3 r3 (W2 : List Int), bE gt #[vC, r2, r3, (Value.map (some mr))] 80, mapE mr (marks T2 : List (Int × Bool)), rowE 3 vvk (Lk : List Int), bE gs #[I ((V : Int)), vA, B (ph), PT gt 0, vvk, I (lv), vz] 68] H) (T2.length - Lv.length) ?_ ?_
 ·exact ⟨Lv, vv, rfl, (.inl (Nat.le_refl _)), y0, rfl, (St.drop (show St H0 (own [rowE 3 vl (T : List Int), rowE 3 vw (W : List Int), bE gt #[vC, vl, vw, (Value.map (some mr))] 80, mapE mr (marks T : List (Int × Bool)), rowE 3 vv (Lv : List Int), bE gs #[I ((V : Int)), vA, B (ph), PT gt 0, vv, I (lv), vz] 68]) (fun b => S b ∧ ¬ own [rowE 3 vl (T : List Int), rowE 3 vw (W : List Int), bE gt #[vC, vl, vw, (Value.map (some mr))] 80, mapE mr (marks T : List (Int × Bool)), rowE 3 vv (Lv : List Int), bE gs #[I ((V : Int)), vA, B (ph), PT gt 0, vv, I (lv), vz] 68] b) [rdE vC C, rowE 3 r2 (T2 : List Int), rowE 3 r3 (W2 : List Int), bE gt #[vC, r2, r3, (Value.map (some mr))] 80, mapE mr (marks T2 : List (Int × Bool)), rowE 3 vv (Lv : List Int), bE gs #[I ((V : Int)), vA, B (ph), PT gt 0, vv, I (lv), vz] 68] H4 from (hS5.front 4 rfl)) (sk (sk (sk (sk (sk (sk (sk (List.Sublist.slnil)))))))))⟩
 intro m7 f7 H7 hI7
 clear y0
 obtain ⟨Lk, vvk, hm7, hLk, y0, y3, hS7⟩ := hI7
 refine wpF_seq ?_
 refine wpF_seq ?_
 refine wpF_drawn [] [] (fun _ _ => False) (by kernel_rfl) (by kernel_rfl) ?_
 refine rq 0 (by kernel_rfl) rfl rfl (q_move (v := PT gs 0) rfl y0) ?_
 refine rq 1 (by kernel_rfl) rfl rfl (q_nilCheck rfl rfl) ?_
 refine rq 2 (by kernel_rfl) rfl rfl (q_fieldAddr rfl Try.underlying68 rfl Try.sizeOf22 rfl) ?_
 refine rq 3 (by kernel_rfl) rfl rfl (q_loadBlk rfl rfl Try.isAgg22 (hS7.blk 6 rfl) rfl (labU_not [] rfl (fe))) ?_
 refine rq 4 (by kernel_rfl) rfl rfl (q_lenRd rfl Try.underlying22 rfl (hS7.rowl 5 rfl)) ?_
 refine rq 5 (by kernel_rfl) rfl rfl (q_move (v := PT gs 0) rfl y0) ?_
 refine rq 6 (by kernel_rfl) rfl rfl (q_nilCheck rfl rfl) ?_
 refine rq 7 (by kernel_rfl) rfl rfl (q_fieldAddr rfl Try.underlying68 rfl Try.sizeOf65 rfl) ?_
 refine rq 8 (by kernel_rfl) rfl rfl (q_loadBlk rfl rfl Try.isAgg65 (hS7.blk 6 rfl) rfl (labU_not [] rfl (fe))) ?_
 refine rq 9 (by kernel_rfl) rfl rfl (q_nilCheck rfl rfl) ?_
 refine rq 10 (by kernel_rfl) rfl rfl (q_fieldAddr rfl Try.underlying80 rfl Try.sizeOf22 rfl) ?_
 refine rq 11 (by kernel_rfl) rfl rfl (q_loadBlk rfl rfl Try.isAgg22 (hS7.blk 3 rfl) rfl (labU_not [] rfl (fe))) ?_
 refine rq 12 (by kernel_rfl) rfl rfl (q_lenRd rfl Try.underlying22 rfl (hS7.rowl 1 rfl)) ?_
 refine rq 13 (by kernel_rfl) rfl rfl (q_lss rfl rfl rfl) ?_
 refine wpR_end (by kernel_rfl) ?_
 skip
 refine wpF_condP rfl (fun hlt => ?t11) (fun hlt => ?e11)
 case e11 =>
  refine wpF_exit ?_
  refine atX_here ?_
  refine wpF_seq ?_
  refine wpF_region ?_
  refine lm (v := I (b)) rfl rfl y3 ?_
  refine la (v := I (b)) rfl rfl rfl ?_
  refine wpL_nil ?_
  refine wpF_ret ?_
  refine ⟨_, resT rfl resN, hS7.frameM, ?_⟩
  show ∃ vl_ vw_ vv_ Lv_, (I (b)) = I b ∧ (Lv_.length ≤ Lv.length ∨ Lv_.length ≤ T2.length) ∧ Gone S [rowE 3 vl (T : List Int), rowE 3 vw (W : List Int), bE gt #[vC, vl, vw, (Value.map (some mr))] 80, mapE mr (marks T : List (Int × Bool)), rowE 3 vv (Lv : List Int), bE gs #[I ((V : Int)), vA, B (ph), PT gt 0, vv, I (lv), vz] 68] [rowE 3 vl_ (T2 : List Int), rowE 3 vw_ (W2 : List Int), bE gt #[vC, vl_, vw_, (Value.map (some mr))] 80, mapE mr (marks T2 : List (Int × Bool)), rowE 3 vv_ (Lv_ : List Int), bE gs #[I ((V : Int)), vA, B (ph), PT gt 0, vv_, I (lv), vz] 68] H0 H7
  have hL : St H0 (own [rowE 3 vl (T : List Int), rowE 3 vw (W : List Int), bE gt #[vC, vl, vw, (Value.map (some mr))] 80, mapE mr (marks T : List (Int × Bool)), rowE 3 vv (Lv : List Int), bE gs #[I ((V : Int)), vA, B (ph), PT gt 0, vv, I (lv), vz] 68]) (fun b => S b ∧ ¬ own [rowE 3 vl (T : List Int), rowE 3 vw (W : List Int), bE gt #[vC, vl, vw, (Value.map (some mr))] 80, mapE mr (marks T : List (Int × Bool)), rowE 3 vv (Lv : List Int), bE gs #[I ((V : Int)), vA, B (ph), PT gt 0, vv, I (lv), vz] 68] b) [rowE 3 r2 (T2 : List Int), rowE 3 r3 (W2 : List Int), bE gt #[vC, r2, r3, (Value.map (some mr))] 80, mapE mr (marks T2 : List (Int × Bool)), rowE 3 vvk (Lk : List Int), bE gs #[I ((V : Int)), vA, B (ph), PT gt 0, vvk, I (lv), vz] 68] H7 := (hS7.drop (sn (sk (sk (sk (sk (sk (sk (List.Sublist.slnil)))))))))
  exact ⟨_, _, _, _, rfl, hLk, St.leave3 hL⟩
 have hll : (Lk ++ [lv]).length = Lk.length + 1 := by simp
 refine wpF_skip ?_
 refine wpF_block ?_
 refine wpF_drawn [none, none, none, none, none, none, none, none, none, none, some 0, none, none, some 1] [[0], [], [], [], [], [], [], [], [], [], [], [], [], []] (fun l b => match l with | 0 => rowB vvk b | 1 => True | _ => False) (by kernel_rfl) (by kernel_rfl) ?_
 refine rq 0 (by kernel_rfl) rfl rfl (q_move (v := PT gs 0) rfl y0) ?_
 refine rq 1 (by kernel_rfl) rfl rfl (q_move (v := PT gs 0) rfl y0) ?_
 refine rq 2 (by kernel_rfl) rfl rfl (q_nilCheck rfl rfl) ?_
 refine rq 3 (by kernel_rfl) rfl rfl (q_fieldAddr rfl Try.underlying68 rfl Try.sizeOf22 rfl) ?_
 refine rq 4 (by kernel_rfl) rfl rfl (q_loadBlk rfl rfl Try.isAgg22 (hS7.blk 6 rfl) rfl (labU_not [] rfl (fe))) ?_
 refine rq 5 (by kernel_rfl) rfl rfl (q_move (v := PT gs 0) rfl y0) ?_
 refine rq 6 (by kernel_rfl) rfl rfl (q_nilCheck rfl rfl) ?_
 refine rq 7 (by kernel_rfl) rfl rfl (q_fieldAddr rfl Try.underlying68 rfl Try.sizeOf3 rfl) ?_
 refine rq 8 (by kernel_rfl) rfl rfl (q_loadBlk rfl rfl Try.isAgg3 (hS7.blk 6 rfl) rfl (labU_not [] rfl (fe))) ?_
 refine wpR_n [9] (by kernel_rfl) ?_
 refine fa ?_ fe
 refine exE rfl rfl ?_
 refine e_buildSlice (vs := [I (lv)]) (xs := ([lv] : List Int)) rfl Try.underlying22 Try.zeroValue3 rfl Try.sizeOf3 (par1 (v0 := I (lv)) rfl) rfl hS7 (RdVs.cons (Rd.int.2 ⟨rfl, by first | assumption | (constructor <;> omega)⟩) (RdVs.nil)) (by decide) (by decide) (fun v10o9 H10o9 hS10o9 hxx hvv10o9 => ?_)
 refine ⟨Ext.mono hxx (fun _ h => h.elim), ?_⟩
 refine wpR_n [10] (by kernel_rfl) ?_
 refine fa ?_ fe
 have hS10o10 : St H0 (own [rowE 3 vl (T : List Int), rowE 3 vw (W : List Int), bE gt #[vC, vl, vw, (Value.map (some mr))] 80, mapE mr (marks T : List (Int × Bool)), rowE 3 vv (Lv : List Int), bE gs #[I ((V : Int)), vA, B (ph), PT gt 0, vv, I (lv), vz] 68]) (fun b => S b ∧ ¬ own [rowE 3 vl (T : List Int), rowE 3 vw (W : List Int), bE gt #[vC, vl, vw, (Value.map (some mr))] 80, mapE mr (marks T : List (Int × Bool)), rowE 3 vv (Lv : List Int), bE gs #[I ((V : Int)), vA, B (ph), PT gt 0, vv, I (lv), vz] 68] b) [rdE v10o9 ([lv] : List Int), rdE vC C, rowE 3 r2 (T2 : List Int), rowE 3 r3 (W2 : List Int), bE gt #[vC, r2, r3, (Value.map (some mr))] 80, mapE mr (marks T2 : List (Int × Bool)), rowE 3 vvk (Lk : List Int), bE gs #[I ((V : Int)), vA, B (ph), PT gt 0, vvk, I (lv), vz] 68] H10o9 := St.fin hS10o9
 have hS10o10x2 := (hS10o10.front 6 rfl)
 refine exE rfl rfl ?_
 refine e_append rfl Try.underlying22 em_Int_3_CardC5 rfl rfl hS10o10x2 (hS10o10x2.rdS 1 rfl) (fun _ h => h) (by have hb : GoT.bytes Int = 8 := rfl; simp [hb]; omega) (by decide) (fun v10o10 H10o10 hS10o10x3 hxx => ?_)
 refine ⟨Ext.mono hxx (labS_of 0 rfl (fun b hb => hb)), ?_⟩
 refine rq 11 (by kernel_rfl) rfl rfl (q_nilCheck rfl rfl) ?_
 refine rq 12 (by kernel_rfl) rfl rfl (q_fieldAddr rfl Try.underlying68 rfl Try.sizeOf22 rfl) ?_
 refine wpR_n [13] (by kernel_rfl) ?_
 refine fa ?_ fe
 refine exE rfl rfl ?_
 refine e_storeBlk (v := v10o10) rfl rfl rfl (oneCell_rdL (hS10o10x3.rowl 0 rfl)) Try.sizeOf22 (by show _ < 7; decide) (hS10o10x3.front 7 rfl) (fun H10o13 hS10o13 hxx => ?_)
 refine ⟨Ext.mono hxx (labS_of 1 rfl (fun _ _ => trivial)), ?_⟩
 refine wpR_end (by kernel_rfl) ?_
 skip
 refine ⟨_, ?_, Lk ++ ([lv]), v10o10, rfl, (by simp only [List.length_append, List.length_singleton]; omega), y0, y3, (show St H0 (own [rowE 3 vl (T : List Int), rowE 3 vw (W : List Int), bE gt #[vC, vl, vw, (Value.map (some mr))] 80, mapE mr (marks T : List (Int × Bool)), rowE 3 vv (Lv : List Int), bE gs #[I ((V : Int)), vA, B (ph), PT gt 0, vv, I (lv), vz] 68]) (fun b => S b ∧ ¬ own [rowE 3 vl (T : List Int), rowE 3 vw (W : List Int), bE gt #[vC, vl, vw, (Value.map (some mr))] 80, mapE mr (marks T : List (Int × Bool)), rowE 3 vv (Lv : List Int), bE gs #[I ((V : Int)), vA, B (ph), PT gt 0, vv, I (lv), vz] 68] b) [rdE vC C, rowE 3 r2 (T2 : List Int), rowE 3 r3 (W2 : List Int), bE gt #[vC, r2, r3, (Value.map (some mr))] 80, mapE mr (marks T2 : List (Int × Bool)), rowE 3 v10o10 ((Lk ++ ([lv])) : List Int), bE gs #[I ((V : Int)), vA, B (ph), PT gt 0, v10o10, I (lv), vz] 68] H10o13 from (St.drop (show St H0 (own [rowE 3 vl (T : List Int), rowE 3 vw (W : List Int), bE gt #[vC, vl, vw, (Value.map (some mr))] 80, mapE mr (marks T : List (Int × Bool)), rowE 3 vv (Lv : List Int), bE gs #[I ((V : Int)), vA, B (ph), PT gt 0, vv, I (lv), vz] 68]) (fun b => S b ∧ ¬ own [rowE 3 vl (T : List Int), rowE 3 vw (W : List Int), bE gt #[vC, vl, vw, (Value.map (some mr))] 80, mapE mr (marks T : List (Int × Bool)), rowE 3 vv (Lv : List Int), bE gs #[I ((V : Int)), vA, B (ph), PT gt 0, vv, I (lv), vz] 68] b) [rdE vC C, rowE 3 r2 (T2 : List Int), rowE 3 r3 (W2 : List Int), bE gt #[vC, r2, r3, (Value.map (some mr))] 80, mapE mr (marks T2 : List (Int × Bool)), rowE 3 v10o10 (Lk ++ ([lv]) : List Int), bE gs #[I ((V : Int)), vA, B (ph), PT gt 0, v10o10, I (lv), vz] 68, rdE v10o9 ([lv] : List Int)] H10o13 from ((((((hS10o13.front 1 rfl).front 7 rfl).front 7 rfl).front 7 rfl).front 7 rfl).front 7 rfl)) (sk (sk (sk (sk (sk (sk (sk (sn (List.Sublist.slnil)))))))))))⟩
 omega
set_option maxHeartbeats 8000000 in
set_option maxRecDepth 100000 in
theorem decide_S {H0 : Heap} (S : Nat → Prop) (gs gt mr : Nat) (vC vl vw vA vv vz : Value) (V : Nat) (ph : Bool) (lv : Int) (A T W Lv : List Int) (hg : Given S [rowE 3 vl (T : List Int), rowE 3 vw (W : List Int), bE gt #[vC, vl, vw, (Value.map (some mr))] 80, mapE mr (marks T : List (Int × Bool)), rowE 3 vv (Lv : List Int), bE gs #[I ((V : Int)), vA, B (ph), PT gt 0, vv, I (lv), vz] 68] H0) (rA : Rd S H0 vA A) (hA : litsOk V A) (hV : V ≤ 120) (hT : T.length ≤ 900) (hW : W.length ≤ 900) (hL : Lv.length ≤ 1000) (hlv : 0 ≤ lv ∧ lv ≤ 900) : CallsH Try.prog 30 #[PT gs 0] H0 (fun rv_ H' => Ext (own [rowE 3 vl (T : List Int), rowE 3 vw (W : List Int), bE gt #[vC, vl, vw, (Value.map (some mr))] 80, mapE mr (marks T : List (Int × Bool)), rowE 3 vv (Lv : List Int), bE gs #[I ((V : Int)), vA, B (ph), PT gt 0, vv, I (lv), vz] 68]) H0 H' ∧ ∃ vl_ vw_ vv_, rv_ = Value.tuple #[B (decide ((askF T A 0).1 = 0 ∧ decN T A ph V = 0)), I (askF T A 0).1] ∧ Gone S [rowE 3 vl (T : List Int), rowE 3 vw (W : List Int), bE gt #[vC, vl, vw, (Value.map (some mr))] 80, mapE mr (marks T : List (Int × Bool)), rowE 3 vv (Lv : List Int), bE gs #[I ((V : Int)), vA, B (ph), PT gt 0, vv, I (lv), vz] 68] [rowE 3 vl_ (decT T A ph V T (decN T A ph V) : List Int), rowE 3 vw_ (decT T A ph V W (-1) : List Int), bE gt #[vC, vl_, vw_, (Value.map (some mr))] 80, mapE mr (marks (decT T A ph V T (decN T A ph V)) : List (Int × Bool)), rowE 3 vv_ (decT T A ph V Lv (lv + 1) : List Int), bE gs #[I ((V : Int)), vA, B (ph), PT gt 0, vv_, I (decL T A ph V lv), vz] 68] H0 H') := by
 have hS0 : St H0 (own [rowE 3 vl (T : List Int), rowE 3 vw (W : List Int), bE gt #[vC, vl, vw, (Value.map (some mr))] 80, mapE mr (marks T : List (Int × Bool)), rowE 3 vv (Lv : List Int), bE gs #[I ((V : Int)), vA, B (ph), PT gt 0, vv, I (lv), vz] 68]) (fun b => S b ∧ ¬ own [rowE 3 vl (T : List Int), rowE 3 vw (W : List Int), bE gt #[vC, vl, vw, (Value.map (some mr))] 80, mapE mr (marks T : List (Int × Bool)), rowE 3 vv (Lv : List Int), bE gs #[I ((V : Int)), vA, B (ph), PT gt 0, vv, I (lv), vz] 68] b) [rdE vA A, rowE 3 vl (T : List Int), rowE 3 vw (W : List Int), bE gt #[vC, vl, vw, (Value.map (some mr))] 80, mapE mr (marks T : List (Int × Bool)), rowE 3 vv (Lv : List Int), bE gs #[I ((V : Int)), vA, B (ph), PT gt 0, vv, I (lv), vz] 68] H0 := (hg.st.rdG rA fun b hb => hg.sub hb)
 have hsm := (Rd.list.1 rA).small
 have hAi : litsIn A := fun i hi => lit_in hA (by omega) hi
 refine callsH_of_wpF (args := [PT gs 0]) (rs := [.tmp 2, .tmp 3]) Try.func30 rfl Try.ntmps30 Try.results30 (by kernel_rfl) (Nat.le_of_ble_eq_true rfl) ?_
 have y0 : argF [PT gs 0] 0 = PT gs 0 := rfl
 generalize argF [PT gs 0] = f0 at *
 refine wpF_seq ?_
 refine wpF_region ?_
 refine la (v := B (false)) rfl rfl rfl ?_
 refine la (v := I (0)) rfl rfl rfl ?_
 refine wpL_nil ?_
 refine wpF_seq ?_
 refine wpF_region ?_
 refine la (v := I (0)) rfl rfl rfl ?_
 refine wpL_nil ?_
 refine wpF_seq ?_
 refine wpF_seq ?_
 refine wpF_region ?_
 refine lm (v := PT gs 0) rfl rfl y0 ?_
 refine lq rfl (q_nilCheck rfl rfl) ?_
 refine lq rfl (q_fieldAddr rfl Try.underlying68 rfl Try.sizeOf22 rfl) ?_
 refine lq rfl (q_loadBlk rfl rfl Try.isAgg22 (hS0.blk 6 rfl) rfl (fun h => h)) ?_
 refine lq rfl (q_lenRd rfl Try.underlying22 rfl (hS0.rdl 0 rfl)) ?_
 refine lm (v := I (0)) rfl rfl rfl ?_
 refine wpL_nil ?_
 refine wpF_block ?_
 refine wpF_loop (fun mz f H => ∃ (i : Nat), ∃ (nx : Int), mz = A.length - i ∧ (i ≤ A.length) ∧ (-120 ≤ nx ∧ nx ≤ 120) ∧ (askF T (A.drop i) nx = askF T A 0) ∧ f 0 = PT gs 0 ∧ f 4 = I (nx) ∧ f 11 = vA ∧ f 12 = I ((A.length : Int)) ∧ f 13 = I ((i : Int)) ∧ St H0 (own [rowE 3 vl (T : List Int), rowE 3 vw (W : List Int), bE gt #[vC, vl, vw, (Value.map (some mr))] 80, mapE mr (marks T : List (Int × Bool)), rowE 3 vv (Lv : List Int), bE gs #[I ((V : Int)), vA, B (ph), PT gt 0, vv, I (lv), vz] 68]) (fun b => S b ∧ ¬ own [rowE 3 vl (T : List Int), rowE 3 vw (W : List Int), bE gt #[vC, vl, vw, (Value.map (some mr))] 80, mapE mr (marks T : List (Int × Bool)), rowE 3 vv (Lv : List Int), bE gs #[I ((V : Int)), vA, B (ph), PT gt 0, vv, I (lv), vz] 68] b) [rdE vA A, rowE 3 vl (T : List Int), rowE 3 vw (W : List Int), bE gt #[vC, vl, vw, (Value.map (some mr))] 80, mapE mr (marks T : List (Int × Bool)), rowE 3 vv (Lv : List Int), bE gs #[I ((V : Int)), vA, B (ph), PT gt 0, vv, I (lv), vz] 68] H) (A.length - 0) ?_ ?_
 ·exact ⟨0, 0, rfl, Nat.zero_le _, (by decide), rfl, y0, rfl, rfl, rfl, (Eq.trans rfl (congrArg I (by omega))), hS0⟩
 intro m1 f1 H1 hI1
 clear y0
 obtain ⟨i, nx, hm1, hi, hnx, hq, y0, y4, y11, y12, y13, hS1⟩ := hI1
 refine wpF_seq ?_
 refine wpF_region ?_
 refine lq rfl (q_lss rfl y13 y12) ?_
 refine wpL_nil ?_
 refine wpF_seq ?_
 refine wpF_condP rfl (fun hlt => ?t51) (fun hlt => ?e51)
 case t51 =>
  obtain ⟨hai1, hai2⟩ := hAi i (by omega)
  obtain ⟨ha1, _⟩ := hA i (by omega)
  refine wpF_skip ?_
  refine wpF_seq ?_
  refine wpF_block ?_
  refine wpF_seq ?_
  refine wpF_region ?_
  refine lq rfl (q_indexRd (k := i) rfl Try.underlying22 el_Int_3_CardC5 y11 y13 (hS1.rdl 0 rfl) (by omega) (by omega)) ?_
  refine lq rfl (q_loadInt (k := i) rfl rfl el_Int_3_CardC5 (hS1.rdl 0 rfl) (by omega) (fun _ h => h)) ?_
  refine la (v := I (nth A i)) rfl rfl rfl ?_
  refine wpL_nil ?_
  refine wpF_seq ?_
  refine wpF_seq ?_
  refine wpF_region ?_
  refine lm (v := PT gs 0) rfl rfl y0 ?_
  refine lq rfl (q_nilCheck rfl rfl) ?_
  refine lq rfl (q_fieldAddr rfl Try.underlying68 rfl Try.sizeOf65 rfl) ?_
  refine lq rfl (q_loadBlk rfl rfl Try.isAgg65 (hS1.blk 6 rfl) rfl (fun h => h)) ?_
  refine lm (v := I (nth A i)) rfl rfl rfl ?_
  refine lq rfl (q_neg rfl rfl (by constructor <;> omega)) ?_
  refine lo rfl ?_
  refine e_call rfl Try.call59 (arr2 (v0 := PT gt 0) (v1 := I (-(nth A i))) rfl rfl) (Has_T gt mr vC vl vw T (-(nth A i)) (hS1.blk 3 rfl) (MapOk.no (hS1.get 4 rfl))) ?_
  rintro _ H3 ⟨hxx, rfl⟩
  have hS4 := hS1.ext hxx
  refine wpL_nil ?_
  refine wpF_condP rfl (fun h23 => ?t17) (fun h23 => ?e17)
  case t17 =>
   have hq2 := (ask_no (nx := nx) (show i < A.length by omega) h23).symm.trans hq
   refine wpF_seq ?_
   refine wpF_region ?_
   refine lm (v := I (nth A i)) rfl rfl rfl ?_
   refine la (v := B (false)) rfl rfl rfl ?_
   refine la (v := I (nth A i)) rfl rfl rfl ?_
   refine wpL_nil ?_
   refine wpF_ret ?_
   refine ⟨_, resT rfl (resT rfl resN), hS4.frameM, ?_⟩
   show ∃ vl_ vw_ vv_, (Value.tuple #[B (false), I (nth A i)]) = Value.tuple #[B (decide ((askF T A 0).1 = 0 ∧ decN T A ph V = 0)), I (askF T A 0).1] ∧ Gone S [rowE 3 vl (T : List Int), rowE 3 vw (W : List Int), bE gt #[vC, vl, vw, (Value.map (some mr))] 80, mapE mr (marks T : List (Int × Bool)), rowE 3 vv (Lv : List Int), bE gs #[I ((V : Int)), vA, B (ph), PT gt 0, vv, I (lv), vz] 68] [rowE 3 vl_ (decT T A ph V T (decN T A ph V) : List Int), rowE 3 vw_ (decT T A ph V W (-1) : List Int), bE gt #[vC, vl_, vw_, (Value.map (some mr))] 80, mapE mr (marks (decT T A ph V T (decN T A ph V)) : List (Int × Bool)), rowE 3 vv_ (decT T A ph V Lv (lv + 1) : List Int), bE gs #[I ((V : Int)), vA, B (ph), PT gt 0, vv_, I (decL T A ph V lv), vz] 68] H0 H3
   obtain ⟨hs_, hs1⟩ := dec_no (ph := ph) (V := V) hq2 ha1
   obtain ⟨e1, e2⟩ := dec_stay (lv := lv) hs_
   have hL : St H0 (own [rowE 3 vl (T : List Int), rowE 3 vw (W : List Int), bE gt #[vC, vl, vw, (Value.map (some mr))] 80, mapE mr (marks T : List (Int × Bool)), rowE 3 vv (Lv : List Int), bE gs #[I ((V : Int)), vA, B (ph), PT gt 0, vv, I (lv), vz] 68]) (fun b => S b ∧ ¬ own [rowE 3 vl (T : List Int), rowE 3 vw (W : List Int), bE gt #[vC, vl, vw, (Value.map (some mr))] 80, mapE mr (marks T : List (Int × Bool)), rowE 3 vv (Lv : List Int), bE gs #[I ((V : Int)), vA, B (ph), PT gt 0, vv, I (lv), vz] 68] b) [rowE 3 vl (T : List Int), rowE 3 vw (W : List Int), bE gt #[vC, vl, vw, (Value.map (some mr))] 80, mapE mr (marks T : List (Int × Bool)), rowE 3 vv (Lv : List Int), bE gs #[I ((V : Int)), vA, B (ph), PT gt 0, vv, I (lv), vz] 68] H3 := (hS4.drop (sn (sk (sk (sk (sk (sk (sk (List.Sublist.slnil)))))))))
   rw [e1, e1, e1, e2]
   exact ⟨_, _, _, by rw [hs1, decide_eq_false (fun h => ha1 h.1)], St.leave3 hL⟩
  have hq2 := (ask_next (nx := nx) (show i < A.length by omega) h23).symm.trans hq
  refine wpF_skip ?_
  refine fcr (fun f H => f 0 = PT gs 0 ∧ f 4 = I (nx) ∧ f 6 = I (nth A i) ∧ f 11 = vA ∧ f 12 = I ((A.length : Int)) ∧ f 13 = I ((i : Int)) ∧ f 35 = B (decide ((nx = 0) ∧ (¬ ((nth A i) ∈ T)))) ∧ St H0 (own [rowE 3 vl (T : List Int), rowE 3 vw (W : List Int), bE gt #[vC, vl, vw, (Value.map (some mr))] 80, mapE mr (marks T : List (Int × Bool)), rowE 3 vv (Lv : List Int), bE gs #[I ((V : Int)), vA, B (ph), PT gt 0, vv, I (lv), vz] 68]) (fun b => S b ∧ ¬ own [rowE 3 vl (T : List Int), rowE 3 vw (W : List Int), bE gt #[vC, vl, vw, (Value.map (some mr))] 80, mapE mr (marks T : List (Int × Bool)), rowE 3 vv (Lv : List Int), bE gs #[I ((V : Int)), vA, B (ph), PT gt 0, vv, I (lv), vz] 68] b) [rdE vA A, rowE 3 vl (T : List Int), rowE 3 vw (W : List Int), bE gt #[vC, vl, vw, (Value.map (some mr))] 80, mapE mr (marks T : List (Int × Bool)), rowE 3 vv (Lv : List Int), bE gs #[I ((V : Int)), vA, B (ph), PT gt 0, vv, I (lv), vz] 68] H) ?_ ?_
  ·refine lm (v := I (nx)) rfl rfl y4 ?_
   refine lq rfl (q_eql rfl rfl rfl) ?_
   refine lm (v := B (decide (nx = 0))) rfl rfl rfl ?_
   by_cases hg7 : nx = 0
   ·have hb8 := Eq.trans rfl (congrArg B (decide_eq_true hg7))
    refine gq rfl rfl rfl hb8 (q_move (v := PT gs 0) rfl y0) ?_
    refine gq rfl rfl rfl hb8 (q_nilCheck rfl rfl) ?_
    refine gq rfl rfl rfl hb8 (q_fieldAddr rfl Try.underlying68 rfl Try.sizeOf65 rfl) ?_
    refine gq rfl rfl rfl hb8 (q_loadBlk rfl rfl Try.isAgg65 (hS4.blk 6 rfl) rfl (fun h => h)) ?_
    refine gq rfl rfl rfl hb8 (q_move (v := I (nth A i)) rfl rfl) ?_
    refine wpL_go rfl rfl rfl hb8 ?_
    refine e_call rfl Try.call59 (arr2 (v0 := PT gt 0) (v1 := I (nth A i)) rfl rfl) (Has_T gt mr vC vl vw T (nth A i) (hS4.blk 3 rfl) (MapOk.no (hS4.get 4 rfl))) ?_
    rintro _ H10 ⟨hxx, rfl⟩
    have hS11 := hS4.ext hxx
    refine gq rfl rfl rfl hb8 (q_notP rfl rfl) ?_
    refine lq rfl (q_pickT (v := B (decide (¬ ((nth A i) ∈ T)))) rfl hb8 rfl) ?_
    exact ⟨y0, y4, rfl, y11, y12, y13, (Eq.trans rfl (congrArg B (decide_congr_of (((not_congr Iff.rfl)).trans (((and_iff_right hg7).trans (not_congr Iff.rfl))).symm)))), hS11⟩
   ·have hb9 := Eq.trans rfl (congrArg B (decide_eq_false hg7))
    refine wpL_gs rfl rfl rfl hb9 rfl ?_
    refine wpL_gs rfl rfl rfl hb9 rfl ?_
    refine wpL_gs rfl rfl rfl hb9 rfl ?_
    refine wpL_gs rfl rfl rfl hb9 rfl ?_
    refine wpL_gs rfl rfl rfl hb9 rfl ?_
    refine wpL_gs rfl rfl rfl hb9 rfl ?_
    refine wpL_gs rfl rfl rfl hb9 rfl ?_
    refine lq rfl (q_pickF (v := B (false)) rfl hb9 rfl) ?_
    exact ⟨y0, y4, rfl, y11, y12, y13, (Eq.trans rfl (congrArg B ((decide_eq_false (fun h => hg7 h.1)).symm))), hS4⟩
  clear y0 y11 y12 y13 y4
  rintro f13 H13 ⟨y0, y4, y6, y11, y12, y13, y35, hS13⟩
  refine wpF_cut (fun f H => f 0 = PT gs 0 ∧ f 4 = I (if nx = 0 ∧ nth A i ∉ T then nth A i else nx) ∧ f 11 = vA ∧ f 12 = I ((A.length : Int)) ∧ f 13 = I ((i : Int)) ∧ St H0 (own [rowE 3 vl (T : List Int), rowE 3 vw (W : List Int), bE gt #[vC, vl, vw, (Value.map (some mr))] 80, mapE mr (marks T : List (Int × Bool)), rowE 3 vv (Lv : List Int), bE gs #[I ((V : Int)), vA, B (ph), PT gt 0, vv, I (lv), vz] 68]) (fun b => S b ∧ ¬ own [rowE 3 vl (T : List Int), rowE 3 vw (W : List Int), bE gt #[vC, vl, vw, (Value.map (some mr))] 80, mapE mr (marks T : List (Int × Bool)), rowE 3 vv (Lv : List Int), bE gs #[I ((V : Int)), vA, B (ph), PT gt 0, vv, I (lv), vz] 68] b) [rdE vA A, rowE 3 vl (T : List Int), rowE 3 vw (W : List Int), bE gt #[vC, vl, vw, (Value.map (some mr))] 80, mapE mr (marks T : List (Int × Bool)), rowE 3 vv (Lv : List Int), bE gs #[I ((V : Int)), vA, B (ph), PT gt 0, vv, I (lv), vz] 68] H) ?_ ?_
  ·refine wpF_condP y35 (fun h35 => ?t16) (fun h35 => ?e16)
   case e16 =>
    refine wpF_skip ?_
    exact ⟨y0, (Eq.trans y4 (congrArg I (if_neg h35).symm)), y11, y12, y13, hS13⟩
   refine wpF_region ?_
   refine lm (v := I (nth A i)) rfl rfl y6 ?_
   refine la (v := I (nth A i)) rfl rfl rfl ?_
   refine wpL_nil ?_
   exact ⟨y0, (Eq.trans rfl (congrArg I (if_pos h35).symm)), y11, y12, y13, hS13⟩
  clear y0 y11 y12 y13 y35 y4 y6
  rintro f14 H14 ⟨y0, y4, y11, y12, y13, hS14⟩
  refine wpF_region ?_
  refine lq rfl (q_add rfl y13 rfl (by constructor <;> omega)) ?_
  refine lm (v := I ((i : Int) + 1)) rfl rfl rfl ?_
  refine wpL_nil ?_
  refine ⟨_, ?_, i + 1, if nx = 0 ∧ nth A i ∉ T then nth A i else nx, rfl, (by omega), (by split <;> omega), hq2, y0, (Eq.trans y4 (congrArg I (by omega))), y11, y12, (Eq.trans rfl (congrArg I (by omega))), hS14⟩
  omega
 have hqe : askF T A 0 = (0, nx) := ((ask_end (by omega)).symm.trans hq).symm
 refine wpF_exit ?_
 refine atX_here ?_
 refine wpF_seq ?_
 refine wpF_seq ?_
 refine wpF_region ?_
 refine la (v := I (1)) rfl rfl rfl ?_
 refine wpL_nil ?_
 refine wpF_block ?_
 refine wpF_loop (fun mz f H => ∃ (j : Nat), ∃ (v : Int), ∃ (ny : Int), mz = V - j ∧ (j ≤ V) ∧ (v = (j : Int) + 1) ∧ (-120 ≤ ny ∧ ny ≤ 120) ∧ (varF T ph (V - j) v ny = varF T ph V 1 nx) ∧ f 0 = PT gs 0 ∧ f 4 = I (ny) ∧ f 7 = I (v) ∧ St H0 (own [rowE 3 vl (T : List Int), rowE 3 vw (W : List Int), bE gt #[vC, vl, vw, (Value.map (some mr))] 80, mapE mr (marks T : List (Int × Bool)), rowE 3 vv (Lv : List Int), bE gs #[I ((V : Int)), vA, B (ph), PT gt 0, vv, I (lv), vz] 68]) (fun b => S b ∧ ¬ own [rowE 3 vl (T : List Int), rowE 3 vw (W : List Int), bE gt #[vC, vl, vw, (Value.map (some mr))] 80, mapE mr (marks T : List (Int × Bool)), rowE 3 vv (Lv : List Int), bE gs #[I ((V : Int)), vA, B (ph), PT gt 0, vv, I (lv), vz] 68] b) [rdE vA A, rowE 3 vl (T : List Int), rowE 3 vw (W : List Int), bE gt #[vC, vl, vw, (Value.map (some mr))] 80, mapE mr (marks T : List (Int × Bool)), rowE 3 vv (Lv : List Int), bE gs #[I ((V : Int)), vA, B (ph), PT gt 0, vv, I (lv), vz] 68] H) (V - 0) ?_ ?_
 ·exact ⟨0, 1, nx, rfl, Nat.zero_le _, rfl, hnx, rfl, y0, y4, rfl, hS1⟩
 intro m18 f18 H18 hI18
 clear y0 y4
 obtain ⟨j, v, ny, hm18, hj, hv, hny, hw, y0, y4, y7, hS18⟩ := hI18
 refine wpF_seq ?_
 refine fcr (fun f H => f 0 = PT gs 0 ∧ f 4 = I (ny) ∧ f 7 = I (v) ∧ f 47 = B (decide ((ny = 0) ∧ (v ≤ (V : Int)))) ∧ H18 = H) ?_ ?_
 ·refine lm (v := I (ny)) rfl rfl y4 ?_
  refine lq rfl (q_eql rfl rfl rfl) ?_
  refine lm (v := B (decide (ny = 0))) rfl rfl rfl ?_
  by_cases hg19 : ny = 0
  ·have hb20 := Eq.trans rfl (congrArg B (decide_eq_true hg19))
   refine gq rfl rfl rfl hb20 (q_move (v := I (v)) rfl y7) ?_
   refine gq rfl rfl rfl hb20 (q_move (v := PT gs 0) rfl y0) ?_
   refine gq rfl rfl rfl hb20 (q_nilCheck rfl rfl) ?_
   refine gq rfl rfl rfl hb20 (q_fieldAddr rfl Try.underlying68 rfl Try.sizeOf3 rfl) ?_
   refine gq rfl rfl rfl hb20 (q_loadBlk rfl rfl Try.isAgg3 (hS18.blk 6 rfl) rfl (fun h => h)) ?_
   refine gq rfl rfl rfl hb20 (q_leq rfl rfl rfl) ?_
   refine lq rfl (q_pickT (v := B (decide (v ≤ (V : Int)))) rfl hb20 rfl) ?_
   exact ⟨y0, y4, y7, (Eq.trans rfl (congrArg B (decide_congr_of ((Iff.rfl).trans (((and_iff_right hg19).trans Iff.rfl)).symm)))), rfl⟩
  ·have hb21 := Eq.trans rfl (congrArg B (decide_eq_false hg19))
   refine wpL_gs rfl rfl rfl hb21 rfl ?_
   refine wpL_gs rfl rfl rfl hb21 rfl ?_
   refine wpL_gs rfl rfl rfl hb21 rfl ?_
   refine wpL_gs rfl rfl rfl hb21 rfl ?_
   refine wpL_gs rfl rfl rfl hb21 rfl ?_
   refine wpL_gs rfl rfl rfl hb21 rfl ?_
   refine lq rfl (q_pickF (v := B (false)) rfl hb21 rfl) ?_
   exact ⟨y0, y4, y7, (Eq.trans rfl (congrArg B ((decide_eq_false (fun h => hg19 h.1)).symm))), rfl⟩
 clear y0 y4 y7
 rintro f22 _ ⟨y0, y4, y7, y47, rfl⟩
 refine wpF_condP y47 (fun h47 => ?t50) (fun h47 => ?e50)
 case t50 =>
  have hw2 := (var_next (ph := ph) (v := v) h47.1 (show 0 < V - j by omega)).symm.trans hw
  refine wpF_skip ?_
  refine wpF_seq ?_
  refine wpF_block ?_
  refine fcr (fun f H => f 0 = PT gs 0 ∧ f 4 = I (ny) ∧ f 7 = I (v) ∧ f 66 = B (decide ((¬ (v ∈ T)) ∧ (¬ ((-v) ∈ T)))) ∧ St H0 (own [rowE 3 vl (T : List Int), rowE 3 vw (W : List Int), bE gt #[vC, vl, vw, (Value.map (some mr))] 80, mapE mr (marks T : List (Int × Bool)), rowE 3 vv (Lv : List Int), bE gs #[I ((V : Int)), vA, B (ph), PT gt 0, vv, I (lv), vz] 68]) (fun b => S b ∧ ¬ own [rowE 3 vl (T : List Int), rowE 3 vw (W : List Int), bE gt #[vC, vl, vw, (Value.map (some mr))] 80, mapE mr (marks T : List (Int × Bool)), rowE 3 vv (Lv : List Int), bE gs #[I ((V : Int)), vA, B (ph), PT gt 0, vv, I (lv), vz] 68] b) [rdE vA A, rowE 3 vl (T : List Int), rowE 3 vw (W : List Int), bE gt #[vC, vl, vw, (Value.map (some mr))] 80, mapE mr (marks T : List (Int × Bool)), rowE 3 vv (Lv : List Int), bE gs #[I ((V : Int)), vA, B (ph), PT gt 0, vv, I (lv), vz] 68] H) ?_ ?_
  ·refine lm (v := PT gs 0) rfl rfl y0 ?_
   refine lq rfl (q_nilCheck rfl rfl) ?_
   refine lq rfl (q_fieldAddr rfl Try.underlying68 rfl Try.sizeOf65 rfl) ?_
   refine lq rfl (q_loadBlk rfl rfl Try.isAgg65 (hS18.blk 6 rfl) rfl (fun h => h)) ?_
   refine lm (v := I (v)) rfl rfl y7 ?_
   refine lo rfl ?_
   refine e_call rfl Try.call59 (arr2 (v0 := PT gt 0) (v1 := I (v)) rfl rfl) (Has_T gt mr vC vl vw T v (hS18.blk 3 rfl) (MapOk.no (hS18.get 4 rfl))) ?_
   rintro _ H24 ⟨hxx, rfl⟩
   have hS25 := hS18.ext hxx
   refine lq rfl (q_notP rfl rfl) ?_
   refine lm (v := B (decide (¬ (v ∈ T)))) rfl rfl rfl ?_
   by_cases hg27 : ¬ (v ∈ T)
   ·have hb28 := Eq.trans rfl (congrArg B (decide_eq_true hg27))
    refine gq rfl rfl rfl hb28 (q_move (v := PT gs 0) rfl y0) ?_
    refine gq rfl rfl rfl hb28 (q_nilCheck rfl rfl) ?_
    refine gq rfl rfl rfl hb28 (q_fieldAddr rfl Try.underlying68 rfl Try.sizeOf65 rfl) ?_
    refine gq rfl rfl rfl hb28 (q_loadBlk rfl rfl Try.isAgg65 (hS25.blk 6 rfl) rfl (fun h => h)) ?_
    refine gq rfl rfl rfl hb28 (q_move (v := I (v)) rfl y7) ?_
    refine gq rfl rfl rfl hb28 (q_neg rfl rfl (by constructor <;> omega)) ?_
    refine wpL_go rfl rfl rfl hb28 ?_
    refine e_call rfl Try.call59 (arr2 (v0 := PT gt 0) (v1 := I (-v)) rfl rfl) (Has_T gt mr vC vl vw T (-v) (hS25.blk 3 rfl) (MapOk.no (hS25.get 4 rfl))) ?_
    rintro _ H30 ⟨hxx, rfl⟩
    have hS31 := hS25.ext hxx
    refine gq rfl rfl rfl hb28 (q_notP rfl rfl) ?_
    refine lq rfl (q_pickT (v := B (decide (¬ ((-v) ∈ T)))) rfl hb28 rfl) ?_
    exact ⟨y0, y4, y7, (Eq.trans rfl (congrArg B (decide_congr_of (((not_congr Iff.rfl)).trans (((and_iff_right hg27).trans (not_congr Iff.rfl))).symm)))), hS31⟩
   ·have hb29 := Eq.trans rfl (congrArg B (decide_eq_false hg27))
    refine wpL_gs rfl rfl rfl hb29 rfl ?_
    refine wpL_gs rfl rfl rfl hb29 rfl ?_
    refine wpL_gs rfl rfl rfl hb29 rfl ?_
    refine wpL_gs rfl rfl rfl hb29 rfl ?_
    refine wpL_gs rfl rfl rfl hb29 rfl ?_
    refine wpL_gs rfl rfl rfl hb29 rfl ?_
    refine wpL_gs rfl rfl rfl hb29 rfl ?_
    refine wpL_gs rfl rfl rfl hb29 rfl ?_
    refine lq rfl (q_pickF (v := B (false)) rfl hb29 rfl) ?_
    exact ⟨y0, y4, y7, (Eq.trans rfl (congrArg B ((decide_eq_false (fun h => hg27 h.1)).symm))), hS25⟩
  clear y0 y4 y47 y7
  rintro f33 H33 ⟨y0, y4, y7, y66, hS33⟩
  refine wpF_cut (fun f H => f 0 = PT gs 0 ∧ f 4 = I (if v ∉ T ∧ -v ∉ T then (if ph = true then v else -v) else 0) ∧ f 7 = I (v) ∧ St H0 (own [rowE 3 vl (T : List Int), rowE 3 vw (W : List Int), bE gt #[vC, vl, vw, (Value.map (some mr))] 80, mapE mr (marks T : List (Int × Bool)), rowE 3 vv (Lv : List Int), bE gs #[I ((V : Int)), vA, B (ph), PT gt 0, vv, I (lv), vz] 68]) (fun b => S b ∧ ¬ own [rowE 3 vl (T : List Int), rowE 3 vw (W : List Int), bE gt #[vC, vl, vw, (Value.map (some mr))] 80, mapE mr (marks T : List (Int × Bool)), rowE 3 vv (Lv : List Int), bE gs #[I ((V : Int)), vA, B (ph), PT gt 0, vv, I (lv), vz] 68] b) [rdE vA A, rowE 3 vl (T : List Int), rowE 3 vw (W : List Int), bE gt #[vC, vl, vw, (Value.map (some mr))] 80, mapE mr (marks T : List (Int × Bool)), rowE 3 vv (Lv : List Int), bE gs #[I ((V : Int)), vA, B (ph), PT gt 0, vv, I (lv), vz] 68] H) ?_ ?_
  ·refine wpF_condP y66 (fun h66 => ?t38) (fun h66 => ?e38)
   case e38 =>
    refine wpF_skip ?_
    exact ⟨y0, (Eq.trans y4 (congrArg I (h47.1.trans (if_neg h66).symm))), y7, hS33⟩
   refine wpF_seq ?_
   refine wpF_region ?_
   refine lm (v := I (v)) rfl rfl y7 ?_
   refine lq rfl (q_neg rfl rfl (by constructor <;> omega)) ?_
   refine la (v := I (-v)) rfl rfl rfl ?_
   refine wpL_nil ?_
   refine wpF_seq ?_
   refine wpF_region ?_
   refine lm (v := PT gs 0) rfl rfl y0 ?_
   refine lq rfl (q_nilCheck rfl rfl) ?_
   refine lq rfl (q_fieldAddr rfl Try.underlying68 rfl Try.sizeOf4 rfl) ?_
   refine lq rfl (q_loadBlk rfl rfl Try.isAgg4 (hS33.blk 6 rfl) rfl (fun h => h)) ?_
   refine wpL_nil ?_
   refine wpF_cond rfl (fun h72 => ?t37) (fun h72 => ?e37)
   case e37 =>
    refine wpF_skip ?_
    exact ⟨y0, (Eq.trans rfl (congrArg I (by rw [if_pos h66, h72]; rfl))), y7, hS33⟩
   refine wpF_region ?_
   refine lm (v := I (v)) rfl rfl y7 ?_
   refine la (v := I (v)) rfl rfl rfl ?_
   refine wpL_nil ?_
   exact ⟨y0, (Eq.trans rfl (congrArg I (by rw [if_pos h66, if_pos h72]))), y7, hS33⟩
  clear y0 y4 y66 y7
  rintro f34 H34 ⟨y0, y4, y7, hS34⟩
  refine wpF_region ?_
  refine lm (v := I (v)) rfl rfl y7 ?_
  refine lq rfl (q_add rfl rfl rfl (by constructor <;> omega)) ?_
  refine la (v := I (v + 1)) rfl rfl rfl ?_
  refine wpL_nil ?_
  refine ⟨_, ?_, j + 1, v + 1, if v ∉ T ∧ -v ∉ T then (if ph = true then v else -v) else 0, rfl, (by omega), (by omega), (by split <;> (try split) <;> omega), hw2, y0, (Eq.trans y4 (congrArg I (by omega))), (Eq.trans rfl (congrArg I (by omega))), hS34⟩
  omega
 have hwe : varF T ph V 1 nx = ny := hw.symm.trans (Decidable.byCases (fun hz : ny = 0 => by rw [show V - j = 0 by omega]; exact var_end) (fun hz => var_stop hz))
 refine wpF_exit ?_
 refine atX_here ?_
 refine wpF_seq ?_
 refine wpF_seq ?_
 refine wpF_region ?_
 refine lm (v := I (ny)) rfl rfl y4 ?_
 refine lq rfl (q_eql rfl rfl rfl) ?_
 refine wpL_nil ?_
 refine wpF_condP rfl (fun h75 => ?t49) (fun h75 => ?e49)
 case t49 =>
  refine wpF_seq ?_
  refine wpF_region ?_
  refine la (v := B (true)) rfl rfl rfl ?_
  refine la (v := I (0)) rfl rfl rfl ?_
  refine wpL_nil ?_
  refine wpF_ret ?_
  refine ⟨_, resT rfl (resT rfl resN), hS18.frameM, ?_⟩
  show ∃ vl_ vw_ vv_, (Value.tuple #[B (true), I (0)]) = Value.tuple #[B (decide ((askF T A 0).1 = 0 ∧ decN T A ph V = 0)), I (askF T A 0).1] ∧ Gone S [rowE 3 vl (T : List Int), rowE 3 vw (W : List Int), bE gt #[vC, vl, vw, (Value.map (some mr))] 80, mapE mr (marks T : List (Int × Bool)), rowE 3 vv (Lv : List Int), bE gs #[I ((V : Int)), vA, B (ph), PT gt 0, vv, I (lv), vz] 68] [rowE 3 vl_ (decT T A ph V T (decN T A ph V) : List Int), rowE 3 vw_ (decT T A ph V W (-1) : List Int), bE gt #[vC, vl_, vw_, (Value.map (some mr))] 80, mapE mr (marks (decT T A ph V T (decN T A ph V)) : List (Int × Bool)), rowE 3 vv_ (decT T A ph V Lv (lv + 1) : List Int), bE gs #[I ((V : Int)), vA, B (ph), PT gt 0, vv_, I (decL T A ph V lv), vz] 68] H0 H18
  obtain ⟨hs_, hn_, hs1⟩ := dec_end hqe hwe
  obtain ⟨e1, e2⟩ := dec_stay (lv := lv) (hs_.2 h75)
  have hL : St H0 (own [rowE 3 vl (T : List Int), rowE 3 vw (W : List Int), bE gt #[vC, vl, vw, (Value.map (some mr))] 80, mapE mr (marks T : List (Int × Bool)), rowE 3 vv (Lv : List Int), bE gs #[I ((V : Int)), vA, B (ph), PT gt 0, vv, I (lv), vz] 68]) (fun b => S b ∧ ¬ own [rowE 3 vl (T : List Int), rowE 3 vw (W : List Int), bE gt #[vC, vl, vw, (Value.map (some mr))] 80, mapE mr (marks T : List (Int × Bool)), rowE 3 vv (Lv : List Int), bE gs #[I ((V : Int)), vA, B (ph), PT gt 0, vv, I (lv), vz] 68] b) [rowE 3 vl (T : List Int), rowE 3 vw (W : List Int), bE gt #[vC, vl, vw, (Value.map (some mr))] 80, mapE mr (marks T : List (Int × Bool)), rowE 3 vv (Lv : List Int), bE gs #[I ((V : Int)), vA, B (ph), PT gt 0, vv, I (lv), vz] 68] H18 := (hS18.drop (sn (sk (sk (sk (sk (sk (sk (List.Sublist.slnil)))))))))
  rw [e1, e1, e1, e2]
  exact ⟨_, _, _, by rw [hs1, hn_, decide_eq_true ⟨rfl, h75⟩], St.leave3 hL⟩
 refine wpF_skip ?_
 refine wpF_seq ?_
 refine wpF_region ?_
 refine lm (v := PT gs 0) rfl rfl y0 ?_
 refine lq rfl (q_nilCheck rfl rfl) ?_
 refine lq rfl (q_fieldAddr rfl Try.underlying68 rfl Try.sizeOf3 rfl) ?_
 refine lq rfl (q_loadBlk rfl rfl Try.isAgg3 (hS18.blk 6 rfl) rfl (fun h => h)) ?_
 refine lq rfl (q_add rfl rfl rfl (by constructor <;> omega)) ?_
 refine lq rfl (q_nilCheck rfl rfl) ?_
 refine lq rfl (q_fieldAddr rfl Try.underlying68 rfl Try.sizeOf3 rfl) ?_
 refine lo rfl ?_
 refine e_storeBlk (v := I (lv + 1)) rfl rfl rfl rfl Try.sizeOf3 (by show _ < 7; decide) (hS18.front 6 rfl) (fun H40 hS41 hxx => ?_)
 refine wpL_nil ?_
 refine wpF_seq ?_
 refine wpF_region ?_
 refine lm (v := PT gs 0) rfl rfl y0 ?_
 refine lq rfl (q_nilCheck rfl rfl) ?_
 refine lq rfl (q_fieldAddr rfl Try.underlying68 rfl Try.sizeOf65 rfl) ?_
 refine lq rfl (q_loadBlk rfl rfl Try.isAgg65 (hS41.blk 0 rfl) rfl (fun h => h)) ?_
 refine lm (v := I (ny)) rfl rfl y4 ?_
 have hS42 := (St.drop (show St H0 (own [rowE 3 vl (T : List Int), rowE 3 vw (W : List Int), bE gt #[vC, vl, vw, (Value.map (some mr))] 80, mapE mr (marks T : List (Int × Bool)), rowE 3 vv (Lv : List Int), bE gs #[I ((V : Int)), vA, B (ph), PT gt 0, vv, I (lv), vz] 68]) (fun b => S b ∧ ¬ own [rowE 3 vl (T : List Int), rowE 3 vw (W : List Int), bE gt #[vC, vl, vw, (Value.map (some mr))] 80, mapE mr (marks T : List (Int × Bool)), rowE 3 vv (Lv : List Int), bE gs #[I ((V : Int)), vA, B (ph), PT gt 0, vv, I (lv), vz] 68] b) [rowE 3 vl (T : List Int), rowE 3 vw (W : List Int), bE gt #[vC, vl, vw, (Value.map (some mr))] 80, mapE mr (marks T : List (Int × Bool)), bE gs #[I ((V : Int)), vA, B (ph), PT gt 0, vv, I (lv + 1), vz] 68, rdE vA A, rowE 3 vv (Lv : List Int)] H40 from ((((hS41.front 5 rfl).front 5 rfl).front 5 rfl).front 5 rfl)) (sk (sk (sk (sk (sk (sk (sk (List.Sublist.slnil)))))))))
 refine lo rfl ?_
 refine e_call rfl Try.call58 (arr3 (v0 := PT gt 0) (v1 := I (ny)) (v2 := I (-1)) rfl rfl rfl) (Add_T _ gt mr vC vl vw T W ny (-1) (St.give (A := [rowE 3 vl (T : List Int), rowE 3 vw (W : List Int), bE gt #[vC, vl, vw, (Value.map (some mr))] 80, mapE mr (marks T : List (Int × Bool))]) (L := [bE gs #[I ((V : Int)), vA, B (ph), PT gt 0, vv, I (lv + 1), vz] 68, rdE vA A, rowE 3 vv (Lv : List Int)]) hS42) (by omega) (by omega) (by first | assumption | (constructor <;> omega)) (by first | assumption | (constructor <;> omega))) ?_
 rintro _ H45 ⟨hxx, r43, r44, rfl, hgo⟩
 have hS46 : St H0 (own [rowE 3 vl (T : List Int), rowE 3 vw (W : List Int), bE gt #[vC, vl, vw, (Value.map (some mr))] 80, mapE mr (marks T : List (Int × Bool)), rowE 3 vv (Lv : List Int), bE gs #[I ((V : Int)), vA, B (ph), PT gt 0, vv, I (lv), vz] 68]) (fun b => S b ∧ ¬ own [rowE 3 vl (T : List Int), rowE 3 vw (W : List Int), bE gt #[vC, vl, vw, (Value.map (some mr))] 80, mapE mr (marks T : List (Int × Bool)), rowE 3 vv (Lv : List Int), bE gs #[I ((V : Int)), vA, B (ph), PT gt 0, vv, I (lv), vz] 68] b) [rowE 3 r43 (T ++ [ny] : List Int), rowE 3 r44 (W ++ [(-1)] : List Int), bE gt #[vC, r43, r44, (Value.map (some mr))] 80, mapE mr (marks (T ++ [ny]) : List (Int × Bool)), bE gs #[I ((V : Int)), vA, B (ph), PT gt 0, vv, I (lv + 1), vz] 68, rdE vA A, rowE 3 vv (Lv : List Int)] H45 := St.back3 (A := [rowE 3 vl (T : List Int), rowE 3 vw (W : List Int), bE gt #[vC, vl, vw, (Value.map (some mr))] 80, mapE mr (marks T : List (Int × Bool))]) (A' := [rowE 3 r43 (T ++ [ny] : List Int), rowE 3 r44 (W ++ [(-1)] : List Int), bE gt #[vC, r43, r44, (Value.map (some mr))] 80, mapE mr (marks (T ++ [ny]) : List (Int × Bool))]) (L := [bE gs #[I ((V : Int)), vA, B (ph), PT gt 0, vv, I (lv + 1), vz] 68, rdE vA A, rowE 3 vv (Lv : List Int)]) hS42 hxx hgo
 refine wpL_nil ?_
 refine wpF_seq ?_
 refine wpF_drawn [none, none, none, none, none, none, none, none, none, none, some 0, none, none, some 1] [[0], [], [], [], [], [], [], [], [], [], [], [], [], []] (fun l b => match l with | 0 => rowB vv b | 1 => True | _ => False) (by kernel_rfl) (by kernel_rfl) ?_
 refine rq 0 (by kernel_rfl) rfl rfl (q_move (v := PT gs 0) rfl y0) ?_
 refine rq 1 (by kernel_rfl) rfl rfl (q_move (v := PT gs 0) rfl y0) ?_
 refine rq 2 (by kernel_rfl) rfl rfl (q_nilCheck rfl rfl) ?_
 refine rq 3 (by kernel_rfl) rfl rfl (q_fieldAddr rfl Try.underlying68 rfl Try.sizeOf22 rfl) ?_
 refine rq 4 (by kernel_rfl) rfl rfl (q_loadBlk rfl rfl Try.isAgg22 (hS46.blk 4 rfl) rfl (labU_not [] rfl (fe))) ?_
 refine rq 5 (by kernel_rfl) rfl rfl (q_move (v := PT gs 0) rfl y0) ?_
 refine rq 6 (by kernel_rfl) rfl rfl (q_nilCheck rfl rfl) ?_
 refine rq 7 (by kernel_rfl) rfl rfl (q_fieldAddr rfl Try.underlying68 rfl Try.sizeOf3 rfl) ?_
 refine rq 8 (by kernel_rfl) rfl rfl (q_loadBlk rfl rfl Try.isAgg3 (hS46.blk 4 rfl) rfl (labU_not [] rfl (fe))) ?_
 refine wpR_n [9] (by kernel_rfl) ?_
 refine fa ?_ fe
 refine exE rfl rfl ?_
 refine e_buildSlice (vs := [I (lv + 1)]) (xs := ([lv + 1] : List Int)) rfl Try.underlying22 Try.zeroValue3 rfl Try.sizeOf3 (par1 (v0 := I (lv + 1)) rfl) rfl hS46 (RdVs.cons (Rd.int.2 ⟨rfl, by first | assumption | (constructor <;> omega)⟩) (RdVs.nil)) (by decide) (by decide) (fun v48o9 H48o9 hS48o9 hxx hvv48o9 => ?_)
 refine ⟨Ext.mono hxx (fun _ h => h.elim), ?_⟩
 refine wpR_n [10] (by kernel_rfl) ?_
 refine fa ?_ fe
 have hS48o10 : St H0 (own [rowE 3 vl (T : List Int), rowE 3 vw (W : List Int), bE gt #[vC, vl, vw, (Value.map (some mr))] 80, mapE mr (marks T : List (Int × Bool)), rowE 3 vv (Lv : List Int), bE gs #[I ((V : Int)), vA, B (ph), PT gt 0, vv, I (lv), vz] 68]) (fun b => S b ∧ ¬ own [rowE 3 vl (T : List Int), rowE 3 vw (W : List Int), bE gt #[vC, vl, vw, (Value.map (some mr))] 80, mapE mr (marks T : List (Int × Bool)), rowE 3 vv (Lv : List Int), bE gs #[I ((V : Int)), vA, B (ph), PT gt 0, vv, I (lv), vz] 68] b) [rdE v48o9 ([lv + 1] : List Int), rowE 3 r43 (T ++ [ny] : List Int), rowE 3 r44 (W ++ [(-1)] : List Int), bE gt #[vC, r43, r44, (Value.map (some mr))] 80, mapE mr (marks (T ++ [ny]) : List (Int × Bool)), bE gs #[I ((V : Int)), vA, B (ph), PT gt 0, vv, I (lv + 1), vz] 68, rdE vA A, rowE 3 vv (Lv : List Int)] H48o9 := St.fin hS48o9
 have hS48o10x2 := (hS48o10.front 7 rfl)
 refine exE rfl rfl ?_
 refine e_append rfl Try.underlying22 em_Int_3_CardC5 rfl rfl hS48o10x2 (hS48o10x2.rdS 1 rfl) (fun _ h => h) (by have hb : GoT.bytes Int = 8 := rfl; simp [hb]; omega) (by decide) (fun v48o10 H48o10 hS48o10x3 hxx => ?_)
 refine ⟨Ext.mono hxx (labS_of 0 rfl (fun b hb => hb)), ?_⟩
 refine rq 11 (by kernel_rfl) rfl rfl (q_nilCheck rfl rfl) ?_
 refine rq 12 (by kernel_rfl) rfl rfl (q_fieldAddr rfl Try.underlying68 rfl Try.sizeOf22 rfl) ?_
 refine wpR_n [13] (by kernel_rfl) ?_
 refine fa ?_ fe
 refine exE rfl rfl ?_
 refine e_storeBlk (v := v48o10) rfl rfl rfl (oneCell_rdL (hS48o10x3.rowl 0 rfl)) Try.sizeOf22 (by show _ < 7; decide) (hS48o10x3.front 6 rfl) (fun H48o13 hS48o13 hxx => ?_)
 refine ⟨Ext.mono hxx (labS_of 1 rfl (fun _ _ => trivial)), ?_⟩
 refine wpR_end (by kernel_rfl) ?_
 skip
 refine wpF_seq ?_
 refine wpF_region ?_
 refine la (v := B (false)) rfl rfl rfl ?_
 refine la (v := I (0)) rfl rfl rfl ?_
 refine wpL_nil ?_
 refine wpF_ret ?_
 refine ⟨_, resT rfl (resT rfl resN), hS48o13.frameM, ?_⟩
 show ∃ vl_ vw_ vv_, (Value.tuple #[B (false), I (0)]) = Value.tuple #[B (decide ((askF T A 0).1 = 0 ∧ decN T A ph V = 0)), I (askF T A 0).1] ∧ Gone S [rowE 3 vl (T : List Int), rowE 3 vw (W : List Int), bE gt #[vC, vl, vw, (Value.map (some mr))] 80, mapE mr (marks T : List (Int × Bool)), rowE 3 vv (Lv : List Int), bE gs #[I ((V : Int)), vA, B (ph), PT gt 0, vv, I (lv), vz] 68] [rowE 3 vl_ (decT T A ph V T (decN T A ph V) : List Int), rowE 3 vw_ (decT T A ph V W (-1) : List Int), bE gt #[vC, vl_, vw_, (Value.map (some mr))] 80, mapE mr (marks (decT T A ph V T (decN T A ph V)) : List (Int × Bool)), rowE 3 vv_ (decT T A ph V Lv (lv + 1) : List Int), bE gs #[I ((V : Int)), vA, B (ph), PT gt 0, vv_, I (decL T A ph V lv), vz] 68] H0 H48o13
 obtain ⟨hs_, hn_, hs1⟩ := dec_end hqe hwe
 obtain ⟨e1, e2⟩ := dec_go (lv := lv) (fun h => h75 (hs_.1 h))
 have hL : St H0 (own [rowE 3 vl (T : List Int), rowE 3 vw (W : List Int), bE gt #[vC, vl, vw, (Value.map (some mr))] 80, mapE mr (marks T : List (Int × Bool)), rowE 3 vv (Lv : List Int), bE gs #[I ((V : Int)), vA, B (ph), PT gt 0, vv, I (lv), vz] 68]) (fun b => S b ∧ ¬ own [rowE 3 vl (T : List Int), rowE 3 vw (W : List Int), bE gt #[vC, vl, vw, (Value.map (some mr))] 80, mapE mr (marks T : List (Int × Bool)), rowE 3 vv (Lv : List Int), bE gs #[I ((V : Int)), vA, B (ph), PT gt 0, vv, I (lv), vz] 68] b) [rowE 3 r43 (T ++ [ny] : List Int), rowE 3 r44 (W ++ [(-1)] : List Int), bE gt #[vC, r43, r44, (Value.map (some mr))] 80, mapE mr (marks (T ++ [ny]) : List (Int × Bool)), rowE 3 v48o10 (Lv ++ ([lv + 1]) : List Int), bE gs #[I ((V : Int)), vA, B (ph), PT gt 0, v48o10, I (lv + 1), vz] 68] H48o13 := (St.drop (show St H0 (own [rowE 3 vl (T : List Int), rowE 3 vw (W : List Int), bE gt #[vC, vl, vw, (Value.map (some mr))] 80, mapE mr (marks T : List (Int × Bool)), rowE 3 vv (Lv : List Int), bE gs #[I ((V : Int)), vA, B (ph), PT gt 0, vv, I (lv), vz] 68]) (fun b => S b ∧ ¬ own [rowE 3 vl (T : List Int), rowE 3 vw (W : List Int), bE gt #[vC, vl, vw, (Value.map (some mr))] 80, mapE mr (marks T : List (Int × Bool)), rowE 3 vv (Lv : List Int), bE gs #[I ((V : Int)), vA, B (ph), PT gt 0, vv, I (lv), vz] 68] b) [rowE 3 r43 (T ++ [ny] : List Int), rowE 3 r44 (W ++ [(-1)] : List Int), bE gt #[vC, r43, r44, (Value.map (some mr))] 80, mapE mr (marks (T ++ [ny]) : List (Int × Bool)), rowE 3 v48o10 (Lv ++ ([lv + 1]) : List Int), bE gs #[I ((V : Int)), vA, B (ph), PT gt 0, v48o10, I (lv + 1), vz] 68, rdE v48o9 ([lv + 1] : List Int), rdE vA A] H48o13 from (((((hS48o13.front 1 rfl).front 6 rfl).front 6 rfl).front 6 rfl).front 6 rfl)) (sk (sk (sk (sk (sk (sk (sn (sn (List.Sublist.slnil))))))))))
 rw [e1, e1, e1, e2, hn_]
 exact ⟨_, _, _, by rw [hs1, decide_eq_false (fun h => h75 h.2)], St.leave3 hL⟩
end Go.Um
