import Derived.Test.YtbfgipgojdinoaaProg
import Derived.Test.YtbfgipgojdinoaaCardC9
import Derived.Test.YtbfgipgojdinoaaUmTopCardsC
namespace Go.Um
open Go.Proofs
open GoT (sz ag rdc)
open KeyT (kv)
theorem em_Int_3_TopCards1 : ElemOk Try.prog Int 3 := ⟨Try.t3, (.int .i64 0), by kernel_rfl, by kernel_rfl, by kernel_rfl, by kernel_rfl, by kernel_rfl⟩
set_option maxHeartbeats 8000000 in
set_option maxRecDepth 100000 in
theorem TopCards_L {H0 : Heap} (s k o : Int) (ho6 : In64 o) : CallsH Try.prog 3 #[I (s), I (k), I (o)] H0 (fun rv_ H' => Ext NoB H0 H' ∧ rv_ = B true) := by
 have hrs := pickI_rng (a := s) (n := 32) (by decide)
 obtain ⟨p, hp⟩ : ∃ p : Nat, pickI s 32 = (p : Int) := ⟨(pickI s 32).toNat, by omega⟩
 have hrk := pickI_rng (a := k) (n := 7) (by decide)
 obtain ⟨n, hn⟩ : ∃ n : Nat, pickI k 7 = (n : Int) := ⟨(pickI k 7).toNat, by omega⟩
 have hp32 : p < 32 := by omega
 have hn7 : n < 7 := by omega
 obtain ⟨_, _, hg3, hg4, hg5⟩ := card_go hp32 hn7 true
 obtain ⟨hcl, hcl8⟩ := card_lits
 have hmle := manyTo_le (p := p) (i := 5)
 have hS0 : St H0 NoB NoB [] H0 := St.start (fun _ h => h.elim)
 refine callsH_of_wpF (args := [I (s), I (k), I (o)]) (rs := [.tmp 6]) Try.func3 rfl Try.ntmps3 Try.results3 (by kernel_rfl) (Nat.le_of_ble_eq_true rfl) ?_
 have y0 : argF [I (s), I (k), I (o)] 0 = I (s) := rfl
 have y1 : argF [I (s), I (k), I (o)] 1 = I (k) := rfl
 have y2 : argF [I (s), I (k), I (o)] 2 = I (o) := rfl
 generalize argF [I (s), I (k), I (o)] = f0 at *
 refine wpF_seq ?_
 refine wpF_region ?_
 refine la (v := B (false)) rfl rfl rfl ?_
 refine wpL_nil ?_
 refine wpF_seq ?_
 refine wpF_region ?_
 refine la (v := nS) rfl rfl rfl ?_
 refine wpL_nil ?_
 refine wpF_seq ?_
 refine wpF_region ?_
 refine la (v := nS) rfl rfl rfl ?_
 refine wpL_nil ?_
 refine wpF_seq ?_
 refine wpF_region ?_
 refine la (v := I (0)) rfl rfl rfl ?_
 refine wpL_nil ?_
 refine wpF_seq ?_
 refine wpF_seq ?_
 refine wpF_region ?_
 refine la (v := I (0)) rfl rfl rfl ?_
 refine wpL_nil ?_
 obtain ⟨vl0, hvl0⟩ : ∃ v : Value, v = nS := ⟨_, rfl⟩
 obtain ⟨va0, hva0⟩ : ∃ v : Value, v = nS := ⟨_, rfl⟩
 have hS1 : St H0 NoB NoB [rowE 3 vl0 (cardTo 0 : List Int), rowE 3 va0 (askTo p 0 : List Int)] H0 := by subst hvl0 hva0; exact (hS0.row0 3).row0 3
 refine wpF_block ?_
 refine wpF_loop (fun mz f H => ∃ (i : Nat), ∃ (mc : Int), ∃ (vl : Value), ∃ (va : Value), mz = 5 - i ∧ (i ≤ 5) ∧ (mc = ((manyTo p i : Nat) : Int)) ∧ f 0 = I (s) ∧ f 1 = I (k) ∧ f 2 = I (o) ∧ f 7 = vl ∧ f 8 = va ∧ f 9 = I (mc) ∧ f 10 = I ((i : Int)) ∧ St H0 NoB NoB [rowE 3 vl (cardTo i : List Int), rowE 3 va (askTo p i : List Int)] H) (5 - 0) ?_ ?_
 ·exact ⟨0, 0, vl0, va0, rfl, Nat.zero_le _, rfl, y0, y1, y2, (Eq.trans rfl hvl0.symm), (Eq.trans rfl hva0.symm), rfl, (Eq.trans rfl (congrArg I (by omega))), hS1⟩
 intro m2 f2 H2 hI2
 clear y0 y1 y2
 obtain ⟨i, mc, vl, va, hm2, hi, hmc, y0, y1, y2, y7, y8, y9, y10, hS2⟩ := hI2
 refine wpF_seq ?_
 refine wpF_seq ?_
 refine wpF_region ?_
 refine lm (v := I ((i : Int))) rfl rfl y10 ?_
 refine lq rfl (q_lss rfl rfl rfl) ?_
 refine wpL_nil ?_
 refine wpF_condP rfl (fun hlt => ?t165) (fun hlt => ?e165)
 case t165 =>
  have hmi := manyTo_le (p := p) (i := i)
  have hal := askTo_len (p := p) (i := i)
  have hcl_ := cardTo_len (i := i)
  refine wpF_skip ?_
  refine wpF_seq ?_
  refine wpF_block ?_
  refine wpF_seq ?_
  refine wpF_region ?_
  refine lm (v := vl) rfl rfl y7 ?_
  refine lm (v := I ((i : Int))) rfl rfl y10 ?_
  refine lq rfl (q_add rfl rfl rfl (by constructor <;> omega)) ?_
  refine lo rfl ?_
  refine e_buildSlice (vs := [I ((i : Int) + 1)]) (xs := ([(i : Int) + 1] : List Int)) rfl Try.underlying22 Try.zeroValue3 rfl Try.sizeOf3 (par1 (v0 := I ((i : Int) + 1)) rfl) rfl hS2 (RdVs.cons (Rd.int.2 ⟨rfl, by first | assumption | (constructor <;> omega)⟩) (RdVs.nil)) (by decide) (by decide) (fun v5 H6 hS7 hxx hvv5 => ?_)
  have hS8 : St H0 NoB NoB [rdE v5 ([(i : Int) + 1] : List Int), rowE 3 vl (cardTo i : List Int), rowE 3 va (askTo p i : List Int)] H6 := St.fin hS7
  have hS9 := (hS8.front 1 rfl)
  refine lo rfl ?_
  refine e_append rfl Try.underlying22 em_Int_3_TopCards1 rfl rfl hS9 (hS9.rdS 1 rfl) (fun _ h => h) (by have hb8 : GoT.bytes Int = 8 := rfl; simp [hb8]; omega) (by decide) (fun v10 H11 hS12 hxx => ?_)
  have hS13 : St H0 NoB NoB [rowE 3 v10 (cardTo (i + 1) : List Int), rdE v5 ([(i : Int) + 1] : List Int), rowE 3 va (askTo p i : List Int)] H11 := by rw [show (cardTo (i + 1)) = ((cardTo i) ++ ([(i : Int) + 1])) from rfl]; exact hS12
  refine la (v := v10) rfl rfl rfl ?_
  refine wpL_nil ?_
  refine wpF_seq ?_
  refine wpF_region ?_
  refine lm (v := I (s)) rfl rfl y0 ?_
  refine lo rfl ?_
  refine e_call rfl Try.call5 (arr2 (v0 := I (s)) (v1 := I (32)) rfl rfl) (PickedN s 32 p (by omega) hp) ?_
  rintro _ H14 ⟨hxx, rfl⟩
  have hS15 := hS13.ext hxx
  refine lm (v := I ((i : Int))) rfl rfl y10 ?_
  refine lq rfl (q_shrN (a := p) rfl rfl rfl (by omega) (by omega)) ?_
  refine lq rfl (q_andN (a := p >>> i) (b := 1) rfl rfl rfl (by first | omega | exact lt62_andNot (by omega) (by omega) | exact lt62_and (by omega) | exact shr_lt (by omega)) (by first | omega | exact lt62_andNot (by omega) (by omega) | exact lt62_and (by omega) | exact shr_lt (by omega))) ?_
  refine lq rfl (q_eql rfl rfl rfl) ?_
  refine wpL_nil ?_
  refine wpF_condP rfl (fun h34 => ?t36) (fun h34 => ?e36)
  case e36 =>
   have hb : ¬ p.testBit i = true := by rw [← bit_one]; simpa using h34
   have hmy := many_not hb
   refine wpF_region ?_
   refine lm (v := va) rfl rfl y8 ?_
   refine lm (v := I ((i : Int))) rfl rfl y10 ?_
   refine lq rfl (q_neg rfl rfl (by constructor <;> omega)) ?_
   refine lq rfl (q_sub rfl rfl rfl (by constructor <;> omega)) ?_
   refine lo rfl ?_
   refine e_buildSlice (vs := [I ((-(i : Int)) - 1)]) (xs := ([(-(i : Int)) - 1] : List Int)) rfl Try.underlying22 Try.zeroValue3 rfl Try.sizeOf3 (par1 (v0 := I ((-(i : Int)) - 1)) rfl) rfl hS15 (RdVs.cons (Rd.int.2 ⟨rfl, by first | assumption | (constructor <;> omega)⟩) (RdVs.nil)) (by decide) (by decide) (fun v27 H28 hS29 hxx hvv27 => ?_)
   have hS30 : St H0 NoB NoB [rdE v27 ([(-(i : Int)) - 1] : List Int), rowE 3 v10 (cardTo (i + 1) : List Int), rdE v5 ([(i : Int) + 1] : List Int), rowE 3 va (askTo p i : List Int)] H28 := St.fin hS29
   have hS31 := (hS30.front 3 rfl)
   refine lo rfl ?_
   refine e_append rfl Try.underlying22 em_Int_3_TopCards1 rfl rfl hS31 (hS31.rdS 1 rfl) (fun _ h => h) (by have hb8 : GoT.bytes Int = 8 := rfl; simp [hb8]; omega) (by decide) (fun v32 H33 hS34 hxx => ?_)
   have hS35 : St H0 NoB NoB [rowE 3 v32 (askTo p (i + 1) : List Int), rdE v27 ([(-(i : Int)) - 1] : List Int), rowE 3 v10 (cardTo (i + 1) : List Int), rdE v5 ([(i : Int) + 1] : List Int)] H33 := by rw [show (askTo p (i + 1)) = ((askTo p i) ++ ([(-(i : Int)) - 1])) from (ask_not hb)]; exact hS34
   refine la (v := v32) rfl rfl rfl ?_
   refine wpL_nil ?_
   refine wpF_region ?_
   refine lm (v := I ((i : Int))) rfl rfl y10 ?_
   refine lq rfl (q_add rfl rfl rfl (by constructor <;> omega)) ?_
   refine la (v := I ((i : Int) + 1)) rfl rfl rfl ?_
   refine wpL_nil ?_
   refine ⟨_, ?_, i + 1, mc, v10, v32, rfl, (by omega), (by omega), y0, y1, y2, rfl, rfl, y9, (Eq.trans rfl (congrArg I (by omega))), (St.drop (show St H0 NoB NoB [rowE 3 v10 (cardTo (i + 1) : List Int), rowE 3 v32 (askTo p (i + 1) : List Int), rdE v27 ([(-(i : Int)) - 1] : List Int), rdE v5 ([(i : Int) + 1] : List Int)] H33 from (hS35.front 2 rfl)) (sk (sk (sn (sn (List.Sublist.slnil))))))⟩
   omega
  have hb : p.testBit i = true := by rw [← bit_one]; simpa using h34
  have hmy := many_yes hb
  refine wpF_seq ?_
  refine wpF_region ?_
  refine lm (v := I (mc)) rfl rfl y9 ?_
  refine lq rfl (q_add rfl rfl rfl (by constructor <;> omega)) ?_
  refine la (v := I (mc + 1)) rfl rfl rfl ?_
  refine wpL_nil ?_
  refine wpF_region ?_
  refine lm (v := va) rfl rfl y8 ?_
  refine lm (v := I ((i : Int))) rfl rfl y10 ?_
  refine lq rfl (q_add rfl rfl rfl (by constructor <;> omega)) ?_
  refine lo rfl ?_
  refine e_buildSlice (vs := [I ((i : Int) + 1)]) (xs := ([(i : Int) + 1] : List Int)) rfl Try.underlying22 Try.zeroValue3 rfl Try.sizeOf3 (par1 (v0 := I ((i : Int) + 1)) rfl) rfl hS15 (RdVs.cons (Rd.int.2 ⟨rfl, by first | assumption | (constructor <;> omega)⟩) (RdVs.nil)) (by decide) (by decide) (fun v18 H19 hS20 hxx hvv18 => ?_)
  have hS21 : St H0 NoB NoB [rdE v18 ([(i : Int) + 1] : List Int), rowE 3 v10 (cardTo (i + 1) : List Int), rdE v5 ([(i : Int) + 1] : List Int), rowE 3 va (askTo p i : List Int)] H19 := St.fin hS20
  have hS22 := (hS21.front 3 rfl)
  refine lo rfl ?_
  refine e_append rfl Try.underlying22 em_Int_3_TopCards1 rfl rfl hS22 (hS22.rdS 1 rfl) (fun _ h => h) (by have hb8 : GoT.bytes Int = 8 := rfl; simp [hb8]; omega) (by decide) (fun v23 H24 hS25 hxx => ?_)
  have hS26 : St H0 NoB NoB [rowE 3 v23 (askTo p (i + 1) : List Int), rdE v18 ([(i : Int) + 1] : List Int), rowE 3 v10 (cardTo (i + 1) : List Int), rdE v5 ([(i : Int) + 1] : List Int)] H24 := by rw [show (askTo p (i + 1)) = ((askTo p i) ++ ([(i : Int) + 1])) from (ask_yes hb)]; exact hS25
  refine la (v := v23) rfl rfl rfl ?_
  refine wpL_nil ?_
  refine wpF_region ?_
  refine lm (v := I ((i : Int))) rfl rfl y10 ?_
  refine lq rfl (q_add rfl rfl rfl (by constructor <;> omega)) ?_
  refine la (v := I ((i : Int) + 1)) rfl rfl rfl ?_
  refine wpL_nil ?_
  refine ⟨_, ?_, i + 1, mc + 1, v10, v23, rfl, (by omega), (by omega), y0, y1, y2, rfl, rfl, (Eq.trans rfl (congrArg I (by omega))), (Eq.trans rfl (congrArg I (by omega))), (St.drop (show St H0 NoB NoB [rowE 3 v10 (cardTo (i + 1) : List Int), rowE 3 v23 (askTo p (i + 1) : List Int), rdE v18 ([(i : Int) + 1] : List Int), rdE v5 ([(i : Int) + 1] : List Int)] H24 from (hS26.front 2 rfl)) (sk (sk (sn (sn (List.Sublist.slnil))))))⟩
  omega
 obtain rfl : i = 5 := by omega
 have hS4 : St H0 NoB NoB [rowE 3 vl (cardL : List Int), rowE 3 va (askTo p 5 : List Int)] H2 := by have h__ := hS2; rw [cardTo5] at h__; exact h__
 refine wpF_exit ?_
 refine atX_here ?_
 refine wpF_seq ?_
 refine wpF_region ?_
 refine lm (v := I (k)) rfl rfl y1 ?_
 refine lo rfl ?_
 refine e_call rfl Try.call5 (arr2 (v0 := I (k)) (v1 := I (7)) rfl rfl) (PickedN k 7 n (by omega) hn) ?_
 rintro _ H37 ⟨hxx, rfl⟩
 have hS38 := hS4.ext hxx
 refine la (v := I ((n : Int))) rfl rfl rfl ?_
 refine wpL_nil ?_
 refine wpF_seq ?_
 refine wpF_region ?_
 refine lm (v := vl) rfl rfl y7 ?_
 refine lm (v := I ((n : Int))) rfl rfl rfl ?_
 have hS40 : St H0 NoB NoB [rdE vl cardL, rowE 3 va (askTo p 5 : List Int)] H37 := St.fin hS38
 refine lo rfl ?_
 refine e_call rfl Try.call6 (arr3 (v0 := I (5)) (v1 := vl) (v2 := I ((n : Int))) rfl rfl rfl) (Most_C vl cardL 5 (n : Int) n (hS40.rdS 0 rfl) (by omega) hcl8 hcl (by omega) (by omega)) ?_
 rintro _ H42 ⟨hxx, r41, rfl, hrr41⟩
 have hS43 := hS40.res hxx hrr41
 refine lm (v := Value.tuple #[Vg #[I (5), r41], Vg #[I (0), I (0)]]) rfl rfl rfl ?_
 refine lq rfl (q_extract (vs := #[Vg #[I (5), r41], Vg #[I (0), I (0)]]) (v := Vg #[I (5), r41]) rfl rfl rfl) ?_
 refine lq rfl (q_extract (vs := #[Vg #[I (5), r41], Vg #[I (0), I (0)]]) (v := Vg #[I (0), I (0)]) rfl rfl rfl) ?_
 refine lo rfl ?_
 refine e_alloc rfl Try.zeroValue26 hS43 (fun g45 H46 hS47 hxx => ?_)
 refine lo rfl ?_
 refine e_alloc rfl Try.zeroValue28 hS47 (fun g48 H49 hS50 hxx => ?_)
 refine lo rfl ?_
 refine e_storeBlkA (cs' := #[I (5), r41]) rfl rfl rfl Try.sizeOf26 rfl rfl (fa rfl (fa ((oneCell_rdL (hS50.rdl 2 rfl))) fe)) (hS50.front 1 rfl) (fun H51 hS52 hxx => ?_)
 refine lo rfl ?_
 refine e_storeBlkA (cs' := #[I (0), I (0)]) rfl rfl rfl Try.sizeOf28 rfl rfl (fa rfl (fa rfl fe)) (hS52.front 1 rfl) (fun H53 hS54 hxx => ?_)
 refine wpL_nil ?_
 refine wpF_seq ?_
 refine wpF_region ?_
 refine lm (v := vl) rfl rfl y7 ?_
 refine lm (v := I ((n : Int))) rfl rfl rfl ?_
 refine lo rfl ?_
 refine e_call rfl Try.call7 (arr3 (v0 := I (5)) (v1 := vl) (v2 := I ((n : Int))) rfl rfl rfl) (Least_C vl cardL 5 (n : Int) n (hS54.rdS 3 rfl) (by omega) hcl8 hcl (by omega) (by omega)) ?_
 rintro _ H56 ⟨hxx, r55, rfl, hrr55⟩
 have hS57 := hS54.res hxx hrr55
 refine lm (v := Value.tuple #[Vg #[I (5), r55], Vg #[I (0), I (0)]]) rfl rfl rfl ?_
 refine lq rfl (q_extract (vs := #[Vg #[I (5), r55], Vg #[I (0), I (0)]]) (v := Vg #[I (5), r55]) rfl rfl rfl) ?_
 refine lq rfl (q_extract (vs := #[Vg #[I (5), r55], Vg #[I (0), I (0)]]) (v := Vg #[I (0), I (0)]) rfl rfl rfl) ?_
 refine lo rfl ?_
 refine e_alloc rfl Try.zeroValue26 hS57 (fun g59 H60 hS61 hxx => ?_)
 refine lo rfl ?_
 refine e_alloc rfl Try.zeroValue28 hS61 (fun g62 H63 hS64 hxx => ?_)
 refine lo rfl ?_
 refine e_storeBlkA (cs' := #[I (5), r55]) rfl rfl rfl Try.sizeOf26 rfl rfl (fa rfl (fa ((oneCell_rdL (hS64.rdl 2 rfl))) fe)) (hS64.front 1 rfl) (fun H65 hS66 hxx => ?_)
 refine lo rfl ?_
 refine e_storeBlkA (cs' := #[I (0), I (0)]) rfl rfl rfl Try.sizeOf28 rfl rfl (fa rfl (fa rfl fe)) (hS66.front 1 rfl) (fun H67 hS68 hxx => ?_)
 refine wpL_nil ?_
 refine wpF_seq ?_
 refine wpF_seq ?_
 refine wpF_region ?_
 refine lq rfl (q_fieldAddr rfl Try.underlying28 rfl Try.sizeOf3 rfl) ?_
 refine lq rfl (q_loadBlk rfl rfl Try.isAgg3 (hS68.blk 3 rfl) rfl (fun h => h)) ?_
 refine lq rfl (q_neqF rfl rfl rfl rfl) ?_
 refine lm (v := B (false)) rfl rfl rfl ?_
 refine gq rfl rfl rfl rfl (q_fieldAddr rfl Try.underlying28 rfl Try.sizeOf3 rfl) ?_
 refine gq rfl rfl rfl rfl (q_loadBlk rfl rfl Try.isAgg3 (hS68.blk 0 rfl) rfl (fun h => h)) ?_
 refine gq rfl rfl rfl rfl (q_neqF rfl rfl rfl rfl) ?_
 refine lq rfl (q_pickF (v := B (false)) rfl rfl rfl) ?_
 refine wpL_nil ?_
 refine wpF_condF rfl ?_
 refine wpF_skip ?_
 refine sc (fun f H => ∃ (r69o4 : Value), ∃ (r69o4x2 : Value), ∃ (r69o4x3 : Value), ∃ (u69o4 : Int), ∃ (g69o8 : Nat), ∃ (g69o9 : Nat), (In64 u69o4) ∧ f 2 = I (o) ∧ f 8 = va ∧ f 9 = I (mc) ∧ f 11 = I ((n : Int)) ∧ f 14 = PT g59 0 ∧ f 16 = PT g69o8 0 ∧ f 17 = PT g69o9 0 ∧ St H0 NoB NoB [bE g69o9 #[I (0), I (0)] 28, bE g69o8 #[I ((if manyTo p 5 ≤ n then (1 : Int) else 2)), r69o4, r69o4x2, r69o4x3, I (u69o4)] 34, rdE va (askTo p 5), bE g62 #[I (0), I (0)] 28, bE g59 #[I (5), r55] 26, rdE r55 (atLeast cardL n), bE g48 #[I (0), I (0)] 28, bE g45 #[I (5), r41] 26, rdE r41 (atMost cardL n)] H) ?_ ?_
 ·refine wpF_drawn [none, none, none, none, none, none, none, none, none, none, some 0, some 1] [[], [], [], [], [], [], [], [0], [], [], [], []] (fun l b => match l with | 0 => b ≠ g62 ∧ b ≠ g59 ∧ b ≠ g48 ∧ b ≠ g45 | 1 => True | _ => False) (by kernel_rfl) (by kernel_rfl) ?_
  refine rq 0 (by kernel_rfl) rfl rfl (q_loadBlkA rfl rfl Try.isAgg26 Try.sizeOf26 rfl (hS68.blk 4 rfl) (labU_not [] rfl (fe))) ?_
  refine rq 1 (by kernel_rfl) rfl rfl (q_move (v := va) rfl y8) ?_
  refine rq 2 (by kernel_rfl) rfl rfl (q_move (v := I (o)) rfl y2) ?_
  refine wpR_n [3, 8, 9] (by kernel_rfl) ?_
  refine fa ?_ (fa ?_ (fa ?_ fe))
  ·refine exE rfl rfl ?_
   refine e_call rfl Try.call9 (arr1 (v0 := I (o)) rfl) (options_C o (by first | assumption | (constructor <;> omega))) ?_
   rintro _ H69o3 ⟨hxx, q70a, q70b, q70c, q70d, rfl, hq70a, hq70b, hq70c, hq70d⟩
   have hS69o3 := hS68.ext hxx
   refine ⟨Ext.mono hxx (fun _ h => h.elim), ?_⟩
   refine wpR_n [4, 8, 9] (by kernel_rfl) ?_
   refine fa ?_ (fa ?_ (fa ?_ fe))
   ·have hS69o4 : St H0 NoB NoB [rdE va (askTo p 5), bE g62 #[I (0), I (0)] 28, bE g59 #[I (5), r55] 26, rdE r55 (atLeast cardL n), bE g48 #[I (0), I (0)] 28, bE g45 #[I (5), r41] 26, rdE r41 (atMost cardL n), rdE vl cardL] H69o3 := St.fin (hS69o3.front 7 rfl)
    refine exE rfl rfl ?_
    refine e_call rfl Try.call8 (arr4 (v0 := Vg #[I (5), r41]) (v1 := va) (v2 := Vg #[I (q70a), I (q70b), I (q70c), I (q70d)]) (v3 := I (2000)) rfl rfl rfl rfl) (Do_S r41 va (atMost cardL n) (askTo p 5) 5 8 q70a q70b q70c q70d (if manyTo p 5 ≤ n then (1 : Int) else 2) (hS69o4.rdS 6 rfl) (hS69o4.rdS 0 rfl) hg3 hg5 (by omega) (by omega) (by omega) (by omega) (by decide) (card_go hp32 hn7 _).1) ?_
    rintro _ H69o4 ⟨hxx, r69o4, r69o4x2, r69o4x3, u69o4, rfl, x71, x72, x73, hrr69o4, hrr69o4x2, hrr69o4x3, hru69o4⟩
    have hS69o4x2 := ((((hS69o4.ext hxx).rd (hrr69o4x3.sub fun b hb => ⟨hb, SL.lt hS69o4 hb⟩)).rd (hrr69o4x2.sub fun b hb => ⟨(SL_rd hb), SL.lt hS69o4 (SL_rd hb)⟩)).rd (hrr69o4.sub fun b hb => ⟨(SL_rd (SL_rd hb)), SL.lt hS69o4 (SL_rd (SL_rd hb))⟩))
    refine ⟨Ext.mono hxx (fun _ h => h.elim), ?_⟩
    refine rq 5 (by kernel_rfl) rfl rfl (q_move (v := Value.tuple #[Vg #[I ((if manyTo p 5 ≤ n then (1 : Int) else 2)), r69o4, r69o4x2, r69o4x3, I (u69o4)], Vg #[I (0), I (0)]]) rfl rfl) ?_
    refine rq 6 (by kernel_rfl) rfl rfl (q_extract (vs := #[Vg #[I ((if manyTo p 5 ≤ n then (1 : Int) else 2)), r69o4, r69o4x2, r69o4x3, I (u69o4)], Vg #[I (0), I (0)]]) (v := Vg #[I ((if manyTo p 5 ≤ n then (1 : Int) else 2)), r69o4, r69o4x2, r69o4x3, I (u69o4)]) rfl rfl rfl) ?_
    refine rq 7 (by kernel_rfl) rfl rfl (q_extract (vs := #[Vg #[I ((if manyTo p 5 ≤ n then (1 : Int) else 2)), r69o4, r69o4x2, r69o4x3, I (u69o4)], Vg #[I (0), I (0)]]) (v := Vg #[I (0), I (0)]) rfl rfl rfl) ?_
    refine wpR_n [8, 9] (by kernel_rfl) ?_
    refine fa ?_ (fa ?_ fe)
    ·refine exE rfl rfl ?_
     refine e_alloc rfl Try.zeroValue34 hS69o4x2 (fun g69o8 H69o8 hS69o8 hxx => ?_)
     refine ⟨Ext.mono hxx (fun _ h => h.elim), ?_⟩
     refine wpR_n [9] (by kernel_rfl) ?_
     refine fa ?_ fe
     refine exE rfl rfl ?_
     refine e_alloc rfl Try.zeroValue28 hS69o8 (fun g69o9 H69o9 hS69o9 hxx => ?_)
     refine ⟨Ext.mono hxx (fun _ h => h.elim), ?_⟩
     refine wpR_n [10] (by kernel_rfl) ?_
     refine fa ?_ fe
     refine exE rfl rfl ?_
     refine e_storeBlkA (cs' := #[I ((if manyTo p 5 ≤ n then (1 : Int) else 2)), r69o4, r69o4x2, r69o4x3, I (u69o4)]) rfl rfl rfl Try.sizeOf34 rfl rfl (fa rfl (fa ((oneCell_rdL (hS69o9.rdl 2 rfl))) (fa ((oneCell_rdL (hS69o9.rdl 3 rfl))) (fa ((oneCell_rdL (hS69o9.rdl 4 rfl))) (fa rfl fe))))) (hS69o9.front 1 rfl) (fun H69o10 hS69o10 hxx => ?_)
     refine ⟨Ext.mono hxx (labS_of 0 rfl (fun b hb => ⟨fun e => hS69o10.dis 0 6 (by decide) rfl rfl _ hb e, fun e => hS69o10.dis 0 7 (by decide) rfl rfl _ hb e, fun e => hS69o10.dis 0 9 (by decide) rfl rfl _ hb e, fun e => hS69o10.dis 0 10 (by decide) rfl rfl _ hb e⟩)), ?_⟩
     refine wpR_n [11] (by kernel_rfl) ?_
     refine fa ?_ fe
     refine exE rfl rfl ?_
     refine e_storeBlkA (cs' := #[I (0), I (0)]) rfl rfl rfl Try.sizeOf28 rfl rfl (fa rfl (fa rfl fe)) (hS69o10.front 1 rfl) (fun H69o11 hS69o11 hxx => ?_)
     refine ⟨Ext.mono hxx (labS_of 1 rfl (fun _ _ => trivial)), ?_⟩
     refine wpR_end (by kernel_rfl) ?_
     exact ⟨r69o4, r69o4x2, r69o4x3, u69o4, g69o8, g69o9, hru69o4, y2, y8, y9, rfl, rfl, rfl, rfl, (hS69o11.drop (sk (sk (sn (sn (sn (sk (sk (sk (sk (sk (sk (sk (sn (List.Sublist.slnil)))))))))))))))⟩
    ·refine exE rfl rfl ?_
     refine e_alloc rfl Try.zeroValue28 hS69o4x2 (fun g69o9 H69o9 hS69o9 hxx => ?_)
     refine ⟨Ext.mono hxx (fun _ h => h.elim), ?_⟩
     refine wpR_n [8] (by kernel_rfl) ?_
     refine fa ?_ fe
     refine exE rfl rfl ?_
     refine e_alloc rfl Try.zeroValue34 hS69o9 (fun g69o8 H69o8 hS69o8 hxx => ?_)
     refine ⟨Ext.mono hxx (fun _ h => h.elim), ?_⟩
     refine wpR_n [10] (by kernel_rfl) ?_
     refine fa ?_ fe
     refine exE rfl rfl ?_
     refine e_storeBlkA (cs' := #[I ((if manyTo p 5 ≤ n then (1 : Int) else 2)), r69o4, r69o4x2, r69o4x3, I (u69o4)]) rfl rfl rfl Try.sizeOf34 rfl rfl (fa rfl (fa ((oneCell_rdL (hS69o8.rdl 2 rfl))) (fa ((oneCell_rdL (hS69o8.rdl 3 rfl))) (fa ((oneCell_rdL (hS69o8.rdl 4 rfl))) (fa rfl fe))))) hS69o8 (fun H69o10 hS69o10 hxx => ?_)
     refine ⟨Ext.mono hxx (labS_of 0 rfl (fun b hb => ⟨fun e => hS69o10.dis 0 6 (by decide) rfl rfl _ hb e, fun e => hS69o10.dis 0 7 (by decide) rfl rfl _ hb e, fun e => hS69o10.dis 0 9 (by decide) rfl rfl _ hb e, fun e => hS69o10.dis 0 10 (by decide) rfl rfl _ hb e⟩)), ?_⟩
     refine wpR_n [11] (by kernel_rfl) ?_
     refine fa ?_ fe
     refine exE rfl rfl ?_
     refine e_storeBlkA (cs' := #[I (0), I (0)]) rfl rfl rfl Try.sizeOf28 rfl rfl (fa rfl (fa rfl fe)) (hS69o10.front 1 rfl) (fun H69o11 hS69o11 hxx => ?_)
     refine ⟨Ext.mono hxx (labS_of 1 rfl (fun _ _ => trivial)), ?_⟩
     refine wpR_end (by kernel_rfl) ?_
     exact ⟨r69o4, r69o4x2, r69o4x3, u69o4, g69o8, g69o9, hru69o4, y2, y8, y9, rfl, rfl, rfl, rfl, (hS69o11.drop (sk (sk (sn (sn (sn (sk (sk (sk (sk (sk (sk (sk (sn (List.Sublist.slnil)))))))))))))))⟩
   ·refine exE rfl rfl ?_
    refine e_alloc rfl Try.zeroValue34 hS69o3 (fun g69o8 H69o8 hS69o8 hxx => ?_)
    refine ⟨Ext.mono hxx (fun _ h => h.elim), ?_⟩
    refine wpR_n [4, 9] (by kernel_rfl) ?_
    refine fa ?_ (fa ?_ fe)
    ·have hS69o4 : St H0 NoB NoB [rdE va (askTo p 5), bE g69o8 #[I (0), nS, nS, nS, I (0)] 34, bE g62 #[I (0), I (0)] 28, bE g59 #[I (5), r55] 26, rdE r55 (atLeast cardL n), bE g48 #[I (0), I (0)] 28, bE g45 #[I (5), r41] 26, rdE r41 (atMost cardL n), rdE vl cardL] H69o8 := St.fin (hS69o8.front 8 rfl)
     refine exE rfl rfl ?_
     refine e_call rfl Try.call8 (arr4 (v0 := Vg #[I (5), r41]) (v1 := va) (v2 := Vg #[I (q70a), I (q70b), I (q70c), I (q70d)]) (v3 := I (2000)) rfl rfl rfl rfl) (Do_S r41 va (atMost cardL n) (askTo p 5) 5 8 q70a q70b q70c q70d (if manyTo p 5 ≤ n then (1 : Int) else 2) (hS69o4.rdS 7 rfl) (hS69o4.rdS 0 rfl) hg3 hg5 (by omega) (by omega) (by omega) (by omega) (by decide) (card_go hp32 hn7 _).1) ?_
     rintro _ H69o4 ⟨hxx, r69o4, r69o4x2, r69o4x3, u69o4, rfl, x74, x75, x76, hrr69o4, hrr69o4x2, hrr69o4x3, hru69o4⟩
     have hS69o4x2 := ((((hS69o4.ext hxx).rd (hrr69o4x3.sub fun b hb => ⟨hb, SL.lt hS69o4 hb⟩)).rd (hrr69o4x2.sub fun b hb => ⟨(SL_rd hb), SL.lt hS69o4 (SL_rd hb)⟩)).rd (hrr69o4.sub fun b hb => ⟨(SL_rd (SL_rd hb)), SL.lt hS69o4 (SL_rd (SL_rd hb))⟩))
     refine ⟨Ext.mono hxx (fun _ h => h.elim), ?_⟩
     refine rq 5 (by kernel_rfl) rfl rfl (q_move (v := Value.tuple #[Vg #[I ((if manyTo p 5 ≤ n then (1 : Int) else 2)), r69o4, r69o4x2, r69o4x3, I (u69o4)], Vg #[I (0), I (0)]]) rfl rfl) ?_
     refine rq 6 (by kernel_rfl) rfl rfl (q_extract (vs := #[Vg #[I ((if manyTo p 5 ≤ n then (1 : Int) else 2)), r69o4, r69o4x2, r69o4x3, I (u69o4)], Vg #[I (0), I (0)]]) (v := Vg #[I ((if manyTo p 5 ≤ n then (1 : Int) else 2)), r69o4, r69o4x2, r69o4x3, I (u69o4)]) rfl rfl rfl) ?_
     refine rq 7 (by kernel_rfl) rfl rfl (q_extract (vs := #[Vg #[I ((if manyTo p 5 ≤ n then (1 : Int) else 2)), r69o4, r69o4x2, r69o4x3, I (u69o4)], Vg #[I (0), I (0)]]) (v := Vg #[I (0), I (0)]) rfl rfl rfl) ?_
     refine wpR_n [9] (by kernel_rfl) ?_
     refine fa ?_ fe
     refine exE rfl rfl ?_
     refine e_alloc rfl Try.zeroValue28 hS69o4x2 (fun g69o9 H69o9 hS69o9 hxx => ?_)
     refine ⟨Ext.mono hxx (fun _ h => h.elim), ?_⟩
     refine wpR_n [10] (by kernel_rfl) ?_
     refine fa ?_ fe
     refine exE rfl rfl ?_
     refine e_storeBlkA (cs' := #[I ((if manyTo p 5 ≤ n then (1 : Int) else 2)), r69o4, r69o4x2, r69o4x3, I (u69o4)]) rfl rfl rfl Try.sizeOf34 rfl rfl (fa rfl (fa ((oneCell_rdL (hS69o9.rdl 1 rfl))) (fa ((oneCell_rdL (hS69o9.rdl 2 rfl))) (fa ((oneCell_rdL (hS69o9.rdl 3 rfl))) (fa rfl fe))))) (hS69o9.front 5 rfl) (fun H69o10 hS69o10 hxx => ?_)
     refine ⟨Ext.mono hxx (labS_of 0 rfl (fun b hb => ⟨fun e => hS69o10.dis 0 6 (by decide) rfl rfl _ hb e, fun e => hS69o10.dis 0 7 (by decide) rfl rfl _ hb e, fun e => hS69o10.dis 0 9 (by decide) rfl rfl _ hb e, fun e => hS69o10.dis 0 10 (by decide) rfl rfl _ hb e⟩)), ?_⟩
     refine wpR_n [11] (by kernel_rfl) ?_
     refine fa ?_ fe
     refine exE rfl rfl ?_
     refine e_storeBlkA (cs' := #[I (0), I (0)]) rfl rfl rfl Try.sizeOf28 rfl rfl (fa rfl (fa rfl fe)) (hS69o10.front 1 rfl) (fun H69o11 hS69o11 hxx => ?_)
     refine ⟨Ext.mono hxx (labS_of 1 rfl (fun _ _ => trivial)), ?_⟩
     refine wpR_end (by kernel_rfl) ?_
     exact ⟨r69o4, r69o4x2, r69o4x3, u69o4, g69o8, g69o9, hru69o4, y2, y8, y9, rfl, rfl, rfl, rfl, (hS69o11.drop (sk (sk (sn (sn (sn (sk (sk (sk (sk (sk (sk (sk (sn (List.Sublist.slnil)))))))))))))))⟩
    ·refine exE rfl rfl ?_
     refine e_alloc rfl Try.zeroValue28 hS69o8 (fun g69o9 H69o9 hS69o9 hxx => ?_)
     refine ⟨Ext.mono hxx (fun _ h => h.elim), ?_⟩
     refine wpR_n [4] (by kernel_rfl) ?_
     refine fa ?_ fe
     have hS69o4 : St H0 NoB NoB [rdE va (askTo p 5), bE g69o9 #[I (0), I (0)] 28, bE g69o8 #[I (0), nS, nS, nS, I (0)] 34, bE g62 #[I (0), I (0)] 28, bE g59 #[I (5), r55] 26, rdE r55 (atLeast cardL n), bE g48 #[I (0), I (0)] 28, bE g45 #[I (5), r41] 26, rdE r41 (atMost cardL n), rdE vl cardL] H69o9 := St.fin (hS69o9.front 9 rfl)
     refine exE rfl rfl ?_
     refine e_call rfl Try.call8 (arr4 (v0 := Vg #[I (5), r41]) (v1 := va) (v2 := Vg #[I (q70a), I (q70b), I (q70c), I (q70d)]) (v3 := I (2000)) rfl rfl rfl rfl) (Do_S r41 va (atMost cardL n) (askTo p 5) 5 8 q70a q70b q70c q70d (if manyTo p 5 ≤ n then (1 : Int) else 2) (hS69o4.rdS 8 rfl) (hS69o4.rdS 0 rfl) hg3 hg5 (by omega) (by omega) (by omega) (by omega) (by decide) (card_go hp32 hn7 _).1) ?_
     rintro _ H69o4 ⟨hxx, r69o4, r69o4x2, r69o4x3, u69o4, rfl, x77, x78, x79, hrr69o4, hrr69o4x2, hrr69o4x3, hru69o4⟩
     have hS69o4x2 := ((((hS69o4.ext hxx).rd (hrr69o4x3.sub fun b hb => ⟨hb, SL.lt hS69o4 hb⟩)).rd (hrr69o4x2.sub fun b hb => ⟨(SL_rd hb), SL.lt hS69o4 (SL_rd hb)⟩)).rd (hrr69o4.sub fun b hb => ⟨(SL_rd (SL_rd hb)), SL.lt hS69o4 (SL_rd (SL_rd hb))⟩))
     refine ⟨Ext.mono hxx (fun _ h => h.elim), ?_⟩
     refine rq 5 (by kernel_rfl) rfl rfl (q_move (v := Value.tuple #[Vg #[I ((if manyTo p 5 ≤ n then (1 : Int) else 2)), r69o4, r69o4x2, r69o4x3, I (u69o4)], Vg #[I (0), I (0)]]) rfl rfl) ?_
     refine rq 6 (by kernel_rfl) rfl rfl (q_extract (vs := #[Vg #[I ((if manyTo p 5 ≤ n then (1 : Int) else 2)), r69o4, r69o4x2, r69o4x3, I (u69o4)], Vg #[I (0), I (0)]]) (v := Vg #[I ((if manyTo p 5 ≤ n then (1 : Int) else 2)), r69o4, r69o4x2, r69o4x3, I (u69o4)]) rfl rfl rfl) ?_
     refine rq 7 (by kernel_rfl) rfl rfl (q_extract (vs := #[Vg #[I ((if manyTo p 5 ≤ n then (1 : Int) else 2)), r69o4, r69o4x2, r69o4x3, I (u69o4)], Vg #[I (0), I (0)]]) (v := Vg #[I (0), I (0)]) rfl rfl rfl) ?_
     refine wpR_n [10] (by kernel_rfl) ?_
     refine fa ?_ fe
     refine exE rfl rfl ?_
     refine e_storeBlkA (cs' := #[I ((if manyTo p 5 ≤ n then (1 : Int) else 2)), r69o4, r69o4x2, r69o4x3, I (u69o4)]) rfl rfl rfl Try.sizeOf34 rfl rfl (fa rfl (fa ((oneCell_rdL (hS69o4x2.rdl 0 rfl))) (fa ((oneCell_rdL (hS69o4x2.rdl 1 rfl))) (fa ((oneCell_rdL (hS69o4x2.rdl 2 rfl))) (fa rfl fe))))) (hS69o4x2.front 5 rfl) (fun H69o10 hS69o10 hxx => ?_)
     refine ⟨Ext.mono hxx (labS_of 0 rfl (fun b hb => ⟨fun e => hS69o10.dis 0 6 (by decide) rfl rfl _ hb e, fun e => hS69o10.dis 0 7 (by decide) rfl rfl _ hb e, fun e => hS69o10.dis 0 9 (by decide) rfl rfl _ hb e, fun e => hS69o10.dis 0 10 (by decide) rfl rfl _ hb e⟩)), ?_⟩
     refine wpR_n [11] (by kernel_rfl) ?_
     refine fa ?_ fe
     refine exE rfl rfl ?_
     refine e_storeBlkA (cs' := #[I (0), I (0)]) rfl rfl rfl Try.sizeOf28 rfl rfl (fa rfl (fa rfl fe)) (hS69o10.front 5 rfl) (fun H69o11 hS69o11 hxx => ?_)
     refine ⟨Ext.mono hxx (labS_of 1 rfl (fun _ _ => trivial)), ?_⟩
     refine wpR_end (by kernel_rfl) ?_
     exact ⟨r69o4, r69o4x2, r69o4x3, u69o4, g69o8, g69o9, hru69o4, y2, y8, y9, rfl, rfl, rfl, rfl, (hS69o11.drop (sk (sk (sn (sn (sn (sk (sk (sk (sk (sk (sk (sk (sn (List.Sublist.slnil)))))))))))))))⟩
   ·refine exE rfl rfl ?_
    refine e_alloc rfl Try.zeroValue28 hS69o3 (fun g69o9 H69o9 hS69o9 hxx => ?_)
    refine ⟨Ext.mono hxx (fun _ h => h.elim), ?_⟩
    refine wpR_n [4, 8] (by kernel_rfl) ?_
    refine fa ?_ (fa ?_ fe)
    ·have hS69o4 : St H0 NoB NoB [rdE va (askTo p 5), bE g69o9 #[I (0), I (0)] 28, bE g62 #[I (0), I (0)] 28, bE g59 #[I (5), r55] 26, rdE r55 (atLeast cardL n), bE g48 #[I (0), I (0)] 28, bE g45 #[I (5), r41] 26, rdE r41 (atMost cardL n), rdE vl cardL] H69o9 := St.fin (hS69o9.front 8 rfl)
     refine exE rfl rfl ?_
     refine e_call rfl Try.call8 (arr4 (v0 := Vg #[I (5), r41]) (v1 := va) (v2 := Vg #[I (q70a), I (q70b), I (q70c), I (q70d)]) (v3 := I (2000)) rfl rfl rfl rfl) (Do_S r41 va (atMost cardL n) (askTo p 5) 5 8 q70a q70b q70c q70d (if manyTo p 5 ≤ n then (1 : Int) else 2) (hS69o4.rdS 7 rfl) (hS69o4.rdS 0 rfl) hg3 hg5 (by omega) (by omega) (by omega) (by omega) (by decide) (card_go hp32 hn7 _).1) ?_
     rintro _ H69o4 ⟨hxx, r69o4, r69o4x2, r69o4x3, u69o4, rfl, x80, x81, x82, hrr69o4, hrr69o4x2, hrr69o4x3, hru69o4⟩
     have hS69o4x2 := ((((hS69o4.ext hxx).rd (hrr69o4x3.sub fun b hb => ⟨hb, SL.lt hS69o4 hb⟩)).rd (hrr69o4x2.sub fun b hb => ⟨(SL_rd hb), SL.lt hS69o4 (SL_rd hb)⟩)).rd (hrr69o4.sub fun b hb => ⟨(SL_rd (SL_rd hb)), SL.lt hS69o4 (SL_rd (SL_rd hb))⟩))
     refine ⟨Ext.mono hxx (fun _ h => h.elim), ?_⟩
     refine rq 5 (by kernel_rfl) rfl rfl (q_move (v := Value.tuple #[Vg #[I ((if manyTo p 5 ≤ n then (1 : Int) else 2)), r69o4, r69o4x2, r69o4x3, I (u69o4)], Vg #[I (0), I (0)]]) rfl rfl) ?_
     refine rq 6 (by kernel_rfl) rfl rfl (q_extract (vs := #[Vg #[I ((if manyTo p 5 ≤ n then (1 : Int) else 2)), r69o4, r69o4x2, r69o4x3, I (u69o4)], Vg #[I (0), I (0)]]) (v := Vg #[I ((if manyTo p 5 ≤ n then (1 : Int) else 2)), r69o4, r69o4x2, r69o4x3, I (u69o4)]) rfl rfl rfl) ?_
     refine rq 7 (by kernel_rfl) rfl rfl (q_extract (vs := #[Vg #[I ((if manyTo p 5 ≤ n then (1 : Int) else 2)), r69o4, r69o4x2, r69o4x3, I (u69o4)], Vg #[I (0), I (0)]]) (v := Vg #[I (0), I (0)]) rfl rfl rfl) ?_
     refine wpR_n [8] (by kernel_rfl) ?_
     refine fa ?_ fe
     refine exE rfl rfl ?_
     refine e_alloc rfl Try.zeroValue34 hS69o4x2 (fun g69o8 H69o8 hS69o8 hxx => ?_)
     refine ⟨Ext.mono hxx (fun _ h => h.elim), ?_⟩
     refine wpR_n [10] (by kernel_rfl) ?_
     refine fa ?_ fe
     refine exE rfl rfl ?_
     refine e_storeBlkA (cs' := #[I ((if manyTo p 5 ≤ n then (1 : Int) else 2)), r69o4, r69o4x2, r69o4x3, I (u69o4)]) rfl rfl rfl Try.sizeOf34 rfl rfl (fa rfl (fa ((oneCell_rdL (hS69o8.rdl 1 rfl))) (fa ((oneCell_rdL (hS69o8.rdl 2 rfl))) (fa ((oneCell_rdL (hS69o8.rdl 3 rfl))) (fa rfl fe))))) hS69o8 (fun H69o10 hS69o10 hxx => ?_)
     refine ⟨Ext.mono hxx (labS_of 0 rfl (fun b hb => ⟨fun e => hS69o10.dis 0 6 (by decide) rfl rfl _ hb e, fun e => hS69o10.dis 0 7 (by decide) rfl rfl _ hb e, fun e => hS69o10.dis 0 9 (by decide) rfl rfl _ hb e, fun e => hS69o10.dis 0 10 (by decide) rfl rfl _ hb e⟩)), ?_⟩
     refine wpR_n [11] (by kernel_rfl) ?_
     refine fa ?_ fe
     refine exE rfl rfl ?_
     refine e_storeBlkA (cs' := #[I (0), I (0)]) rfl rfl rfl Try.sizeOf28 rfl rfl (fa rfl (fa rfl fe)) (hS69o10.front 5 rfl) (fun H69o11 hS69o11 hxx => ?_)
     refine ⟨Ext.mono hxx (labS_of 1 rfl (fun _ _ => trivial)), ?_⟩
     refine wpR_end (by kernel_rfl) ?_
     exact ⟨r69o4, r69o4x2, r69o4x3, u69o4, g69o8, g69o9, hru69o4, y2, y8, y9, rfl, rfl, rfl, rfl, (hS69o11.drop (sk (sk (sn (sn (sn (sk (sk (sk (sk (sk (sk (sk (sn (List.Sublist.slnil)))))))))))))))⟩
    ·refine exE rfl rfl ?_
     refine e_alloc rfl Try.zeroValue34 hS69o9 (fun g69o8 H69o8 hS69o8 hxx => ?_)
     refine ⟨Ext.mono hxx (fun _ h => h.elim), ?_⟩
     refine wpR_n [4] (by kernel_rfl) ?_
     refine fa ?_ fe
     have hS69o4 : St H0 NoB NoB [rdE va (askTo p 5), bE g69o8 #[I (0), nS, nS, nS, I (0)] 34, bE g69o9 #[I (0), I (0)] 28, bE g62 #[I (0), I (0)] 28, bE g59 #[I (5), r55] 26, rdE r55 (atLeast cardL n), bE g48 #[I (0), I (0)] 28, bE g45 #[I (5), r41] 26, rdE r41 (atMost cardL n), rdE vl cardL] H69o8 := St.fin (hS69o8.front 9 rfl)
     refine exE rfl rfl ?_
     refine e_call rfl Try.call8 (arr4 (v0 := Vg #[I (5), r41]) (v1 := va) (v2 := Vg #[I (q70a), I (q70b), I (q70c), I (q70d)]) (v3 := I (2000)) rfl rfl rfl rfl) (Do_S r41 va (atMost cardL n) (askTo p 5) 5 8 q70a q70b q70c q70d (if manyTo p 5 ≤ n then (1 : Int) else 2) (hS69o4.rdS 8 rfl) (hS69o4.rdS 0 rfl) hg3 hg5 (by omega) (by omega) (by omega) (by omega) (by decide) (card_go hp32 hn7 _).1) ?_
     rintro _ H69o4 ⟨hxx, r69o4, r69o4x2, r69o4x3, u69o4, rfl, x83, x84, x85, hrr69o4, hrr69o4x2, hrr69o4x3, hru69o4⟩
     have hS69o4x2 := ((((hS69o4.ext hxx).rd (hrr69o4x3.sub fun b hb => ⟨hb, SL.lt hS69o4 hb⟩)).rd (hrr69o4x2.sub fun b hb => ⟨(SL_rd hb), SL.lt hS69o4 (SL_rd hb)⟩)).rd (hrr69o4.sub fun b hb => ⟨(SL_rd (SL_rd hb)), SL.lt hS69o4 (SL_rd (SL_rd hb))⟩))
     refine ⟨Ext.mono hxx (fun _ h => h.elim), ?_⟩
     refine rq 5 (by kernel_rfl) rfl rfl (q_move (v := Value.tuple #[Vg #[I ((if manyTo p 5 ≤ n then (1 : Int) else 2)), r69o4, r69o4x2, r69o4x3, I (u69o4)], Vg #[I (0), I (0)]]) rfl rfl) ?_
     refine rq 6 (by kernel_rfl) rfl rfl (q_extract (vs := #[Vg #[I ((if manyTo p 5 ≤ n then (1 : Int) else 2)), r69o4, r69o4x2, r69o4x3, I (u69o4)], Vg #[I (0), I (0)]]) (v := Vg #[I ((if manyTo p 5 ≤ n then (1 : Int) else 2)), r69o4, r69o4x2, r69o4x3, I (u69o4)]) rfl rfl rfl) ?_
     refine rq 7 (by kernel_rfl) rfl rfl (q_extract (vs := #[Vg #[I ((if manyTo p 5 ≤ n then (1 : Int) else 2)), r69o4, r69o4x2, r69o4x3, I (u69o4)], Vg #[I (0), I (0)]]) (v := Vg #[I (0), I (0)]) rfl rfl rfl) ?_
     refine wpR_n [10] (by kernel_rfl) ?_
     refine fa ?_ fe
     refine exE rfl rfl ?_
     refine e_storeBlkA (cs' := #[I ((if manyTo p 5 ≤ n then (1 : Int) else 2)), r69o4, r69o4x2, r69o4x3, I (u69o4)]) rfl rfl rfl Try.sizeOf34 rfl rfl (fa rfl (fa ((oneCell_rdL (hS69o4x2.rdl 0 rfl))) (fa ((oneCell_rdL (hS69o4x2.rdl 1 rfl))) (fa ((oneCell_rdL (hS69o4x2.rdl 2 rfl))) (fa rfl fe))))) (hS69o4x2.front 4 rfl) (fun H69o10 hS69o10 hxx => ?_)
     refine ⟨Ext.mono hxx (labS_of 0 rfl (fun b hb => ⟨fun e => hS69o10.dis 0 6 (by decide) rfl rfl _ hb e, fun e => hS69o10.dis 0 7 (by decide) rfl rfl _ hb e, fun e => hS69o10.dis 0 9 (by decide) rfl rfl _ hb e, fun e => hS69o10.dis 0 10 (by decide) rfl rfl _ hb e⟩)), ?_⟩
     refine wpR_n [11] (by kernel_rfl) ?_
     refine fa ?_ fe
     refine exE rfl rfl ?_
     refine e_storeBlkA (cs' := #[I (0), I (0)]) rfl rfl rfl Try.sizeOf28 rfl rfl (fa rfl (fa rfl fe)) (hS69o10.front 5 rfl) (fun H69o11 hS69o11 hxx => ?_)
     refine ⟨Ext.mono hxx (labS_of 1 rfl (fun _ _ => trivial)), ?_⟩
     refine wpR_end (by kernel_rfl) ?_
     exact ⟨r69o4, r69o4x2, r69o4x3, u69o4, g69o8, g69o9, hru69o4, y2, y8, y9, rfl, rfl, rfl, rfl, (hS69o11.drop (sk (sk (sn (sn (sn (sk (sk (sk (sk (sk (sk (sk (sn (List.Sublist.slnil)))))))))))))))⟩
  ·refine exE rfl rfl ?_
   refine e_alloc rfl Try.zeroValue34 hS68 (fun g69o8 H69o8 hS69o8 hxx => ?_)
   refine ⟨Ext.mono hxx (fun _ h => h.elim), ?_⟩
   refine wpR_n [3, 9] (by kernel_rfl) ?_
   refine fa ?_ (fa ?_ fe)
   ·refine exE rfl rfl ?_
    refine e_call rfl Try.call9 (arr1 (v0 := I (o)) rfl) (options_C o (by first | assumption | (constructor <;> omega))) ?_
    rintro _ H69o3 ⟨hxx, q86a, q86b, q86c, q86d, rfl, hq86a, hq86b, hq86c, hq86d⟩
    have hS69o3 := hS69o8.ext hxx
    refine ⟨Ext.mono hxx (fun _ h => h.elim), ?_⟩
    refine wpR_n [4, 9] (by kernel_rfl) ?_
    refine fa ?_ (fa ?_ fe)
    ·have hS69o4 : St H0 NoB NoB [rdE va (askTo p 5), bE g69o8 #[I (0), nS, nS, nS, I (0)] 34, bE g62 #[I (0), I (0)] 28, bE g59 #[I (5), r55] 26, rdE r55 (atLeast cardL n), bE g48 #[I (0), I (0)] 28, bE g45 #[I (5), r41] 26, rdE r41 (atMost cardL n), rdE vl cardL] H69o3 := St.fin (hS69o3.front 8 rfl)
     refine exE rfl rfl ?_
     refine e_call rfl Try.call8 (arr4 (v0 := Vg #[I (5), r41]) (v1 := va) (v2 := Vg #[I (q86a), I (q86b), I (q86c), I (q86d)]) (v3 := I (2000)) rfl rfl rfl rfl) (Do_S r41 va (atMost cardL n) (askTo p 5) 5 8 q86a q86b q86c q86d (if manyTo p 5 ≤ n then (1 : Int) else 2) (hS69o4.rdS 7 rfl) (hS69o4.rdS 0 rfl) hg3 hg5 (by omega) (by omega) (by omega) (by omega) (by decide) (card_go hp32 hn7 _).1) ?_
     rintro _ H69o4 ⟨hxx, r69o4, r69o4x2, r69o4x3, u69o4, rfl, x87, x88, x89, hrr69o4, hrr69o4x2, hrr69o4x3, hru69o4⟩
     have hS69o4x2 := ((((hS69o4.ext hxx).rd (hrr69o4x3.sub fun b hb => ⟨hb, SL.lt hS69o4 hb⟩)).rd (hrr69o4x2.sub fun b hb => ⟨(SL_rd hb), SL.lt hS69o4 (SL_rd hb)⟩)).rd (hrr69o4.sub fun b hb => ⟨(SL_rd (SL_rd hb)), SL.lt hS69o4 (SL_rd (SL_rd hb))⟩))
     refine ⟨Ext.mono hxx (fun _ h => h.elim), ?_⟩
     refine rq 5 (by kernel_rfl) rfl rfl (q_move (v := Value.tuple #[Vg #[I ((if manyTo p 5 ≤ n then (1 : Int) else 2)), r69o4, r69o4x2, r69o4x3, I (u69o4)], Vg #[I (0), I (0)]]) rfl rfl) ?_
     refine rq 6 (by kernel_rfl) rfl rfl (q_extract (vs := #[Vg #[I ((if manyTo p 5 ≤ n then (1 : Int) else 2)), r69o4, r69o4x2, r69o4x3, I (u69o4)], Vg #[I (0), I (0)]]) (v := Vg #[I ((if manyTo p 5 ≤ n then (1 : Int) else 2)), r69o4, r69o4x2, r69o4x3, I (u69o4)]) rfl rfl rfl) ?_
     refine rq 7 (by kernel_rfl) rfl rfl (q_extract (vs := #[Vg #[I ((if manyTo p 5 ≤ n then (1 : Int) else 2)), r69o4, r69o4x2, r69o4x3, I (u69o4)], Vg #[I (0), I (0)]]) (v := Vg #[I (0), I (0)]) rfl rfl rfl) ?_
     refine wpR_n [9] (by kernel_rfl) ?_
     refine fa ?_ fe
     refine exE rfl rfl ?_
     refine e_alloc rfl Try.zeroValue28 hS69o4x2 (fun g69o9 H69o9 hS69o9 hxx => ?_)
     refine ⟨Ext.mono hxx (fun _ h => h.elim), ?_⟩
     refine wpR_n [10] (by kernel_rfl) ?_
     refine fa ?_ fe
     refine exE rfl rfl ?_
     refine e_storeBlkA (cs' := #[I ((if manyTo p 5 ≤ n then (1 : Int) else 2)), r69o4, r69o4x2, r69o4x3, I (u69o4)]) rfl rfl rfl Try.sizeOf34 rfl rfl (fa rfl (fa ((oneCell_rdL (hS69o9.rdl 1 rfl))) (fa ((oneCell_rdL (hS69o9.rdl 2 rfl))) (fa ((oneCell_rdL (hS69o9.rdl 3 rfl))) (fa rfl fe))))) (hS69o9.front 5 rfl) (fun H69o10 hS69o10 hxx => ?_)
     refine ⟨Ext.mono hxx (labS_of 0 rfl (fun b hb => ⟨fun e => hS69o10.dis 0 6 (by decide) rfl rfl _ hb e, fun e => hS69o10.dis 0 7 (by decide) rfl rfl _ hb e, fun e => hS69o10.dis 0 9 (by decide) rfl rfl _ hb e, fun e => hS69o10.dis 0 10 (by decide) rfl rfl _ hb e⟩)), ?_⟩
     refine wpR_n [11] (by kernel_rfl) ?_
     refine fa ?_ fe
     refine exE rfl rfl ?_
     refine e_storeBlkA (cs' := #[I (0), I (0)]) rfl rfl rfl Try.sizeOf28 rfl rfl (fa rfl (fa rfl fe)) (hS69o10.front 1 rfl) (fun H69o11 hS69o11 hxx => ?_)
     refine ⟨Ext.mono hxx (labS_of 1 rfl (fun _ _ => trivial)), ?_⟩
     refine wpR_end (by kernel_rfl) ?_
     exact ⟨r69o4, r69o4x2, r69o4x3, u69o4, g69o8, g69o9, hru69o4, y2, y8, y9, rfl, rfl, rfl, rfl, (hS69o11.drop (sk (sk (sn (sn (sn (sk (sk (sk (sk (sk (sk (sk (sn (List.Sublist.slnil)))))))))))))))⟩
    ·refine exE rfl rfl ?_
     refine e_alloc rfl Try.zeroValue28 hS69o3 (fun g69o9 H69o9 hS69o9 hxx => ?_)
     refine ⟨Ext.mono hxx (fun _ h => h.elim), ?_⟩
     refine wpR_n [4] (by kernel_rfl) ?_
     refine fa ?_ fe
     have hS69o4 : St H0 NoB NoB [rdE va (askTo p 5), bE g69o9 #[I (0), I (0)] 28, bE g69o8 #[I (0), nS, nS, nS, I (0)] 34, bE g62 #[I (0), I (0)] 28, bE g59 #[I (5), r55] 26, rdE r55 (atLeast cardL n), bE g48 #[I (0), I (0)] 28, bE g45 #[I (5), r41] 26, rdE r41 (atMost cardL n), rdE vl cardL] H69o9 := St.fin (hS69o9.front 9 rfl)
     refine exE rfl rfl ?_
     refine e_call rfl Try.call8 (arr4 (v0 := Vg #[I (5), r41]) (v1 := va) (v2 := Vg #[I (q86a), I (q86b), I (q86c), I (q86d)]) (v3 := I (2000)) rfl rfl rfl rfl) (Do_S r41 va (atMost cardL n) (askTo p 5) 5 8 q86a q86b q86c q86d (if manyTo p 5 ≤ n then (1 : Int) else 2) (hS69o4.rdS 8 rfl) (hS69o4.rdS 0 rfl) hg3 hg5 (by omega) (by omega) (by omega) (by omega) (by decide) (card_go hp32 hn7 _).1) ?_
     rintro _ H69o4 ⟨hxx, r69o4, r69o4x2, r69o4x3, u69o4, rfl, x90, x91, x92, hrr69o4, hrr69o4x2, hrr69o4x3, hru69o4⟩
     have hS69o4x2 := ((((hS69o4.ext hxx).rd (hrr69o4x3.sub fun b hb => ⟨hb, SL.lt hS69o4 hb⟩)).rd (hrr69o4x2.sub fun b hb => ⟨(SL_rd hb), SL.lt hS69o4 (SL_rd hb)⟩)).rd (hrr69o4.sub fun b hb => ⟨(SL_rd (SL_rd hb)), SL.lt hS69o4 (SL_rd (SL_rd hb))⟩))
     refine ⟨Ext.mono hxx (fun _ h => h.elim), ?_⟩
     refine rq 5 (by kernel_rfl) rfl rfl (q_move (v := Value.tuple #[Vg #[I ((if manyTo p 5 ≤ n then (1 : Int) else 2)), r69o4, r69o4x2, r69o4x3, I (u69o4)], Vg #[I (0), I (0)]]) rfl rfl) ?_
     refine rq 6 (by kernel_rfl) rfl rfl (q_extract (vs := #[Vg #[I ((if manyTo p 5 ≤ n then (1 : Int) else 2)), r69o4, r69o4x2, r69o4x3, I (u69o4)], Vg #[I (0), I (0)]]) (v := Vg #[I ((if manyTo p 5 ≤ n then (1 : Int) else 2)), r69o4, r69o4x2, r69o4x3, I (u69o4)]) rfl rfl rfl) ?_
     refine rq 7 (by kernel_rfl) rfl rfl (q_extract (vs := #[Vg #[I ((if manyTo p 5 ≤ n then (1 : Int) else 2)), r69o4, r69o4x2, r69o4x3, I (u69o4)], Vg #[I (0), I (0)]]) (v := Vg #[I (0), I (0)]) rfl rfl rfl) ?_
     refine wpR_n [10] (by kernel_rfl) ?_
     refine fa ?_ fe
     refine exE rfl rfl ?_
     refine e_storeBlkA (cs' := #[I ((if manyTo p 5 ≤ n then (1 : Int) else 2)), r69o4, r69o4x2, r69o4x3, I (u69o4)]) rfl rfl rfl Try.sizeOf34 rfl rfl (fa rfl (fa ((oneCell_rdL (hS69o4x2.rdl 0 rfl))) (fa ((oneCell_rdL (hS69o4x2.rdl 1 rfl))) (fa ((oneCell_rdL (hS69o4x2.rdl 2 rfl))) (fa rfl fe))))) (hS69o4x2.front 5 rfl) (fun H69o10 hS69o10 hxx => ?_)
     refine ⟨Ext.mono hxx (labS_of 0 rfl (fun b hb => ⟨fun e => hS69o10.dis 0 6 (by decide) rfl rfl _ hb e, fun e => hS69o10.dis 0 7 (by decide) rfl rfl _ hb e, fun e => hS69o10.dis 0 9 (by decide) rfl rfl _ hb e, fun e => hS69o10.dis 0 10 (by decide) rfl rfl _ hb e⟩)), ?_⟩
     refine wpR_n [11] (by kernel_rfl) ?_
     refine fa ?_ fe
     refine exE rfl rfl ?_
     refine e_storeBlkA (cs' := #[I (0), I (0)]) rfl rfl rfl Try.sizeOf28 rfl rfl (fa rfl (fa rfl fe)) (hS69o10.front 5 rfl) (fun H69o11 hS69o11 hxx => ?_)
     refine ⟨Ext.mono hxx (labS_of 1 rfl (fun _ _ => trivial)), ?_⟩
     refine wpR_end (by kernel_rfl) ?_
     exact ⟨r69o4, r69o4x2, r69o4x3, u69o4, g69o8, g69o9, hru69o4, y2, y8, y9, rfl, rfl, rfl, rfl, (hS69o11.drop (sk (sk (sn (sn (sn (sk (sk (sk (sk (sk (sk (sk (sn (List.Sublist.slnil)))))))))))))))⟩
   ·refine exE rfl rfl ?_
    refine e_alloc rfl Try.zeroValue28 hS69o8 (fun g69o9 H69o9 hS69o9 hxx => ?_)
    refine ⟨Ext.mono hxx (fun _ h => h.elim), ?_⟩
    refine wpR_n [3] (by kernel_rfl) ?_
    refine fa ?_ fe
    refine exE rfl rfl ?_
    refine e_call rfl Try.call9 (arr1 (v0 := I (o)) rfl) (options_C o (by first | assumption | (constructor <;> omega))) ?_
    rintro _ H69o3 ⟨hxx, q93a, q93b, q93c, q93d, rfl, hq93a, hq93b, hq93c, hq93d⟩
    have hS69o3 := hS69o9.ext hxx
    refine ⟨Ext.mono hxx (fun _ h => h.elim), ?_⟩
    refine wpR_n [4] (by kernel_rfl) ?_
    refine fa ?_ fe
    have hS69o4 : St H0 NoB NoB [rdE va (askTo p 5), bE g69o9 #[I (0), I (0)] 28, bE g69o8 #[I (0), nS, nS, nS, I (0)] 34, bE g62 #[I (0), I (0)] 28, bE g59 #[I (5), r55] 26, rdE r55 (atLeast cardL n), bE g48 #[I (0), I (0)] 28, bE g45 #[I (5), r41] 26, rdE r41 (atMost cardL n), rdE vl cardL] H69o3 := St.fin (hS69o3.front 9 rfl)
    refine exE rfl rfl ?_
    refine e_call rfl Try.call8 (arr4 (v0 := Vg #[I (5), r41]) (v1 := va) (v2 := Vg #[I (q93a), I (q93b), I (q93c), I (q93d)]) (v3 := I (2000)) rfl rfl rfl rfl) (Do_S r41 va (atMost cardL n) (askTo p 5) 5 8 q93a q93b q93c q93d (if manyTo p 5 ≤ n then (1 : Int) else 2) (hS69o4.rdS 8 rfl) (hS69o4.rdS 0 rfl) hg3 hg5 (by omega) (by omega) (by omega) (by omega) (by decide) (card_go hp32 hn7 _).1) ?_
    rintro _ H69o4 ⟨hxx, r69o4, r69o4x2, r69o4x3, u69o4, rfl, x94, x95, x96, hrr69o4, hrr69o4x2, hrr69o4x3, hru69o4⟩
    have hS69o4x2 := ((((hS69o4.ext hxx).rd (hrr69o4x3.sub fun b hb => ⟨hb, SL.lt hS69o4 hb⟩)).rd (hrr69o4x2.sub fun b hb => ⟨(SL_rd hb), SL.lt hS69o4 (SL_rd hb)⟩)).rd (hrr69o4.sub fun b hb => ⟨(SL_rd (SL_rd hb)), SL.lt hS69o4 (SL_rd (SL_rd hb))⟩))
    refine ⟨Ext.mono hxx (fun _ h => h.elim), ?_⟩
    refine rq 5 (by kernel_rfl) rfl rfl (q_move (v := Value.tuple #[Vg #[I ((if manyTo p 5 ≤ n then (1 : Int) else 2)), r69o4, r69o4x2, r69o4x3, I (u69o4)], Vg #[I (0), I (0)]]) rfl rfl) ?_
    refine rq 6 (by kernel_rfl) rfl rfl (q_extract (vs := #[Vg #[I ((if manyTo p 5 ≤ n then (1 : Int) else 2)), r69o4, r69o4x2, r69o4x3, I (u69o4)], Vg #[I (0), I (0)]]) (v := Vg #[I ((if manyTo p 5 ≤ n then (1 : Int) else 2)), r69o4, r69o4x2, r69o4x3, I (u69o4)]) rfl rfl rfl) ?_
    refine rq 7 (by kernel_rfl) rfl rfl (q_extract (vs := #[Vg #[I ((if manyTo p 5 ≤ n then (1 : Int) else 2)), r69o4, r69o4x2, r69o4x3, I (u69o4)], Vg #[I (0), I (0)]]) (v := Vg #[I (0), I (0)]) rfl rfl rfl) ?_
    refine wpR_n [10] (by kernel_rfl) ?_
    refine fa ?_ fe
    refine exE rfl rfl ?_
    refine e_storeBlkA (cs' := #[I ((if manyTo p 5 ≤ n then (1 : Int) else 2)), r69o4, r69o4x2, r69o4x3, I (u69o4)]) rfl rfl rfl Try.sizeOf34 rfl rfl (fa rfl (fa ((oneCell_rdL (hS69o4x2.rdl 0 rfl))) (fa ((oneCell_rdL (hS69o4x2.rdl 1 rfl))) (fa ((oneCell_rdL (hS69o4x2.rdl 2 rfl))) (fa rfl fe))))) (hS69o4x2.front 5 rfl) (fun H69o10 hS69o10 hxx => ?_)
    refine ⟨Ext.mono hxx (labS_of 0 rfl (fun b hb => ⟨fun e => hS69o10.dis 0 6 (by decide) rfl rfl _ hb e, fun e => hS69o10.dis 0 7 (by decide) rfl rfl _ hb e, fun e => hS69o10.dis 0 9 (by decide) rfl rfl _ hb e, fun e => hS69o10.dis 0 10 (by decide) rfl rfl _ hb e⟩)), ?_⟩
    refine wpR_n [11] (by kernel_rfl) ?_
    refine fa ?_ fe
    refine exE rfl rfl ?_
    refine e_storeBlkA (cs' := #[I (0), I (0)]) rfl rfl rfl Try.sizeOf28 rfl rfl (fa rfl (fa rfl fe)) (hS69o10.front 5 rfl) (fun H69o11 hS69o11 hxx => ?_)
    refine ⟨Ext.mono hxx (labS_of 1 rfl (fun _ _ => trivial)), ?_⟩
    refine wpR_end (by kernel_rfl) ?_
    exact ⟨r69o4, r69o4x2, r69o4x3, u69o4, g69o8, g69o9, hru69o4, y2, y8, y9, rfl, rfl, rfl, rfl, (hS69o11.drop (sk (sk (sn (sn (sn (sk (sk (sk (sk (sk (sk (sk (sn (List.Sublist.slnil)))))))))))))))⟩
  ·refine exE rfl rfl ?_
   refine e_alloc rfl Try.zeroValue28 hS68 (fun g69o9 H69o9 hS69o9 hxx => ?_)
   refine ⟨Ext.mono hxx (fun _ h => h.elim), ?_⟩
   refine wpR_n [3, 8] (by kernel_rfl) ?_
   refine fa ?_ (fa ?_ fe)
   ·refine exE rfl rfl ?_
    refine e_call rfl Try.call9 (arr1 (v0 := I (o)) rfl) (options_C o (by first | assumption | (constructor <;> omega))) ?_
    rintro _ H69o3 ⟨hxx, q97a, q97b, q97c, q97d, rfl, hq97a, hq97b, hq97c, hq97d⟩
    have hS69o3 := hS69o9.ext hxx
    refine ⟨Ext.mono hxx (fun _ h => h.elim), ?_⟩
    refine wpR_n [4, 8] (by kernel_rfl) ?_
    refine fa ?_ (fa ?_ fe)
    ·have hS69o4 : St H0 NoB NoB [rdE va (askTo p 5), bE g69o9 #[I (0), I (0)] 28, bE g62 #[I (0), I (0)] 28, bE g59 #[I (5), r55] 26, rdE r55 (atLeast cardL n), bE g48 #[I (0), I (0)] 28, bE g45 #[I (5), r41] 26, rdE r41 (atMost cardL n), rdE vl cardL] H69o3 := St.fin (hS69o3.front 8 rfl)
     refine exE rfl rfl ?_
     refine e_call rfl Try.call8 (arr4 (v0 := Vg #[I (5), r41]) (v1 := va) (v2 := Vg #[I (q97a), I (q97b), I (q97c), I (q97d)]) (v3 := I (2000)) rfl rfl rfl rfl) (Do_S r41 va (atMost cardL n) (askTo p 5) 5 8 q97a q97b q97c q97d (if manyTo p 5 ≤ n then (1 : Int) else 2) (hS69o4.rdS 7 rfl) (hS69o4.rdS 0 rfl) hg3 hg5 (by omega) (by omega) (by omega) (by omega) (by decide) (card_go hp32 hn7 _).1) ?_
     rintro _ H69o4 ⟨hxx, r69o4, r69o4x2, r69o4x3, u69o4, rfl, x98, x99, x100, hrr69o4, hrr69o4x2, hrr69o4x3, hru69o4⟩
     have hS69o4x2 := ((((hS69o4.ext hxx).rd (hrr69o4x3.sub fun b hb => ⟨hb, SL.lt hS69o4 hb⟩)).rd (hrr69o4x2.sub fun b hb => ⟨(SL_rd hb), SL.lt hS69o4 (SL_rd hb)⟩)).rd (hrr69o4.sub fun b hb => ⟨(SL_rd (SL_rd hb)), SL.lt hS69o4 (SL_rd (SL_rd hb))⟩))
     refine ⟨Ext.mono hxx (fun _ h => h.elim), ?_⟩
     refine rq 5 (by kernel_rfl) rfl rfl (q_move (v := Value.tuple #[Vg #[I ((if manyTo p 5 ≤ n then (1 : Int) else 2)), r69o4, r69o4x2, r69o4x3, I (u69o4)], Vg #[I (0), I (0)]]) rfl rfl) ?_
     refine rq 6 (by kernel_rfl) rfl rfl (q_extract (vs := #[Vg #[I ((if manyTo p 5 ≤ n then (1 : Int) else 2)), r69o4, r69o4x2, r69o4x3, I (u69o4)], Vg #[I (0), I (0)]]) (v := Vg #[I ((if manyTo p 5 ≤ n then (1 : Int) else 2)), r69o4, r69o4x2, r69o4x3, I (u69o4)]) rfl rfl rfl) ?_
     refine rq 7 (by kernel_rfl) rfl rfl (q_extract (vs := #[Vg #[I ((if manyTo p 5 ≤ n then (1 : Int) else 2)), r69o4, r69o4x2, r69o4x3, I (u69o4)], Vg #[I (0), I (0)]]) (v := Vg #[I (0), I (0)]) rfl rfl rfl) ?_
     refine wpR_n [8] (by kernel_rfl) ?_
     refine fa ?_ fe
     refine exE rfl rfl ?_
     refine e_alloc rfl Try.zeroValue34 hS69o4x2 (fun g69o8 H69o8 hS69o8 hxx => ?_)
     refine ⟨Ext.mono hxx (fun _ h => h.elim), ?_⟩
     refine wpR_n [10] (by kernel_rfl) ?_
     refine fa ?_ fe
     refine exE rfl rfl ?_
     refine e_storeBlkA (cs' := #[I ((if manyTo p 5 ≤ n then (1 : Int) else 2)), r69o4, r69o4x2, r69o4x3, I (u69o4)]) rfl rfl rfl Try.sizeOf34 rfl rfl (fa rfl (fa ((oneCell_rdL (hS69o8.rdl 1 rfl))) (fa ((oneCell_rdL (hS69o8.rdl 2 rfl))) (fa ((oneCell_rdL (hS69o8.rdl 3 rfl))) (fa rfl fe))))) hS69o8 (fun H69o10 hS69o10 hxx => ?_)
     refine ⟨Ext.mono hxx (labS_of 0 rfl (fun b hb => ⟨fun e => hS69o10.dis 0 6 (by decide) rfl rfl _ hb e, fun e => hS69o10.dis 0 7 (by decide) rfl rfl _ hb e, fun e => hS69o10.dis 0 9 (by decide) rfl rfl _ hb e, fun e => hS69o10.dis 0 10 (by decide) rfl rfl _ hb e⟩)), ?_⟩
     refine wpR_n [11] (by kernel_rfl) ?_
     refine fa ?_ fe
     refine exE rfl rfl ?_
     refine e_storeBlkA (cs' := #[I (0), I (0)]) rfl rfl rfl Try.sizeOf28 rfl rfl (fa rfl (fa rfl fe)) (hS69o10.front 5 rfl) (fun H69o11 hS69o11 hxx => ?_)
     refine ⟨Ext.mono hxx (labS_of 1 rfl (fun _ _ => trivial)), ?_⟩
     refine wpR_end (by kernel_rfl) ?_
     exact ⟨r69o4, r69o4x2, r69o4x3, u69o4, g69o8, g69o9, hru69o4, y2, y8, y9, rfl, rfl, rfl, rfl, (hS69o11.drop (sk (sk (sn (sn (sn (sk (sk (sk (sk (sk (sk (sk (sn (List.Sublist.slnil)))))))))))))))⟩
    ·refine exE rfl rfl ?_
     refine e_alloc rfl Try.zeroValue34 hS69o3 (fun g69o8 H69o8 hS69o8 hxx => ?_)
     refine ⟨Ext.mono hxx (fun _ h => h.elim), ?_⟩
     refine wpR_n [4] (by kernel_rfl) ?_
     refine fa ?_ fe
     have hS69o4 : St H0 NoB NoB [rdE va (askTo p 5), bE g69o8 #[I (0), nS, nS, nS, I (0)] 34, bE g69o9 #[I (0), I (0)] 28, bE g62 #[I (0), I (0)] 28, bE g59 #[I (5), r55] 26, rdE r55 (atLeast cardL n), bE g48 #[I (0), I (0)] 28, bE g45 #[I (5), r41] 26, rdE r41 (atMost cardL n), rdE vl cardL] H69o8 := St.fin (hS69o8.front 9 rfl)
     refine exE rfl rfl ?_
     refine e_call rfl Try.call8 (arr4 (v0 := Vg #[I (5), r41]) (v1 := va) (v2 := Vg #[I (q97a), I (q97b), I (q97c), I (q97d)]) (v3 := I (2000)) rfl rfl rfl rfl) (Do_S r41 va (atMost cardL n) (askTo p 5) 5 8 q97a q97b q97c q97d (if manyTo p 5 ≤ n then (1 : Int) else 2) (hS69o4.rdS 8 rfl) (hS69o4.rdS 0 rfl) hg3 hg5 (by omega) (by omega) (by omega) (by omega) (by decide) (card_go hp32 hn7 _).1) ?_
     rintro _ H69o4 ⟨hxx, r69o4, r69o4x2, r69o4x3, u69o4, rfl, x101, x102, x103, hrr69o4, hrr69o4x2, hrr69o4x3, hru69o4⟩
     have hS69o4x2 := ((((hS69o4.ext hxx).rd (hrr69o4x3.sub fun b hb => ⟨hb, SL.lt hS69o4 hb⟩)).rd (hrr69o4x2.sub fun b hb => ⟨(SL_rd hb), SL.lt hS69o4 (SL_rd hb)⟩)).rd (hrr69o4.sub fun b hb => ⟨(SL_rd (SL_rd hb)), SL.lt hS69o4 (SL_rd (SL_rd hb))⟩))
     refine ⟨Ext.mono hxx (fun _ h => h.elim), ?_⟩
     refine rq 5 (by kernel_rfl) rfl rfl (q_move (v := Value.tuple #[Vg #[I ((if manyTo p 5 ≤ n then (1 : Int) else 2)), r69o4, r69o4x2, r69o4x3, I (u69o4)], Vg #[I (0), I (0)]]) rfl rfl) ?_
     refine rq 6 (by kernel_rfl) rfl rfl (q_extract (vs := #[Vg #[I ((if manyTo p 5 ≤ n then (1 : Int) else 2)), r69o4, r69o4x2, r69o4x3, I (u69o4)], Vg #[I (0), I (0)]]) (v := Vg #[I ((if manyTo p 5 ≤ n then (1 : Int) else 2)), r69o4, r69o4x2, r69o4x3, I (u69o4)]) rfl rfl rfl) ?_
     refine rq 7 (by kernel_rfl) rfl rfl (q_extract (vs := #[Vg #[I ((if manyTo p 5 ≤ n then (1 : Int) else 2)), r69o4, r69o4x2, r69o4x3, I (u69o4)], Vg #[I (0), I (0)]]) (v := Vg #[I (0), I (0)]) rfl rfl rfl) ?_
     refine wpR_n [10] (by kernel_rfl) ?_
     refine fa ?_ fe
     refine exE rfl rfl ?_
     refine e_storeBlkA (cs' := #[I ((if manyTo p 5 ≤ n then (1 : Int) else 2)), r69o4, r69o4x2, r69o4x3, I (u69o4)]) rfl rfl rfl Try.sizeOf34 rfl rfl (fa rfl (fa ((oneCell_rdL (hS69o4x2.rdl 0 rfl))) (fa ((oneCell_rdL (hS69o4x2.rdl 1 rfl))) (fa ((oneCell_rdL (hS69o4x2.rdl 2 rfl))) (fa rfl fe))))) (hS69o4x2.front 4 rfl) (fun H69o10 hS69o10 hxx => ?_)
     refine ⟨Ext.mono hxx (labS_of 0 rfl (fun b hb => ⟨fun e => hS69o10.dis 0 6 (by decide) rfl rfl _ hb e, fun e => hS69o10.dis 0 7 (by decide) rfl rfl _ hb e, fun e => hS69o10.dis 0 9 (by decide) rfl rfl _ hb e, fun e => hS69o10.dis 0 10 (by decide) rfl rfl _ hb e⟩)), ?_⟩
     refine wpR_n [11] (by kernel_rfl) ?_
     refine fa ?_ fe
     refine exE rfl rfl ?_
     refine e_storeBlkA (cs' := #[I (0), I (0)]) rfl rfl rfl Try.sizeOf28 rfl rfl (fa rfl (fa rfl fe)) (hS69o10.front 5 rfl) (fun H69o11 hS69o11 hxx => ?_)
     refine ⟨Ext.mono hxx (labS_of 1 rfl (fun _ _ => trivial)), ?_⟩
     refine wpR_end (by kernel_rfl) ?_
     exact ⟨r69o4, r69o4x2, r69o4x3, u69o4, g69o8, g69o9, hru69o4, y2, y8, y9, rfl, rfl, rfl, rfl, (hS69o11.drop (sk (sk (sn (sn (sn (sk (sk (sk (sk (sk (sk (sk (sn (List.Sublist.slnil)))))))))))))))⟩
   ·refine exE rfl rfl ?_
    refine e_alloc rfl Try.zeroValue34 hS69o9 (fun g69o8 H69o8 hS69o8 hxx => ?_)
    refine ⟨Ext.mono hxx (fun _ h => h.elim), ?_⟩
    refine wpR_n [3] (by kernel_rfl) ?_
    refine fa ?_ fe
    refine exE rfl rfl ?_
    refine e_call rfl Try.call9 (arr1 (v0 := I (o)) rfl) (options_C o (by first | assumption | (constructor <;> omega))) ?_
    rintro _ H69o3 ⟨hxx, q104a, q104b, q104c, q104d, rfl, hq104a, hq104b, hq104c, hq104d⟩
    have hS69o3 := hS69o8.ext hxx
    refine ⟨Ext.mono hxx (fun _ h => h.elim), ?_⟩
    refine wpR_n [4] (by kernel_rfl) ?_
    refine fa ?_ fe
    have hS69o4 : St H0 NoB NoB [rdE va (askTo p 5), bE g69o8 #[I (0), nS, nS, nS, I (0)] 34, bE g69o9 #[I (0), I (0)] 28, bE g62 #[I (0), I (0)] 28, bE g59 #[I (5), r55] 26, rdE r55 (atLeast cardL n), bE g48 #[I (0), I (0)] 28, bE g45 #[I (5), r41] 26, rdE r41 (atMost cardL n), rdE vl cardL] H69o3 := St.fin (hS69o3.front 9 rfl)
    refine exE rfl rfl ?_
    refine e_call rfl Try.call8 (arr4 (v0 := Vg #[I (5), r41]) (v1 := va) (v2 := Vg #[I (q104a), I (q104b), I (q104c), I (q104d)]) (v3 := I (2000)) rfl rfl rfl rfl) (Do_S r41 va (atMost cardL n) (askTo p 5) 5 8 q104a q104b q104c q104d (if manyTo p 5 ≤ n then (1 : Int) else 2) (hS69o4.rdS 8 rfl) (hS69o4.rdS 0 rfl) hg3 hg5 (by omega) (by omega) (by omega) (by omega) (by decide) (card_go hp32 hn7 _).1) ?_
    rintro _ H69o4 ⟨hxx, r69o4, r69o4x2, r69o4x3, u69o4, rfl, x105, x106, x107, hrr69o4, hrr69o4x2, hrr69o4x3, hru69o4⟩
    have hS69o4x2 := ((((hS69o4.ext hxx).rd (hrr69o4x3.sub fun b hb => ⟨hb, SL.lt hS69o4 hb⟩)).rd (hrr69o4x2.sub fun b hb => ⟨(SL_rd hb), SL.lt hS69o4 (SL_rd hb)⟩)).rd (hrr69o4.sub fun b hb => ⟨(SL_rd (SL_rd hb)), SL.lt hS69o4 (SL_rd (SL_rd hb))⟩))
    refine ⟨Ext.mono hxx (fun _ h => h.elim), ?_⟩
    refine rq 5 (by kernel_rfl) rfl rfl (q_move (v := Value.tuple #[Vg #[I ((if manyTo p 5 ≤ n then (1 : Int) else 2)), r69o4, r69o4x2, r69o4x3, I (u69o4)], Vg #[I (0), I (0)]]) rfl rfl) ?_
    refine rq 6 (by kernel_rfl) rfl rfl (q_extract (vs := #[Vg #[I ((if manyTo p 5 ≤ n then (1 : Int) else 2)), r69o4, r69o4x2, r69o4x3, I (u69o4)], Vg #[I (0), I (0)]]) (v := Vg #[I ((if manyTo p 5 ≤ n then (1 : Int) else 2)), r69o4, r69o4x2, r69o4x3, I (u69o4)]) rfl rfl rfl) ?_
    refine rq 7 (by kernel_rfl) rfl rfl (q_extract (vs := #[Vg #[I ((if manyTo p 5 ≤ n then (1 : Int) else 2)), r69o4, r69o4x2, r69o4x3, I (u69o4)], Vg #[I (0), I (0)]]) (v := Vg #[I (0), I (0)]) rfl rfl rfl) ?_
    refine wpR_n [10] (by kernel_rfl) ?_
    refine fa ?_ fe
    refine exE rfl rfl ?_
    refine e_storeBlkA (cs' := #[I ((if manyTo p 5 ≤ n then (1 : Int) else 2)), r69o4, r69o4x2, r69o4x3, I (u69o4)]) rfl rfl rfl Try.sizeOf34 rfl rfl (fa rfl (fa ((oneCell_rdL (hS69o4x2.rdl 0 rfl))) (fa ((oneCell_rdL (hS69o4x2.rdl 1 rfl))) (fa ((oneCell_rdL (hS69o4x2.rdl 2 rfl))) (fa rfl fe))))) (hS69o4x2.front 4 rfl) (fun H69o10 hS69o10 hxx => ?_)
    refine ⟨Ext.mono hxx (labS_of 0 rfl (fun b hb => ⟨fun e => hS69o10.dis 0 6 (by decide) rfl rfl _ hb e, fun e => hS69o10.dis 0 7 (by decide) rfl rfl _ hb e, fun e => hS69o10.dis 0 9 (by decide) rfl rfl _ hb e, fun e => hS69o10.dis 0 10 (by decide) rfl rfl _ hb e⟩)), ?_⟩
    refine wpR_n [11] (by kernel_rfl) ?_
    refine fa ?_ fe
    refine exE rfl rfl ?_
    refine e_storeBlkA (cs' := #[I (0), I (0)]) rfl rfl rfl Try.sizeOf28 rfl rfl (fa rfl (fa rfl fe)) (hS69o10.front 5 rfl) (fun H69o11 hS69o11 hxx => ?_)
    refine ⟨Ext.mono hxx (labS_of 1 rfl (fun _ _ => trivial)), ?_⟩
    refine wpR_end (by kernel_rfl) ?_
    exact ⟨r69o4, r69o4x2, r69o4x3, u69o4, g69o8, g69o9, hru69o4, y2, y8, y9, rfl, rfl, rfl, rfl, (hS69o11.drop (sk (sk (sn (sn (sn (sk (sk (sk (sk (sk (sk (sk (sn (List.Sublist.slnil)))))))))))))))⟩
 clear y2 y8 y9
 rintro f108 H108 ⟨r69o4, r69o4x2, r69o4x3, u69o4, g69o8, g69o9, hru69o4, y2, y8, y9, y11, y14, y16, y17, hS108⟩
 refine sc (fun f H => ∃ (r109o4 : Value), ∃ (r109o4x2 : Value), ∃ (r109o4x3 : Value), ∃ (u109o4 : Int), ∃ (g109o8 : Nat), ∃ (g109o9 : Nat), (In64 u109o4) ∧ f 9 = I (mc) ∧ f 11 = I ((n : Int)) ∧ f 16 = PT g69o8 0 ∧ f 17 = PT g69o9 0 ∧ f 18 = PT g109o8 0 ∧ f 19 = PT g109o9 0 ∧ St H0 NoB NoB [bE g109o9 #[I (0), I (0)] 28, bE g109o8 #[I ((if n ≤ manyTo p 5 then (1 : Int) else 2)), r109o4, r109o4x2, r109o4x3, I (u109o4)] 34, bE g69o9 #[I (0), I (0)] 28, bE g69o8 #[I ((if manyTo p 5 ≤ n then (1 : Int) else 2)), r69o4, r69o4x2, r69o4x3, I (u69o4)] 34, bE g62 #[I (0), I (0)] 28, bE g59 #[I (5), r55] 26, rdE r55 (atLeast cardL n), bE g48 #[I (0), I (0)] 28, bE g45 #[I (5), r41] 26, rdE r41 (atMost cardL n)] H) ?_ ?_
 ·refine wpF_drawn [none, none, none, none, none, none, none, none, none, none, some 0, some 1] [[], [], [], [], [], [], [], [0], [], [], [], []] (fun l b => match l with | 0 => b ≠ g69o9 ∧ b ≠ g69o8 ∧ b ≠ g62 ∧ b ≠ g59 ∧ b ≠ g48 ∧ b ≠ g45 | 1 => True | _ => False) (by kernel_rfl) (by kernel_rfl) ?_
  refine rq 0 (by kernel_rfl) rfl rfl (q_loadBlkA rfl y14 Try.isAgg26 Try.sizeOf26 rfl (hS108.blk 4 rfl) (labU_not [] rfl (fe))) ?_
  refine rq 1 (by kernel_rfl) rfl rfl (q_move (v := va) rfl y8) ?_
  refine rq 2 (by kernel_rfl) rfl rfl (q_move (v := I (o)) rfl y2) ?_
  refine wpR_n [3, 8, 9] (by kernel_rfl) ?_
  refine fa ?_ (fa ?_ (fa ?_ fe))
  ·refine exE rfl rfl ?_
   refine e_call rfl Try.call9 (arr1 (v0 := I (o)) rfl) (options_C o (by first | assumption | (constructor <;> omega))) ?_
   rintro _ H109o3 ⟨hxx, q110a, q110b, q110c, q110d, rfl, hq110a, hq110b, hq110c, hq110d⟩
   have hS109o3 := hS108.ext hxx
   refine ⟨Ext.mono hxx (fun _ h => h.elim), ?_⟩
   refine wpR_n [4, 8, 9] (by kernel_rfl) ?_
   refine fa ?_ (fa ?_ (fa ?_ fe))
   ·refine exE rfl rfl ?_
    refine e_call rfl Try.call8 (arr4 (v0 := Vg #[I (5), r55]) (v1 := va) (v2 := Vg #[I (q110a), I (q110b), I (q110c), I (q110d)]) (v3 := I (2000)) rfl rfl rfl rfl) (Do_S r55 va (atLeast cardL n) (askTo p 5) 5 8 q110a q110b q110c q110d (if n ≤ manyTo p 5 then (1 : Int) else 2) (hS109o3.rdS 5 rfl) (hS109o3.rdS 2 rfl) hg4 hg5 (by omega) (by omega) (by omega) (by omega) (by decide) (card_go hp32 hn7 _).2.1) ?_
    rintro _ H109o4 ⟨hxx, r109o4, r109o4x2, r109o4x3, u109o4, rfl, x111, x112, x113, hrr109o4, hrr109o4x2, hrr109o4x3, hru109o4⟩
    have hS109o4 := ((((hS109o3.ext hxx).rd (hrr109o4x3.sub fun b hb => ⟨hb, SL.lt hS109o3 hb⟩)).rd (hrr109o4x2.sub fun b hb => ⟨(SL_rd hb), SL.lt hS109o3 (SL_rd hb)⟩)).rd (hrr109o4.sub fun b hb => ⟨(SL_rd (SL_rd hb)), SL.lt hS109o3 (SL_rd (SL_rd hb))⟩))
    refine ⟨Ext.mono hxx (fun _ h => h.elim), ?_⟩
    refine rq 5 (by kernel_rfl) rfl rfl (q_move (v := Value.tuple #[Vg #[I ((if n ≤ manyTo p 5 then (1 : Int) else 2)), r109o4, r109o4x2, r109o4x3, I (u109o4)], Vg #[I (0), I (0)]]) rfl rfl) ?_
    refine rq 6 (by kernel_rfl) rfl rfl (q_extract (vs := #[Vg #[I ((if n ≤ manyTo p 5 then (1 : Int) else 2)), r109o4, r109o4x2, r109o4x3, I (u109o4)], Vg #[I (0), I (0)]]) (v := Vg #[I ((if n ≤ manyTo p 5 then (1 : Int) else 2)), r109o4, r109o4x2, r109o4x3, I (u109o4)]) rfl rfl rfl) ?_
    refine rq 7 (by kernel_rfl) rfl rfl (q_extract (vs := #[Vg #[I ((if n ≤ manyTo p 5 then (1 : Int) else 2)), r109o4, r109o4x2, r109o4x3, I (u109o4)], Vg #[I (0), I (0)]]) (v := Vg #[I (0), I (0)]) rfl rfl rfl) ?_
    refine wpR_n [8, 9] (by kernel_rfl) ?_
    refine fa ?_ (fa ?_ fe)
    ·refine exE rfl rfl ?_
     refine e_alloc rfl Try.zeroValue34 hS109o4 (fun g109o8 H109o8 hS109o8 hxx => ?_)
     refine ⟨Ext.mono hxx (fun _ h => h.elim), ?_⟩
     refine wpR_n [9] (by kernel_rfl) ?_
     refine fa ?_ fe
     refine exE rfl rfl ?_
     refine e_alloc rfl Try.zeroValue28 hS109o8 (fun g109o9 H109o9 hS109o9 hxx => ?_)
     refine ⟨Ext.mono hxx (fun _ h => h.elim), ?_⟩
     refine wpR_n [10] (by kernel_rfl) ?_
     refine fa ?_ fe
     refine exE rfl rfl ?_
     refine e_storeBlkA (cs' := #[I ((if n ≤ manyTo p 5 then (1 : Int) else 2)), r109o4, r109o4x2, r109o4x3, I (u109o4)]) rfl rfl rfl Try.sizeOf34 rfl rfl (fa rfl (fa ((oneCell_rdL (hS109o9.rdl 2 rfl))) (fa ((oneCell_rdL (hS109o9.rdl 3 rfl))) (fa ((oneCell_rdL (hS109o9.rdl 4 rfl))) (fa rfl fe))))) (hS109o9.front 1 rfl) (fun H109o10 hS109o10 hxx => ?_)
     refine ⟨Ext.mono hxx (labS_of 0 rfl (fun b hb => ⟨fun e => hS109o10.dis 0 5 (by decide) rfl rfl _ hb e, fun e => hS109o10.dis 0 6 (by decide) rfl rfl _ hb e, fun e => hS109o10.dis 0 8 (by decide) rfl rfl _ hb e, fun e => hS109o10.dis 0 9 (by decide) rfl rfl _ hb e, fun e => hS109o10.dis 0 11 (by decide) rfl rfl _ hb e, fun e => hS109o10.dis 0 12 (by decide) rfl rfl _ hb e⟩)), ?_⟩
     refine wpR_n [11] (by kernel_rfl) ?_
     refine fa ?_ fe
     refine exE rfl rfl ?_
     refine e_storeBlkA (cs' := #[I (0), I (0)]) rfl rfl rfl Try.sizeOf28 rfl rfl (fa rfl (fa rfl fe)) (hS109o10.front 1 rfl) (fun H109o11 hS109o11 hxx => ?_)
     refine ⟨Ext.mono hxx (labS_of 1 rfl (fun _ _ => trivial)), ?_⟩
     refine wpR_end (by kernel_rfl) ?_
     exact ⟨r109o4, r109o4x2, r109o4x3, u109o4, g109o8, g109o9, hru109o4, y9, y11, y16, y17, rfl, rfl, (hS109o11.drop (sk (sk (sn (sn (sn (sk (sk (sn (sk (sk (sk (sk (sk (sk (List.Sublist.slnil))))))))))))))))⟩
    ·refine exE rfl rfl ?_
     refine e_alloc rfl Try.zeroValue28 hS109o4 (fun g109o9 H109o9 hS109o9 hxx => ?_)
     refine ⟨Ext.mono hxx (fun _ h => h.elim), ?_⟩
     refine wpR_n [8] (by kernel_rfl) ?_
     refine fa ?_ fe
     refine exE rfl rfl ?_
     refine e_alloc rfl Try.zeroValue34 hS109o9 (fun g109o8 H109o8 hS109o8 hxx => ?_)
     refine ⟨Ext.mono hxx (fun _ h => h.elim), ?_⟩
     refine wpR_n [10] (by kernel_rfl) ?_
     refine fa ?_ fe
     refine exE rfl rfl ?_
     refine e_storeBlkA (cs' := #[I ((if n ≤ manyTo p 5 then (1 : Int) else 2)), r109o4, r109o4x2, r109o4x3, I (u109o4)]) rfl rfl rfl Try.sizeOf34 rfl rfl (fa rfl (fa ((oneCell_rdL (hS109o8.rdl 2 rfl))) (fa ((oneCell_rdL (hS109o8.rdl 3 rfl))) (fa ((oneCell_rdL (hS109o8.rdl 4 rfl))) (fa rfl fe))))) hS109o8 (fun H109o10 hS109o10 hxx => ?_)
     refine ⟨Ext.mono hxx (labS_of 0 rfl (fun b hb => ⟨fun e => hS109o10.dis 0 5 (by decide) rfl rfl _ hb e, fun e => hS109o10.dis 0 6 (by decide) rfl rfl _ hb e, fun e => hS109o10.dis 0 8 (by decide) rfl rfl _ hb e, fun e => hS109o10.dis 0 9 (by decide) rfl rfl _ hb e, fun e => hS109o10.dis 0 11 (by decide) rfl rfl _ hb e, fun e => hS109o10.dis 0 12 (by decide) rfl rfl _ hb e⟩)), ?_⟩
     refine wpR_n [11] (by kernel_rfl) ?_
     refine fa ?_ fe
     refine exE rfl rfl ?_
     refine e_storeBlkA (cs' := #[I (0), I (0)]) rfl rfl rfl Try.sizeOf28 rfl rfl (fa rfl (fa rfl fe)) (hS109o10.front 1 rfl) (fun H109o11 hS109o11 hxx => ?_)
     refine ⟨Ext.mono hxx (labS_of 1 rfl (fun _ _ => trivial)), ?_⟩
     refine wpR_end (by kernel_rfl) ?_
     exact ⟨r109o4, r109o4x2, r109o4x3, u109o4, g109o8, g109o9, hru109o4, y9, y11, y16, y17, rfl, rfl, (hS109o11.drop (sk (sk (sn (sn (sn (sk (sk (sn (sk (sk (sk (sk (sk (sk (List.Sublist.slnil))))))))))))))))⟩
   ·refine exE rfl rfl ?_
    refine e_alloc rfl Try.zeroValue34 hS109o3 (fun g109o8 H109o8 hS109o8 hxx => ?_)
    refine ⟨Ext.mono hxx (fun _ h => h.elim), ?_⟩
    refine wpR_n [4, 9] (by kernel_rfl) ?_
    refine fa ?_ (fa ?_ fe)
    ·refine exE rfl rfl ?_
     refine e_call rfl Try.call8 (arr4 (v0 := Vg #[I (5), r55]) (v1 := va) (v2 := Vg #[I (q110a), I (q110b), I (q110c), I (q110d)]) (v3 := I (2000)) rfl rfl rfl rfl) (Do_S r55 va (atLeast cardL n) (askTo p 5) 5 8 q110a q110b q110c q110d (if n ≤ manyTo p 5 then (1 : Int) else 2) (hS109o8.rdS 6 rfl) (hS109o8.rdS 3 rfl) hg4 hg5 (by omega) (by omega) (by omega) (by omega) (by decide) (card_go hp32 hn7 _).2.1) ?_
     rintro _ H109o4 ⟨hxx, r109o4, r109o4x2, r109o4x3, u109o4, rfl, x114, x115, x116, hrr109o4, hrr109o4x2, hrr109o4x3, hru109o4⟩
     have hS109o4 := ((((hS109o8.ext hxx).rd (hrr109o4x3.sub fun b hb => ⟨hb, SL.lt hS109o8 hb⟩)).rd (hrr109o4x2.sub fun b hb => ⟨(SL_rd hb), SL.lt hS109o8 (SL_rd hb)⟩)).rd (hrr109o4.sub fun b hb => ⟨(SL_rd (SL_rd hb)), SL.lt hS109o8 (SL_rd (SL_rd hb))⟩))
     refine ⟨Ext.mono hxx (fun _ h => h.elim), ?_⟩
     refine rq 5 (by kernel_rfl) rfl rfl (q_move (v := Value.tuple #[Vg #[I ((if n ≤ manyTo p 5 then (1 : Int) else 2)), r109o4, r109o4x2, r109o4x3, I (u109o4)], Vg #[I (0), I (0)]]) rfl rfl) ?_
     refine rq 6 (by kernel_rfl) rfl rfl (q_extract (vs := #[Vg #[I ((if n ≤ manyTo p 5 then (1 : Int) else 2)), r109o4, r109o4x2, r109o4x3, I (u109o4)], Vg #[I (0), I (0)]]) (v := Vg #[I ((if n ≤ manyTo p 5 then (1 : Int) else 2)), r109o4, r109o4x2, r109o4x3, I (u109o4)]) rfl rfl rfl) ?_
     refine rq 7 (by kernel_rfl) rfl rfl (q_extract (vs := #[Vg #[I ((if n ≤ manyTo p 5 then (1 : Int) else 2)), r109o4, r109o4x2, r109o4x3, I (u109o4)], Vg #[I (0), I (0)]]) (v := Vg #[I (0), I (0)]) rfl rfl rfl) ?_
     refine wpR_n [9] (by kernel_rfl) ?_
     refine fa ?_ fe
     refine exE rfl rfl ?_
     refine e_alloc rfl Try.zeroValue28 hS109o4 (fun g109o9 H109o9 hS109o9 hxx => ?_)
     refine ⟨Ext.mono hxx (fun _ h => h.elim), ?_⟩
     refine wpR_n [10] (by kernel_rfl) ?_
     refine fa ?_ fe
     refine exE rfl rfl ?_
     refine e_storeBlkA (cs' := #[I ((if n ≤ manyTo p 5 then (1 : Int) else 2)), r109o4, r109o4x2, r109o4x3, I (u109o4)]) rfl rfl rfl Try.sizeOf34 rfl rfl (fa rfl (fa ((oneCell_rdL (hS109o9.rdl 1 rfl))) (fa ((oneCell_rdL (hS109o9.rdl 2 rfl))) (fa ((oneCell_rdL (hS109o9.rdl 3 rfl))) (fa rfl fe))))) (hS109o9.front 4 rfl) (fun H109o10 hS109o10 hxx => ?_)
     refine ⟨Ext.mono hxx (labS_of 0 rfl (fun b hb => ⟨fun e => hS109o10.dis 0 5 (by decide) rfl rfl _ hb e, fun e => hS109o10.dis 0 6 (by decide) rfl rfl _ hb e, fun e => hS109o10.dis 0 8 (by decide) rfl rfl _ hb e, fun e => hS109o10.dis 0 9 (by decide) rfl rfl _ hb e, fun e => hS109o10.dis 0 11 (by decide) rfl rfl _ hb e, fun e => hS109o10.dis 0 12 (by decide) rfl rfl _ hb e⟩)), ?_⟩
     refine wpR_n [11] (by kernel_rfl) ?_
     refine fa ?_ fe
     refine exE rfl rfl ?_
     refine e_storeBlkA (cs' := #[I (0), I (0)]) rfl rfl rfl Try.sizeOf28 rfl rfl (fa rfl (fa rfl fe)) (hS109o10.front 1 rfl) (fun H109o11 hS109o11 hxx => ?_)
     refine ⟨Ext.mono hxx (labS_of 1 rfl (fun _ _ => trivial)), ?_⟩
     refine wpR_end (by kernel_rfl) ?_
     exact ⟨r109o4, r109o4x2, r109o4x3, u109o4, g109o8, g109o9, hru109o4, y9, y11, y16, y17, rfl, rfl, (hS109o11.drop (sk (sk (sn (sn (sn (sk (sk (sn (sk (sk (sk (sk (sk (sk (List.Sublist.slnil))))))))))))))))⟩
    ·refine exE rfl rfl ?_
     refine e_alloc rfl Try.zeroValue28 hS109o8 (fun g109o9 H109o9 hS109o9 hxx => ?_)
     refine ⟨Ext.mono hxx (fun _ h => h.elim), ?_⟩
     refine wpR_n [4] (by kernel_rfl) ?_
     refine fa ?_ fe
     refine exE rfl rfl ?_
     refine e_call rfl Try.call8 (arr4 (v0 := Vg #[I (5), r55]) (v1 := va) (v2 := Vg #[I (q110a), I (q110b), I (q110c), I (q110d)]) (v3 := I (2000)) rfl rfl rfl rfl) (Do_S r55 va (atLeast cardL n) (askTo p 5) 5 8 q110a q110b q110c q110d (if n ≤ manyTo p 5 then (1 : Int) else 2) (hS109o9.rdS 7 rfl) (hS109o9.rdS 4 rfl) hg4 hg5 (by omega) (by omega) (by omega) (by omega) (by decide) (card_go hp32 hn7 _).2.1) ?_
     rintro _ H109o4 ⟨hxx, r109o4, r109o4x2, r109o4x3, u109o4, rfl, x117, x118, x119, hrr109o4, hrr109o4x2, hrr109o4x3, hru109o4⟩
     have hS109o4 := ((((hS109o9.ext hxx).rd (hrr109o4x3.sub fun b hb => ⟨hb, SL.lt hS109o9 hb⟩)).rd (hrr109o4x2.sub fun b hb => ⟨(SL_rd hb), SL.lt hS109o9 (SL_rd hb)⟩)).rd (hrr109o4.sub fun b hb => ⟨(SL_rd (SL_rd hb)), SL.lt hS109o9 (SL_rd (SL_rd hb))⟩))
     refine ⟨Ext.mono hxx (fun _ h => h.elim), ?_⟩
     refine rq 5 (by kernel_rfl) rfl rfl (q_move (v := Value.tuple #[Vg #[I ((if n ≤ manyTo p 5 then (1 : Int) else 2)), r109o4, r109o4x2, r109o4x3, I (u109o4)], Vg #[I (0), I (0)]]) rfl rfl) ?_
     refine rq 6 (by kernel_rfl) rfl rfl (q_extract (vs := #[Vg #[I ((if n ≤ manyTo p 5 then (1 : Int) else 2)), r109o4, r109o4x2, r109o4x3, I (u109o4)], Vg #[I (0), I (0)]]) (v := Vg #[I ((if n ≤ manyTo p 5 then (1 : Int) else 2)), r109o4, r109o4x2, r109o4x3, I (u109o4)]) rfl rfl rfl) ?_
     refine rq 7 (by kernel_rfl) rfl rfl (q_extract (vs := #[Vg #[I ((if n ≤ manyTo p 5 then (1 : Int) else 2)), r109o4, r109o4x2, r109o4x3, I (u109o4)], Vg #[I (0), I (0)]]) (v := Vg #[I (0), I (0)]) rfl rfl rfl) ?_
     refine wpR_n [10] (by kernel_rfl) ?_
     refine fa ?_ fe
     refine exE rfl rfl ?_
     refine e_storeBlkA (cs' := #[I ((if n ≤ manyTo p 5 then (1 : Int) else 2)), r109o4, r109o4x2, r109o4x3, I (u109o4)]) rfl rfl rfl Try.sizeOf34 rfl rfl (fa rfl (fa ((oneCell_rdL (hS109o4.rdl 0 rfl))) (fa ((oneCell_rdL (hS109o4.rdl 1 rfl))) (fa ((oneCell_rdL (hS109o4.rdl 2 rfl))) (fa rfl fe))))) (hS109o4.front 4 rfl) (fun H109o10 hS109o10 hxx => ?_)
     refine ⟨Ext.mono hxx (labS_of 0 rfl (fun b hb => ⟨fun e => hS109o10.dis 0 5 (by decide) rfl rfl _ hb e, fun e => hS109o10.dis 0 6 (by decide) rfl rfl _ hb e, fun e => hS109o10.dis 0 8 (by decide) rfl rfl _ hb e, fun e => hS109o10.dis 0 9 (by decide) rfl rfl _ hb e, fun e => hS109o10.dis 0 11 (by decide) rfl rfl _ hb e, fun e => hS109o10.dis 0 12 (by decide) rfl rfl _ hb e⟩)), ?_⟩
     refine wpR_n [11] (by kernel_rfl) ?_
     refine fa ?_ fe
     refine exE rfl rfl ?_
     refine e_storeBlkA (cs' := #[I (0), I (0)]) rfl rfl rfl Try.sizeOf28 rfl rfl (fa rfl (fa rfl fe)) (hS109o10.front 4 rfl) (fun H109o11 hS109o11 hxx => ?_)
     refine ⟨Ext.mono hxx (labS_of 1 rfl (fun _ _ => trivial)), ?_⟩
     refine wpR_end (by kernel_rfl) ?_
     exact ⟨r109o4, r109o4x2, r109o4x3, u109o4, g109o8, g109o9, hru109o4, y9, y11, y16, y17, rfl, rfl, (hS109o11.drop (sk (sk (sn (sn (sn (sk (sk (sn (sk (sk (sk (sk (sk (sk (List.Sublist.slnil))))))))))))))))⟩
   ·refine exE rfl rfl ?_
    refine e_alloc rfl Try.zeroValue28 hS109o3 (fun g109o9 H109o9 hS109o9 hxx => ?_)
    refine ⟨Ext.mono hxx (fun _ h => h.elim), ?_⟩
    refine wpR_n [4, 8] (by kernel_rfl) ?_
    refine fa ?_ (fa ?_ fe)
    ·refine exE rfl rfl ?_
     refine e_call rfl Try.call8 (arr4 (v0 := Vg #[I (5), r55]) (v1 := va) (v2 := Vg #[I (q110a), I (q110b), I (q110c), I (q110d)]) (v3 := I (2000)) rfl rfl rfl rfl) (Do_S r55 va (atLeast cardL n) (askTo p 5) 5 8 q110a q110b q110c q110d (if n ≤ manyTo p 5 then (1 : Int) else 2) (hS109o9.rdS 6 rfl) (hS109o9.rdS 3 rfl) hg4 hg5 (by omega) (by omega) (by omega) (by omega) (by decide) (card_go hp32 hn7 _).2.1) ?_
     rintro _ H109o4 ⟨hxx, r109o4, r109o4x2, r109o4x3, u109o4, rfl, x120, x121, x122, hrr109o4, hrr109o4x2, hrr109o4x3, hru109o4⟩
     have hS109o4 := ((((hS109o9.ext hxx).rd (hrr109o4x3.sub fun b hb => ⟨hb, SL.lt hS109o9 hb⟩)).rd (hrr109o4x2.sub fun b hb => ⟨(SL_rd hb), SL.lt hS109o9 (SL_rd hb)⟩)).rd (hrr109o4.sub fun b hb => ⟨(SL_rd (SL_rd hb)), SL.lt hS109o9 (SL_rd (SL_rd hb))⟩))
     refine ⟨Ext.mono hxx (fun _ h => h.elim), ?_⟩
     refine rq 5 (by kernel_rfl) rfl rfl (q_move (v := Value.tuple #[Vg #[I ((if n ≤ manyTo p 5 then (1 : Int) else 2)), r109o4, r109o4x2, r109o4x3, I (u109o4)], Vg #[I (0), I (0)]]) rfl rfl) ?_
     refine rq 6 (by kernel_rfl) rfl rfl (q_extract (vs := #[Vg #[I ((if n ≤ manyTo p 5 then (1 : Int) else 2)), r109o4, r109o4x2, r109o4x3, I (u109o4)], Vg #[I (0), I (0)]]) (v := Vg #[I ((if n ≤ manyTo p 5 then (1 : Int) else 2)), r109o4, r109o4x2, r109o4x3, I (u109o4)]) rfl rfl rfl) ?_
     refine rq 7 (by kernel_rfl) rfl rfl (q_extract (vs := #[Vg #[I ((if n ≤ manyTo p 5 then (1 : Int) else 2)), r109o4, r109o4x2, r109o4x3, I (u109o4)], Vg #[I (0), I (0)]]) (v := Vg #[I (0), I (0)]) rfl rfl rfl) ?_
     refine wpR_n [8] (by kernel_rfl) ?_
     refine fa ?_ fe
     refine exE rfl rfl ?_
     refine e_alloc rfl Try.zeroValue34 hS109o4 (fun g109o8 H109o8 hS109o8 hxx => ?_)
     refine ⟨Ext.mono hxx (fun _ h => h.elim), ?_⟩
     refine wpR_n [10] (by kernel_rfl) ?_
     refine fa ?_ fe
     refine exE rfl rfl ?_
     refine e_storeBlkA (cs' := #[I ((if n ≤ manyTo p 5 then (1 : Int) else 2)), r109o4, r109o4x2, r109o4x3, I (u109o4)]) rfl rfl rfl Try.sizeOf34 rfl rfl (fa rfl (fa ((oneCell_rdL (hS109o8.rdl 1 rfl))) (fa ((oneCell_rdL (hS109o8.rdl 2 rfl))) (fa ((oneCell_rdL (hS109o8.rdl 3 rfl))) (fa rfl fe))))) hS109o8 (fun H109o10 hS109o10 hxx => ?_)
     refine ⟨Ext.mono hxx (labS_of 0 rfl (fun b hb => ⟨fun e => hS109o10.dis 0 5 (by decide) rfl rfl _ hb e, fun e => hS109o10.dis 0 6 (by decide) rfl rfl _ hb e, fun e => hS109o10.dis 0 8 (by decide) rfl rfl _ hb e, fun e => hS109o10.dis 0 9 (by decide) rfl rfl _ hb e, fun e => hS109o10.dis 0 11 (by decide) rfl rfl _ hb e, fun e => hS109o10.dis 0 12 (by decide) rfl rfl _ hb e⟩)), ?_⟩
     refine wpR_n [11] (by kernel_rfl) ?_
     refine fa ?_ fe
     refine exE rfl rfl ?_
     refine e_storeBlkA (cs' := #[I (0), I (0)]) rfl rfl rfl Try.sizeOf28 rfl rfl (fa rfl (fa rfl fe)) (hS109o10.front 4 rfl) (fun H109o11 hS109o11 hxx => ?_)
     refine ⟨Ext.mono hxx (labS_of 1 rfl (fun _ _ => trivial)), ?_⟩
     refine wpR_end (by kernel_rfl) ?_
     exact ⟨r109o4, r109o4x2, r109o4x3, u109o4, g109o8, g109o9, hru109o4, y9, y11, y16, y17, rfl, rfl, (hS109o11.drop (sk (sk (sn (sn (sn (sk (sk (sn (sk (sk (sk (sk (sk (sk (List.Sublist.slnil))))))))))))))))⟩
    ·refine exE rfl rfl ?_
     refine e_alloc rfl Try.zeroValue34 hS109o9 (fun g109o8 H109o8 hS109o8 hxx => ?_)
     refine ⟨Ext.mono hxx (fun _ h => h.elim), ?_⟩
     refine wpR_n [4] (by kernel_rfl) ?_
     refine fa ?_ fe
     refine exE rfl rfl ?_
     refine e_call rfl Try.call8 (arr4 (v0 := Vg #[I (5), r55]) (v1 := va) (v2 := Vg #[I (q110a), I (q110b), I (q110c), I (q110d)]) (v3 := I (2000)) rfl rfl rfl rfl) (Do_S r55 va (atLeast cardL n) (askTo p 5) 5 8 q110a q110b q110c q110d (if n ≤ manyTo p 5 then (1 : Int) else 2) (hS109o8.rdS 7 rfl) (hS109o8.rdS 4 rfl) hg4 hg5 (by omega) (by omega) (by omega) (by omega) (by decide) (card_go hp32 hn7 _).2.1) ?_
     rintro _ H109o4 ⟨hxx, r109o4, r109o4x2, r109o4x3, u109o4, rfl, x123, x124, x125, hrr109o4, hrr109o4x2, hrr109o4x3, hru109o4⟩
     have hS109o4 := ((((hS109o8.ext hxx).rd (hrr109o4x3.sub fun b hb => ⟨hb, SL.lt hS109o8 hb⟩)).rd (hrr109o4x2.sub fun b hb => ⟨(SL_rd hb), SL.lt hS109o8 (SL_rd hb)⟩)).rd (hrr109o4.sub fun b hb => ⟨(SL_rd (SL_rd hb)), SL.lt hS109o8 (SL_rd (SL_rd hb))⟩))
     refine ⟨Ext.mono hxx (fun _ h => h.elim), ?_⟩
     refine rq 5 (by kernel_rfl) rfl rfl (q_move (v := Value.tuple #[Vg #[I ((if n ≤ manyTo p 5 then (1 : Int) else 2)), r109o4, r109o4x2, r109o4x3, I (u109o4)], Vg #[I (0), I (0)]]) rfl rfl) ?_
     refine rq 6 (by kernel_rfl) rfl rfl (q_extract (vs := #[Vg #[I ((if n ≤ manyTo p 5 then (1 : Int) else 2)), r109o4, r109o4x2, r109o4x3, I (u109o4)], Vg #[I (0), I (0)]]) (v := Vg #[I ((if n ≤ manyTo p 5 then (1 : Int) else 2)), r109o4, r109o4x2, r109o4x3, I (u109o4)]) rfl rfl rfl) ?_
     refine rq 7 (by kernel_rfl) rfl rfl (q_extract (vs := #[Vg #[I ((if n ≤ manyTo p 5 then (1 : Int) else 2)), r109o4, r109o4x2, r109o4x3, I (u109o4)], Vg #[I (0), I (0)]]) (v := Vg #[I (0), I (0)]) rfl rfl rfl) ?_
     refine wpR_n [10] (by kernel_rfl) ?_
     refine fa ?_ fe
     refine exE rfl rfl ?_
     refine e_storeBlkA (cs' := #[I ((if n ≤ manyTo p 5 then (1 : Int) else 2)), r109o4, r109o4x2, r109o4x3, I (u109o4)]) rfl rfl rfl Try.sizeOf34 rfl rfl (fa rfl (fa ((oneCell_rdL (hS109o4.rdl 0 rfl))) (fa ((oneCell_rdL (hS109o4.rdl 1 rfl))) (fa ((oneCell_rdL (hS109o4.rdl 2 rfl))) (fa rfl fe))))) (hS109o4.front 3 rfl) (fun H109o10 hS109o10 hxx => ?_)
     refine ⟨Ext.mono hxx (labS_of 0 rfl (fun b hb => ⟨fun e => hS109o10.dis 0 5 (by decide) rfl rfl _ hb e, fun e => hS109o10.dis 0 6 (by decide) rfl rfl _ hb e, fun e => hS109o10.dis 0 8 (by decide) rfl rfl _ hb e, fun e => hS109o10.dis 0 9 (by decide) rfl rfl _ hb e, fun e => hS109o10.dis 0 11 (by decide) rfl rfl _ hb e, fun e => hS109o10.dis 0 12 (by decide) rfl rfl _ hb e⟩)), ?_⟩
     refine wpR_n [11] (by kernel_rfl) ?_
     refine fa ?_ fe
     refine exE rfl rfl ?_
     refine e_storeBlkA (cs' := #[I (0), I (0)]) rfl rfl rfl Try.sizeOf28 rfl rfl (fa rfl (fa rfl fe)) (hS109o10.front 4 rfl) (fun H109o11 hS109o11 hxx => ?_)
     refine ⟨Ext.mono hxx (labS_of 1 rfl (fun _ _ => trivial)), ?_⟩
     refine wpR_end (by kernel_rfl) ?_
     exact ⟨r109o4, r109o4x2, r109o4x3, u109o4, g109o8, g109o9, hru109o4, y9, y11, y16, y17, rfl, rfl, (hS109o11.drop (sk (sk (sn (sn (sn (sk (sk (sn (sk (sk (sk (sk (sk (sk (List.Sublist.slnil))))))))))))))))⟩
  ·refine exE rfl rfl ?_
   refine e_alloc rfl Try.zeroValue34 hS108 (fun g109o8 H109o8 hS109o8 hxx => ?_)
   refine ⟨Ext.mono hxx (fun _ h => h.elim), ?_⟩
   refine wpR_n [3, 9] (by kernel_rfl) ?_
   refine fa ?_ (fa ?_ fe)
   ·refine exE rfl rfl ?_
    refine e_call rfl Try.call9 (arr1 (v0 := I (o)) rfl) (options_C o (by first | assumption | (constructor <;> omega))) ?_
    rintro _ H109o3 ⟨hxx, q126a, q126b, q126c, q126d, rfl, hq126a, hq126b, hq126c, hq126d⟩
    have hS109o3 := hS109o8.ext hxx
    refine ⟨Ext.mono hxx (fun _ h => h.elim), ?_⟩
    refine wpR_n [4, 9] (by kernel_rfl) ?_
    refine fa ?_ (fa ?_ fe)
    ·refine exE rfl rfl ?_
     refine e_call rfl Try.call8 (arr4 (v0 := Vg #[I (5), r55]) (v1 := va) (v2 := Vg #[I (q126a), I (q126b), I (q126c), I (q126d)]) (v3 := I (2000)) rfl rfl rfl rfl) (Do_S r55 va (atLeast cardL n) (askTo p 5) 5 8 q126a q126b q126c q126d (if n ≤ manyTo p 5 then (1 : Int) else 2) (hS109o3.rdS 6 rfl) (hS109o3.rdS 3 rfl) hg4 hg5 (by omega) (by omega) (by omega) (by omega) (by decide) (card_go hp32 hn7 _).2.1) ?_
     rintro _ H109o4 ⟨hxx, r109o4, r109o4x2, r109o4x3, u109o4, rfl, x127, x128, x129, hrr109o4, hrr109o4x2, hrr109o4x3, hru109o4⟩
     have hS109o4 := ((((hS109o3.ext hxx).rd (hrr109o4x3.sub fun b hb => ⟨hb, SL.lt hS109o3 hb⟩)).rd (hrr109o4x2.sub fun b hb => ⟨(SL_rd hb), SL.lt hS109o3 (SL_rd hb)⟩)).rd (hrr109o4.sub fun b hb => ⟨(SL_rd (SL_rd hb)), SL.lt hS109o3 (SL_rd (SL_rd hb))⟩))
     refine ⟨Ext.mono hxx (fun _ h => h.elim), ?_⟩
     refine rq 5 (by kernel_rfl) rfl rfl (q_move (v := Value.tuple #[Vg #[I ((if n ≤ manyTo p 5 then (1 : Int) else 2)), r109o4, r109o4x2, r109o4x3, I (u109o4)], Vg #[I (0), I (0)]]) rfl rfl) ?_
     refine rq 6 (by kernel_rfl) rfl rfl (q_extract (vs := #[Vg #[I ((if n ≤ manyTo p 5 then (1 : Int) else 2)), r109o4, r109o4x2, r109o4x3, I (u109o4)], Vg #[I (0), I (0)]]) (v := Vg #[I ((if n ≤ manyTo p 5 then (1 : Int) else 2)), r109o4, r109o4x2, r109o4x3, I (u109o4)]) rfl rfl rfl) ?_
     refine rq 7 (by kernel_rfl) rfl rfl (q_extract (vs := #[Vg #[I ((if n ≤ manyTo p 5 then (1 : Int) else 2)), r109o4, r109o4x2, r109o4x3, I (u109o4)], Vg #[I (0), I (0)]]) (v := Vg #[I (0), I (0)]) rfl rfl rfl) ?_
     refine wpR_n [9] (by kernel_rfl) ?_
     refine fa ?_ fe
     refine exE rfl rfl ?_
     refine e_alloc rfl Try.zeroValue28 hS109o4 (fun g109o9 H109o9 hS109o9 hxx => ?_)
     refine ⟨Ext.mono hxx (fun _ h => h.elim), ?_⟩
     refine wpR_n [10] (by kernel_rfl) ?_
     refine fa ?_ fe
     refine exE rfl rfl ?_
     refine e_storeBlkA (cs' := #[I ((if n ≤ manyTo p 5 then (1 : Int) else 2)), r109o4, r109o4x2, r109o4x3, I (u109o4)]) rfl rfl rfl Try.sizeOf34 rfl rfl (fa rfl (fa ((oneCell_rdL (hS109o9.rdl 1 rfl))) (fa ((oneCell_rdL (hS109o9.rdl 2 rfl))) (fa ((oneCell_rdL (hS109o9.rdl 3 rfl))) (fa rfl fe))))) (hS109o9.front 4 rfl) (fun H109o10 hS109o10 hxx => ?_)
     refine ⟨Ext.mono hxx (labS_of 0 rfl (fun b hb => ⟨fun e => hS109o10.dis 0 5 (by decide) rfl rfl _ hb e, fun e => hS109o10.dis 0 6 (by decide) rfl rfl _ hb e, fun e => hS109o10.dis 0 8 (by decide) rfl rfl _ hb e, fun e => hS109o10.dis 0 9 (by decide) rfl rfl _ hb e, fun e => hS109o10.dis 0 11 (by decide) rfl rfl _ hb e, fun e => hS109o10.dis 0 12 (by decide) rfl rfl _ hb e⟩)), ?_⟩
     refine wpR_n [11] (by kernel_rfl) ?_
     refine fa ?_ fe
     refine exE rfl rfl ?_
     refine e_storeBlkA (cs' := #[I (0), I (0)]) rfl rfl rfl Try.sizeOf28 rfl rfl (fa rfl (fa rfl fe)) (hS109o10.front 1 rfl) (fun H109o11 hS109o11 hxx => ?_)
     refine ⟨Ext.mono hxx (labS_of 1 rfl (fun _ _ => trivial)), ?_⟩
     refine wpR_end (by kernel_rfl) ?_
     exact ⟨r109o4, r109o4x2, r109o4x3, u109o4, g109o8, g109o9, hru109o4, y9, y11, y16, y17, rfl, rfl, (hS109o11.drop (sk (sk (sn (sn (sn (sk (sk (sn (sk (sk (sk (sk (sk (sk (List.Sublist.slnil))))))))))))))))⟩
    ·refine exE rfl rfl ?_
     refine e_alloc rfl Try.zeroValue28 hS109o3 (fun g109o9 H109o9 hS109o9 hxx => ?_)
     refine ⟨Ext.mono hxx (fun _ h => h.elim), ?_⟩
     refine wpR_n [4] (by kernel_rfl) ?_
     refine fa ?_ fe
     refine exE rfl rfl ?_
     refine e_call rfl Try.call8 (arr4 (v0 := Vg #[I (5), r55]) (v1 := va) (v2 := Vg #[I (q126a), I (q126b), I (q126c), I (q126d)]) (v3 := I (2000)) rfl rfl rfl rfl) (Do_S r55 va (atLeast cardL n) (askTo p 5) 5 8 q126a q126b q126c q126d (if n ≤ manyTo p 5 then (1 : Int) else 2) (hS109o9.rdS 7 rfl) (hS109o9.rdS 4 rfl) hg4 hg5 (by omega) (by omega) (by omega) (by omega) (by decide) (card_go hp32 hn7 _).2.1) ?_
     rintro _ H109o4 ⟨hxx, r109o4, r109o4x2, r109o4x3, u109o4, rfl, x130, x131, x132, hrr109o4, hrr109o4x2, hrr109o4x3, hru109o4⟩
     have hS109o4 := ((((hS109o9.ext hxx).rd (hrr109o4x3.sub fun b hb => ⟨hb, SL.lt hS109o9 hb⟩)).rd (hrr109o4x2.sub fun b hb => ⟨(SL_rd hb), SL.lt hS109o9 (SL_rd hb)⟩)).rd (hrr109o4.sub fun b hb => ⟨(SL_rd (SL_rd hb)), SL.lt hS109o9 (SL_rd (SL_rd hb))⟩))
     refine ⟨Ext.mono hxx (fun _ h => h.elim), ?_⟩
     refine rq 5 (by kernel_rfl) rfl rfl (q_move (v := Value.tuple #[Vg #[I ((if n ≤ manyTo p 5 then (1 : Int) else 2)), r109o4, r109o4x2, r109o4x3, I (u109o4)], Vg #[I (0), I (0)]]) rfl rfl) ?_
     refine rq 6 (by kernel_rfl) rfl rfl (q_extract (vs := #[Vg #[I ((if n ≤ manyTo p 5 then (1 : Int) else 2)), r109o4, r109o4x2, r109o4x3, I (u109o4)], Vg #[I (0), I (0)]]) (v := Vg #[I ((if n ≤ manyTo p 5 then (1 : Int) else 2)), r109o4, r109o4x2, r109o4x3, I (u109o4)]) rfl rfl rfl) ?_
     refine rq 7 (by kernel_rfl) rfl rfl (q_extract (vs := #[Vg #[I ((if n ≤ manyTo p 5 then (1 : Int) else 2)), r109o4, r109o4x2, r109o4x3, I (u109o4)], Vg #[I (0), I (0)]]) (v := Vg #[I (0), I (0)]) rfl rfl rfl) ?_
     refine wpR_n [10] (by kernel_rfl) ?_
     refine fa ?_ fe
     refine exE rfl rfl ?_
     refine e_storeBlkA (cs' := #[I ((if n ≤ manyTo p 5 then (1 : Int) else 2)), r109o4, r109o4x2, r109o4x3, I (u109o4)]) rfl rfl rfl Try.sizeOf34 rfl rfl (fa rfl (fa ((oneCell_rdL (hS109o4.rdl 0 rfl))) (fa ((oneCell_rdL (hS109o4.rdl 1 rfl))) (fa ((oneCell_rdL (hS109o4.rdl 2 rfl))) (fa rfl fe))))) (hS109o4.front 4 rfl) (fun H109o10 hS109o10 hxx => ?_)
     refine ⟨Ext.mono hxx (labS_of 0 rfl (fun b hb => ⟨fun e => hS109o10.dis 0 5 (by decide) rfl rfl _ hb e, fun e => hS109o10.dis 0 6 (by decide) rfl rfl _ hb e, fun e => hS109o10.dis 0 8 (by decide) rfl rfl _ hb e, fun e => hS109o10.dis 0 9 (by decide) rfl rfl _ hb e, fun e => hS109o10.dis 0 11 (by decide) rfl rfl _ hb e, fun e => hS109o10.dis 0 12 (by decide) rfl rfl _ hb e⟩)), ?_⟩
     refine wpR_n [11] (by kernel_rfl) ?_
     refine fa ?_ fe
     refine exE rfl rfl ?_
     refine e_storeBlkA (cs' := #[I (0), I (0)]) rfl rfl rfl Try.sizeOf28 rfl rfl (fa rfl (fa rfl fe)) (hS109o10.front 4 rfl) (fun H109o11 hS109o11 hxx => ?_)
     refine ⟨Ext.mono hxx (labS_of 1 rfl (fun _ _ => trivial)), ?_⟩
     refine wpR_end (by kernel_rfl) ?_
     exact ⟨r109o4, r109o4x2, r109o4x3, u109o4, g109o8, g109o9, hru109o4, y9, y11, y16, y17, rfl, rfl, (hS109o11.drop (sk (sk (sn (sn (sn (sk (sk (sn (sk (sk (sk (sk (sk (sk (List.Sublist.slnil))))))))))))))))⟩
   ·refine exE rfl rfl ?_
    refine e_alloc rfl Try.zeroValue28 hS109o8 (fun g109o9 H109o9 hS109o9 hxx => ?_)
    refine ⟨Ext.mono hxx (fun _ h => h.elim), ?_⟩
    refine wpR_n [3] (by kernel_rfl) ?_
    refine fa ?_ fe
    refine exE rfl rfl ?_
    refine e_call rfl Try.call9 (arr1 (v0 := I (o)) rfl) (options_C o (by first | assumption | (constructor <;> omega))) ?_
    rintro _ H109o3 ⟨hxx, q133a, q133b, q133c, q133d, rfl, hq133a, hq133b, hq133c, hq133d⟩
    have hS109o3 := hS109o9.ext hxx
    refine ⟨Ext.mono hxx (fun _ h => h.elim), ?_⟩
    refine wpR_n [4] (by kernel_rfl) ?_
    refine fa ?_ fe
    refine exE rfl rfl ?_
    refine e_call rfl Try.call8 (arr4 (v0 := Vg #[I (5), r55]) (v1 := va) (v2 := Vg #[I (q133a), I (q133b), I (q133c), I (q133d)]) (v3 := I (2000)) rfl rfl rfl rfl) (Do_S r55 va (atLeast cardL n) (askTo p 5) 5 8 q133a q133b q133c q133d (if n ≤ manyTo p 5 then (1 : Int) else 2) (hS109o3.rdS 7 rfl) (hS109o3.rdS 4 rfl) hg4 hg5 (by omega) (by omega) (by omega) (by omega) (by decide) (card_go hp32 hn7 _).2.1) ?_
    rintro _ H109o4 ⟨hxx, r109o4, r109o4x2, r109o4x3, u109o4, rfl, x134, x135, x136, hrr109o4, hrr109o4x2, hrr109o4x3, hru109o4⟩
    have hS109o4 := ((((hS109o3.ext hxx).rd (hrr109o4x3.sub fun b hb => ⟨hb, SL.lt hS109o3 hb⟩)).rd (hrr109o4x2.sub fun b hb => ⟨(SL_rd hb), SL.lt hS109o3 (SL_rd hb)⟩)).rd (hrr109o4.sub fun b hb => ⟨(SL_rd (SL_rd hb)), SL.lt hS109o3 (SL_rd (SL_rd hb))⟩))
    refine ⟨Ext.mono hxx (fun _ h => h.elim), ?_⟩
    refine rq 5 (by kernel_rfl) rfl rfl (q_move (v := Value.tuple #[Vg #[I ((if n ≤ manyTo p 5 then (1 : Int) else 2)), r109o4, r109o4x2, r109o4x3, I (u109o4)], Vg #[I (0), I (0)]]) rfl rfl) ?_
    refine rq 6 (by kernel_rfl) rfl rfl (q_extract (vs := #[Vg #[I ((if n ≤ manyTo p 5 then (1 : Int) else 2)), r109o4, r109o4x2, r109o4x3, I (u109o4)], Vg #[I (0), I (0)]]) (v := Vg #[I ((if n ≤ manyTo p 5 then (1 : Int) else 2)), r109o4, r109o4x2, r109o4x3, I (u109o4)]) rfl rfl rfl) ?_
    refine rq 7 (by kernel_rfl) rfl rfl (q_extract (vs := #[Vg #[I ((if n ≤ manyTo p 5 then (1 : Int) else 2)), r109o4, r109o4x2, r109o4x3, I (u109o4)], Vg #[I (0), I (0)]]) (v := Vg #[I (0), I (0)]) rfl rfl rfl) ?_
    refine wpR_n [10] (by kernel_rfl) ?_
    refine fa ?_ fe
    refine exE rfl rfl ?_
    refine e_storeBlkA (cs' := #[I ((if n ≤ manyTo p 5 then (1 : Int) else 2)), r109o4, r109o4x2, r109o4x3, I (u109o4)]) rfl rfl rfl Try.sizeOf34 rfl rfl (fa rfl (fa ((oneCell_rdL (hS109o4.rdl 0 rfl))) (fa ((oneCell_rdL (hS109o4.rdl 1 rfl))) (fa ((oneCell_rdL (hS109o4.rdl 2 rfl))) (fa rfl fe))))) (hS109o4.front 4 rfl) (fun H109o10 hS109o10 hxx => ?_)
    refine ⟨Ext.mono hxx (labS_of 0 rfl (fun b hb => ⟨fun e => hS109o10.dis 0 5 (by decide) rfl rfl _ hb e, fun e => hS109o10.dis 0 6 (by decide) rfl rfl _ hb e, fun e => hS109o10.dis 0 8 (by decide) rfl rfl _ hb e, fun e => hS109o10.dis 0 9 (by decide) rfl rfl _ hb e, fun e => hS109o10.dis 0 11 (by decide) rfl rfl _ hb e, fun e => hS109o10.dis 0 12 (by decide) rfl rfl _ hb e⟩)), ?_⟩
    refine wpR_n [11] (by kernel_rfl) ?_
    refine fa ?_ fe
    refine exE rfl rfl ?_
    refine e_storeBlkA (cs' := #[I (0), I (0)]) rfl rfl rfl Try.sizeOf28 rfl rfl (fa rfl (fa rfl fe)) (hS109o10.front 4 rfl) (fun H109o11 hS109o11 hxx => ?_)
    refine ⟨Ext.mono hxx (labS_of 1 rfl (fun _ _ => trivial)), ?_⟩
    refine wpR_end (by kernel_rfl) ?_
    exact ⟨r109o4, r109o4x2, r109o4x3, u109o4, g109o8, g109o9, hru109o4, y9, y11, y16, y17, rfl, rfl, (hS109o11.drop (sk (sk (sn (sn (sn (sk (sk (sn (sk (sk (sk (sk (sk (sk (List.Sublist.slnil))))))))))))))))⟩
  ·refine exE rfl rfl ?_
   refine e_alloc rfl Try.zeroValue28 hS108 (fun g109o9 H109o9 hS109o9 hxx => ?_)
   refine ⟨Ext.mono hxx (fun _ h => h.elim), ?_⟩
   refine wpR_n [3, 8] (by kernel_rfl) ?_
   refine fa ?_ (fa ?_ fe)
   ·refine exE rfl rfl ?_
    refine e_call rfl Try.call9 (arr1 (v0 := I (o)) rfl) (options_C o (by first | assumption | (constructor <;> omega))) ?_
    rintro _ H109o3 ⟨hxx, q137a, q137b, q137c, q137d, rfl, hq137a, hq137b, hq137c, hq137d⟩
    have hS109o3 := hS109o9.ext hxx
    refine ⟨Ext.mono hxx (fun _ h => h.elim), ?_⟩
    refine wpR_n [4, 8] (by kernel_rfl) ?_
    refine fa ?_ (fa ?_ fe)
    ·refine exE rfl rfl ?_
     refine e_call rfl Try.call8 (arr4 (v0 := Vg #[I (5), r55]) (v1 := va) (v2 := Vg #[I (q137a), I (q137b), I (q137c), I (q137d)]) (v3 := I (2000)) rfl rfl rfl rfl) (Do_S r55 va (atLeast cardL n) (askTo p 5) 5 8 q137a q137b q137c q137d (if n ≤ manyTo p 5 then (1 : Int) else 2) (hS109o3.rdS 6 rfl) (hS109o3.rdS 3 rfl) hg4 hg5 (by omega) (by omega) (by omega) (by omega) (by decide) (card_go hp32 hn7 _).2.1) ?_
     rintro _ H109o4 ⟨hxx, r109o4, r109o4x2, r109o4x3, u109o4, rfl, x138, x139, x140, hrr109o4, hrr109o4x2, hrr109o4x3, hru109o4⟩
     have hS109o4 := ((((hS109o3.ext hxx).rd (hrr109o4x3.sub fun b hb => ⟨hb, SL.lt hS109o3 hb⟩)).rd (hrr109o4x2.sub fun b hb => ⟨(SL_rd hb), SL.lt hS109o3 (SL_rd hb)⟩)).rd (hrr109o4.sub fun b hb => ⟨(SL_rd (SL_rd hb)), SL.lt hS109o3 (SL_rd (SL_rd hb))⟩))
     refine ⟨Ext.mono hxx (fun _ h => h.elim), ?_⟩
     refine rq 5 (by kernel_rfl) rfl rfl (q_move (v := Value.tuple #[Vg #[I ((if n ≤ manyTo p 5 then (1 : Int) else 2)), r109o4, r109o4x2, r109o4x3, I (u109o4)], Vg #[I (0), I (0)]]) rfl rfl) ?_
     refine rq 6 (by kernel_rfl) rfl rfl (q_extract (vs := #[Vg #[I ((if n ≤ manyTo p 5 then (1 : Int) else 2)), r109o4, r109o4x2, r109o4x3, I (u109o4)], Vg #[I (0), I (0)]]) (v := Vg #[I ((if n ≤ manyTo p 5 then (1 : Int) else 2)), r109o4, r109o4x2, r109o4x3, I (u109o4)]) rfl rfl rfl) ?_
     refine rq 7 (by kernel_rfl) rfl rfl (q_extract (vs := #[Vg #[I ((if n ≤ manyTo p 5 then (1 : Int) else 2)), r109o4, r109o4x2, r109o4x3, I (u109o4)], Vg #[I (0), I (0)]]) (v := Vg #[I (0), I (0)]) rfl rfl rfl) ?_
     refine wpR_n [8] (by kernel_rfl) ?_
     refine fa ?_ fe
     refine exE rfl rfl ?_
     refine e_alloc rfl Try.zeroValue34 hS109o4 (fun g109o8 H109o8 hS109o8 hxx => ?_)
     refine ⟨Ext.mono hxx (fun _ h => h.elim), ?_⟩
     refine wpR_n [10] (by kernel_rfl) ?_
     refine fa ?_ fe
     refine exE rfl rfl ?_
     refine e_storeBlkA (cs' := #[I ((if n ≤ manyTo p 5 then (1 : Int) else 2)), r109o4, r109o4x2, r109o4x3, I (u109o4)]) rfl rfl rfl Try.sizeOf34 rfl rfl (fa rfl (fa ((oneCell_rdL (hS109o8.rdl 1 rfl))) (fa ((oneCell_rdL (hS109o8.rdl 2 rfl))) (fa ((oneCell_rdL (hS109o8.rdl 3 rfl))) (fa rfl fe))))) hS109o8 (fun H109o10 hS109o10 hxx => ?_)
     refine ⟨Ext.mono hxx (labS_of 0 rfl (fun b hb => ⟨fun e => hS109o10.dis 0 5 (by decide) rfl rfl _ hb e, fun e => hS109o10.dis 0 6 (by decide) rfl rfl _ hb e, fun e => hS109o10.dis 0 8 (by decide) rfl rfl _ hb e, fun e => hS109o10.dis 0 9 (by decide) rfl rfl _ hb e, fun e => hS109o10.dis 0 11 (by decide) rfl rfl _ hb e, fun e => hS109o10.dis 0 12 (by decide) rfl rfl _ hb e⟩)), ?_⟩
     refine wpR_n [11] (by kernel_rfl) ?_
     refine fa ?_ fe
     refine exE rfl rfl ?_
     refine e_storeBlkA (cs' := #[I (0), I (0)]) rfl rfl rfl Try.sizeOf28 rfl rfl (fa rfl (fa rfl fe)) (hS109o10.front 4 rfl) (fun H109o11 hS109o11 hxx => ?_)
     refine ⟨Ext.mono hxx (labS_of 1 rfl (fun _ _ => trivial)), ?_⟩
     refine wpR_end (by kernel_rfl) ?_
     exact ⟨r109o4, r109o4x2, r109o4x3, u109o4, g109o8, g109o9, hru109o4, y9, y11, y16, y17, rfl, rfl, (hS109o11.drop (sk (sk (sn (sn (sn (sk (sk (sn (sk (sk (sk (sk (sk (sk (List.Sublist.slnil))))))))))))))))⟩
    ·refine exE rfl rfl ?_
     refine e_alloc rfl Try.zeroValue34 hS109o3 (fun g109o8 H109o8 hS109o8 hxx => ?_)
     refine ⟨Ext.mono hxx (fun _ h => h.elim), ?_⟩
     refine wpR_n [4] (by kernel_rfl) ?_
     refine fa ?_ fe
     refine exE rfl rfl ?_
     refine e_call rfl Try.call8 (arr4 (v0 := Vg #[I (5), r55]) (v1 := va) (v2 := Vg #[I (q137a), I (q137b), I (q137c), I (q137d)]) (v3 := I (2000)) rfl rfl rfl rfl) (Do_S r55 va (atLeast cardL n) (askTo p 5) 5 8 q137a q137b q137c q137d (if n ≤ manyTo p 5 then (1 : Int) else 2) (hS109o8.rdS 7 rfl) (hS109o8.rdS 4 rfl) hg4 hg5 (by omega) (by omega) (by omega) (by omega) (by decide) (card_go hp32 hn7 _).2.1) ?_
     rintro _ H109o4 ⟨hxx, r109o4, r109o4x2, r109o4x3, u109o4, rfl, x141, x142, x143, hrr109o4, hrr109o4x2, hrr109o4x3, hru109o4⟩
     have hS109o4 := ((((hS109o8.ext hxx).rd (hrr109o4x3.sub fun b hb => ⟨hb, SL.lt hS109o8 hb⟩)).rd (hrr109o4x2.sub fun b hb => ⟨(SL_rd hb), SL.lt hS109o8 (SL_rd hb)⟩)).rd (hrr109o4.sub fun b hb => ⟨(SL_rd (SL_rd hb)), SL.lt hS109o8 (SL_rd (SL_rd hb))⟩))
     refine ⟨Ext.mono hxx (fun _ h => h.elim), ?_⟩
     refine rq 5 (by kernel_rfl) rfl rfl (q_move (v := Value.tuple #[Vg #[I ((if n ≤ manyTo p 5 then (1 : Int) else 2)), r109o4, r109o4x2, r109o4x3, I (u109o4)], Vg #[I (0), I (0)]]) rfl rfl) ?_
     refine rq 6 (by kernel_rfl) rfl rfl (q_extract (vs := #[Vg #[I ((if n ≤ manyTo p 5 then (1 : Int) else 2)), r109o4, r109o4x2, r109o4x3, I (u109o4)], Vg #[I (0), I (0)]]) (v := Vg #[I ((if n ≤ manyTo p 5 then (1 : Int) else 2)), r109o4, r109o4x2, r109o4x3, I (u109o4)]) rfl rfl rfl) ?_
     refine rq 7 (by kernel_rfl) rfl rfl (q_extract (vs := #[Vg #[I ((if n ≤ manyTo p 5 then (1 : Int) else 2)), r109o4, r109o4x2, r109o4x3, I (u109o4)], Vg #[I (0), I (0)]]) (v := Vg #[I (0), I (0)]) rfl rfl rfl) ?_
     refine wpR_n [10] (by kernel_rfl) ?_
     refine fa ?_ fe
     refine exE rfl rfl ?_
     refine e_storeBlkA (cs' := #[I ((if n ≤ manyTo p 5 then (1 : Int) else 2)), r109o4, r109o4x2, r109o4x3, I (u109o4)]) rfl rfl rfl Try.sizeOf34 rfl rfl (fa rfl (fa ((oneCell_rdL (hS109o4.rdl 0 rfl))) (fa ((oneCell_rdL (hS109o4.rdl 1 rfl))) (fa ((oneCell_rdL (hS109o4.rdl 2 rfl))) (fa rfl fe))))) (hS109o4.front 3 rfl) (fun H109o10 hS109o10 hxx => ?_)
     refine ⟨Ext.mono hxx (labS_of 0 rfl (fun b hb => ⟨fun e => hS109o10.dis 0 5 (by decide) rfl rfl _ hb e, fun e => hS109o10.dis 0 6 (by decide) rfl rfl _ hb e, fun e => hS109o10.dis 0 8 (by decide) rfl rfl _ hb e, fun e => hS109o10.dis 0 9 (by decide) rfl rfl _ hb e, fun e => hS109o10.dis 0 11 (by decide) rfl rfl _ hb e, fun e => hS109o10.dis 0 12 (by decide) rfl rfl _ hb e⟩)), ?_⟩
     refine wpR_n [11] (by kernel_rfl) ?_
     refine fa ?_ fe
     refine exE rfl rfl ?_
     refine e_storeBlkA (cs' := #[I (0), I (0)]) rfl rfl rfl Try.sizeOf28 rfl rfl (fa rfl (fa rfl fe)) (hS109o10.front 4 rfl) (fun H109o11 hS109o11 hxx => ?_)
     refine ⟨Ext.mono hxx (labS_of 1 rfl (fun _ _ => trivial)), ?_⟩
     refine wpR_end (by kernel_rfl) ?_
     exact ⟨r109o4, r109o4x2, r109o4x3, u109o4, g109o8, g109o9, hru109o4, y9, y11, y16, y17, rfl, rfl, (hS109o11.drop (sk (sk (sn (sn (sn (sk (sk (sn (sk (sk (sk (sk (sk (sk (List.Sublist.slnil))))))))))))))))⟩
   ·refine exE rfl rfl ?_
    refine e_alloc rfl Try.zeroValue34 hS109o9 (fun g109o8 H109o8 hS109o8 hxx => ?_)
    refine ⟨Ext.mono hxx (fun _ h => h.elim), ?_⟩
    refine wpR_n [3] (by kernel_rfl) ?_
    refine fa ?_ fe
    refine exE rfl rfl ?_
    refine e_call rfl Try.call9 (arr1 (v0 := I (o)) rfl) (options_C o (by first | assumption | (constructor <;> omega))) ?_
    rintro _ H109o3 ⟨hxx, q144a, q144b, q144c, q144d, rfl, hq144a, hq144b, hq144c, hq144d⟩
    have hS109o3 := hS109o8.ext hxx
    refine ⟨Ext.mono hxx (fun _ h => h.elim), ?_⟩
    refine wpR_n [4] (by kernel_rfl) ?_
    refine fa ?_ fe
    refine exE rfl rfl ?_
    refine e_call rfl Try.call8 (arr4 (v0 := Vg #[I (5), r55]) (v1 := va) (v2 := Vg #[I (q144a), I (q144b), I (q144c), I (q144d)]) (v3 := I (2000)) rfl rfl rfl rfl) (Do_S r55 va (atLeast cardL n) (askTo p 5) 5 8 q144a q144b q144c q144d (if n ≤ manyTo p 5 then (1 : Int) else 2) (hS109o3.rdS 7 rfl) (hS109o3.rdS 4 rfl) hg4 hg5 (by omega) (by omega) (by omega) (by omega) (by decide) (card_go hp32 hn7 _).2.1) ?_
    rintro _ H109o4 ⟨hxx, r109o4, r109o4x2, r109o4x3, u109o4, rfl, x145, x146, x147, hrr109o4, hrr109o4x2, hrr109o4x3, hru109o4⟩
    have hS109o4 := ((((hS109o3.ext hxx).rd (hrr109o4x3.sub fun b hb => ⟨hb, SL.lt hS109o3 hb⟩)).rd (hrr109o4x2.sub fun b hb => ⟨(SL_rd hb), SL.lt hS109o3 (SL_rd hb)⟩)).rd (hrr109o4.sub fun b hb => ⟨(SL_rd (SL_rd hb)), SL.lt hS109o3 (SL_rd (SL_rd hb))⟩))
    refine ⟨Ext.mono hxx (fun _ h => h.elim), ?_⟩
    refine rq 5 (by kernel_rfl) rfl rfl (q_move (v := Value.tuple #[Vg #[I ((if n ≤ manyTo p 5 then (1 : Int) else 2)), r109o4, r109o4x2, r109o4x3, I (u109o4)], Vg #[I (0), I (0)]]) rfl rfl) ?_
    refine rq 6 (by kernel_rfl) rfl rfl (q_extract (vs := #[Vg #[I ((if n ≤ manyTo p 5 then (1 : Int) else 2)), r109o4, r109o4x2, r109o4x3, I (u109o4)], Vg #[I (0), I (0)]]) (v := Vg #[I ((if n ≤ manyTo p 5 then (1 : Int) else 2)), r109o4, r109o4x2, r109o4x3, I (u109o4)]) rfl rfl rfl) ?_
    refine rq 7 (by kernel_rfl) rfl rfl (q_extract (vs := #[Vg #[I ((if n ≤ manyTo p 5 then (1 : Int) else 2)), r109o4, r109o4x2, r109o4x3, I (u109o4)], Vg #[I (0), I (0)]]) (v := Vg #[I (0), I (0)]) rfl rfl rfl) ?_
    refine wpR_n [10] (by kernel_rfl) ?_
    refine fa ?_ fe
    refine exE rfl rfl ?_
    refine e_storeBlkA (cs' := #[I ((if n ≤ manyTo p 5 then (1 : Int) else 2)), r109o4, r109o4x2, r109o4x3, I (u109o4)]) rfl rfl rfl Try.sizeOf34 rfl rfl (fa rfl (fa ((oneCell_rdL (hS109o4.rdl 0 rfl))) (fa ((oneCell_rdL (hS109o4.rdl 1 rfl))) (fa ((oneCell_rdL (hS109o4.rdl 2 rfl))) (fa rfl fe))))) (hS109o4.front 3 rfl) (fun H109o10 hS109o10 hxx => ?_)
    refine ⟨Ext.mono hxx (labS_of 0 rfl (fun b hb => ⟨fun e => hS109o10.dis 0 5 (by decide) rfl rfl _ hb e, fun e => hS109o10.dis 0 6 (by decide) rfl rfl _ hb e, fun e => hS109o10.dis 0 8 (by decide) rfl rfl _ hb e, fun e => hS109o10.dis 0 9 (by decide) rfl rfl _ hb e, fun e => hS109o10.dis 0 11 (by decide) rfl rfl _ hb e, fun e => hS109o10.dis 0 12 (by decide) rfl rfl _ hb e⟩)), ?_⟩
    refine wpR_n [11] (by kernel_rfl) ?_
    refine fa ?_ fe
    refine exE rfl rfl ?_
    refine e_storeBlkA (cs' := #[I (0), I (0)]) rfl rfl rfl Try.sizeOf28 rfl rfl (fa rfl (fa rfl fe)) (hS109o10.front 4 rfl) (fun H109o11 hS109o11 hxx => ?_)
    refine ⟨Ext.mono hxx (labS_of 1 rfl (fun _ _ => trivial)), ?_⟩
    refine wpR_end (by kernel_rfl) ?_
    exact ⟨r109o4, r109o4x2, r109o4x3, u109o4, g109o8, g109o9, hru109o4, y9, y11, y16, y17, rfl, rfl, (hS109o11.drop (sk (sk (sn (sn (sn (sk (sk (sn (sk (sk (sk (sk (sk (sk (List.Sublist.slnil))))))))))))))))⟩
 clear y11 y14 y16 y17 y2 y8 y9
 rintro f148 H148 ⟨r109o4, r109o4x2, r109o4x3, u109o4, g109o8, g109o9, hru109o4, y9, y11, y16, y17, y18, y19, hS148⟩
 refine wpF_seq ?_
 refine wpF_seq ?_
 refine wpF_region ?_
 refine lq rfl (q_fieldAddr rfl Try.underlying28 rfl Try.sizeOf3 y17) ?_
 refine lq rfl (q_loadBlk rfl rfl Try.isAgg3 (hS148.blk 2 rfl) rfl (fun h => h)) ?_
 refine lq rfl (q_neqF rfl rfl rfl rfl) ?_
 refine lm (v := B (false)) rfl rfl rfl ?_
 refine gq rfl rfl rfl rfl (q_fieldAddr rfl Try.underlying28 rfl Try.sizeOf3 y19) ?_
 refine gq rfl rfl rfl rfl (q_loadBlk rfl rfl Try.isAgg3 (hS148.blk 0 rfl) rfl (fun h => h)) ?_
 refine gq rfl rfl rfl rfl (q_neqF rfl rfl rfl rfl) ?_
 refine lq rfl (q_pickF (v := B (false)) rfl rfl rfl) ?_
 refine lm (v := B (false)) rfl rfl rfl ?_
 refine wpL_go rfl rfl rfl rfl ?_
 refine e_call rfl Try.call10 arr0 (sure_S) ?_
 rintro _ H149 ⟨hxx, rfl⟩
 have hS150 := hS148.ext hxx
 refine gq rfl rfl rfl rfl (q_not rfl rfl) ?_
 refine lq rfl (q_pickF (v := B (false)) rfl rfl rfl) ?_
 refine wpL_nil ?_
 refine wpF_condF rfl ?_
 refine wpF_skip ?_
 refine fcr (fun f H => f 6 = B (decide ((((if manyTo p 5 ≤ n then (1 : Int) else 2) = 3) ∨ ((decide ((if manyTo p 5 ≤ n then (1 : Int) else 2) = 1)) = (decide (mc ≤ (n : Int))))) ∧ (((if n ≤ manyTo p 5 then (1 : Int) else 2) = 3) ∨ ((decide ((if n ≤ manyTo p 5 then (1 : Int) else 2) = 1)) = (decide ((n : Int) ≤ mc)))))) ∧ H149 = H) ?_ ?_
 ·refine lq rfl (q_fieldAddr rfl Try.underlying34 rfl Try.sizeOf3 y16) ?_
  refine lq rfl (q_loadBlk rfl rfl Try.isAgg3 (hS150.blk 3 rfl) rfl (fun h => h)) ?_
  refine lq rfl (q_eql rfl rfl rfl) ?_
  refine lm (v := B (decide ((if manyTo p 5 ≤ n then (1 : Int) else 2) = 3))) rfl rfl rfl ?_
  by_cases hg152 : (if manyTo p 5 ≤ n then (1 : Int) else 2) = 3
  ·have hb153 := Eq.trans rfl (congrArg B (decide_eq_true hg152))
   refine wpL_gs rfl rfl rfl hb153 rfl ?_
   refine wpL_gs rfl rfl rfl hb153 rfl ?_
   refine wpL_gs rfl rfl rfl hb153 rfl ?_
   refine wpL_gs rfl rfl rfl hb153 rfl ?_
   refine wpL_gs rfl rfl rfl hb153 rfl ?_
   refine wpL_gs rfl rfl rfl hb153 rfl ?_
   refine wpL_gs rfl rfl rfl hb153 rfl ?_
   refine lq rfl (q_pickT (v := B (true)) rfl hb153 rfl) ?_
   refine lm (v := B (true)) rfl rfl rfl ?_
   refine gq rfl rfl rfl rfl (q_fieldAddr rfl Try.underlying34 rfl Try.sizeOf3 y18) ?_
   refine gq rfl rfl rfl rfl (q_loadBlk rfl rfl Try.isAgg3 (hS150.blk 1 rfl) rfl (fun h => h)) ?_
   refine gq rfl rfl rfl rfl (q_eql rfl rfl rfl) ?_
   refine gq rfl rfl rfl rfl (q_move (v := B (decide ((if n ≤ manyTo p 5 then (1 : Int) else 2) = 3))) rfl rfl) ?_
   by_cases hg155 : (if n ≤ manyTo p 5 then (1 : Int) else 2) = 3
   ·have hb156 := Eq.trans rfl (congrArg B (decide_eq_true hg155))
    refine wpL_gs rfl rfl rfl hb156 rfl ?_
    refine wpL_gs rfl rfl rfl hb156 rfl ?_
    refine wpL_gs rfl rfl rfl hb156 rfl ?_
    refine wpL_gs rfl rfl rfl hb156 rfl ?_
    refine wpL_gs rfl rfl rfl hb156 rfl ?_
    refine wpL_gs rfl rfl rfl hb156 rfl ?_
    refine wpL_gs rfl rfl rfl hb156 rfl ?_
    refine gq rfl rfl rfl rfl (q_pickT (v := B (true)) rfl hb156 rfl) ?_
    refine lq rfl (q_pickT (v := B (true)) rfl rfl rfl) ?_
    refine la (v := B (true)) rfl rfl rfl ?_
    exact ⟨(Eq.trans rfl (congrArg B ((decide_eq_true ⟨(Or.inl hg152), (Or.inl hg155)⟩).symm))), rfl⟩
   ·have hb157 := Eq.trans rfl (congrArg B (decide_eq_false hg155))
    refine gq rfl rfl rfl hb157 (q_fieldAddr rfl Try.underlying34 rfl Try.sizeOf3 y18) ?_
    refine gq rfl rfl rfl hb157 (q_loadBlk rfl rfl Try.isAgg3 (hS150.blk 1 rfl) rfl (fun h => h)) ?_
    refine gq rfl rfl rfl hb157 (q_eql rfl rfl rfl) ?_
    refine gq rfl rfl rfl hb157 (q_move (v := I (mc)) rfl y9) ?_
    refine gq rfl rfl rfl hb157 (q_move (v := I ((n : Int))) rfl y11) ?_
    refine gq rfl rfl rfl hb157 (q_geq rfl rfl rfl) ?_
    refine gq rfl rfl rfl hb157 (q_eqlB rfl Try.underlying4 rfl rfl) ?_
    refine gq rfl rfl rfl rfl (q_pickF (v := B (decide ((decide ((if n ≤ manyTo p 5 then (1 : Int) else 2) = 1)) = (decide ((n : Int) ≤ mc))))) rfl hb157 rfl) ?_
    refine lq rfl (q_pickT (v := B (decide ((decide ((if n ≤ manyTo p 5 then (1 : Int) else 2) = 1)) = (decide ((n : Int) ≤ mc))))) rfl rfl rfl) ?_
    refine la (v := B (decide ((decide ((if n ≤ manyTo p 5 then (1 : Int) else 2) = 1)) = (decide ((n : Int) ≤ mc))))) rfl rfl rfl ?_
    exact ⟨(Eq.trans rfl (congrArg B (decide_congr_of ((Iff.rfl).trans (((and_iff_right (Or.inl hg152)).trans ((or_iff_right hg155).trans Iff.rfl))).symm)))), rfl⟩
  ·have hb154 := Eq.trans rfl (congrArg B (decide_eq_false hg152))
   refine gq rfl rfl rfl hb154 (q_fieldAddr rfl Try.underlying34 rfl Try.sizeOf3 y16) ?_
   refine gq rfl rfl rfl hb154 (q_loadBlk rfl rfl Try.isAgg3 (hS150.blk 3 rfl) rfl (fun h => h)) ?_
   refine gq rfl rfl rfl hb154 (q_eql rfl rfl rfl) ?_
   refine gq rfl rfl rfl hb154 (q_move (v := I (mc)) rfl y9) ?_
   refine gq rfl rfl rfl hb154 (q_move (v := I ((n : Int))) rfl y11) ?_
   refine gq rfl rfl rfl hb154 (q_leq rfl rfl rfl) ?_
   refine gq rfl rfl rfl hb154 (q_eqlB rfl Try.underlying4 rfl rfl) ?_
   refine lq rfl (q_pickF (v := B (decide ((decide ((if manyTo p 5 ≤ n then (1 : Int) else 2) = 1)) = (decide (mc ≤ (n : Int)))))) rfl hb154 rfl) ?_
   refine lm (v := B (decide ((decide ((if manyTo p 5 ≤ n then (1 : Int) else 2) = 1)) = (decide (mc ≤ (n : Int)))))) rfl rfl rfl ?_
   by_cases hg158 : (decide ((if manyTo p 5 ≤ n then (1 : Int) else 2) = 1)) = (decide (mc ≤ (n : Int)))
   ·have hb159 := Eq.trans rfl (congrArg B (decide_eq_true hg158))
    refine gq rfl rfl rfl hb159 (q_fieldAddr rfl Try.underlying34 rfl Try.sizeOf3 y18) ?_
    refine gq rfl rfl rfl hb159 (q_loadBlk rfl rfl Try.isAgg3 (hS150.blk 1 rfl) rfl (fun h => h)) ?_
    refine gq rfl rfl rfl hb159 (q_eql rfl rfl rfl) ?_
    refine gq rfl rfl rfl hb159 (q_move (v := B (decide ((if n ≤ manyTo p 5 then (1 : Int) else 2) = 3))) rfl rfl) ?_
    by_cases hg161 : (if n ≤ manyTo p 5 then (1 : Int) else 2) = 3
    ·have hb162 := Eq.trans rfl (congrArg B (decide_eq_true hg161))
     refine wpL_gs rfl rfl rfl hb162 rfl ?_
     refine wpL_gs rfl rfl rfl hb162 rfl ?_
     refine wpL_gs rfl rfl rfl hb162 rfl ?_
     refine wpL_gs rfl rfl rfl hb162 rfl ?_
     refine wpL_gs rfl rfl rfl hb162 rfl ?_
     refine wpL_gs rfl rfl rfl hb162 rfl ?_
     refine wpL_gs rfl rfl rfl hb162 rfl ?_
     refine gq rfl rfl rfl hb159 (q_pickT (v := B (true)) rfl hb162 rfl) ?_
     refine lq rfl (q_pickT (v := B (true)) rfl hb159 rfl) ?_
     refine la (v := B (true)) rfl rfl rfl ?_
     exact ⟨(Eq.trans rfl (congrArg B ((decide_eq_true ⟨(Or.inr hg158), (Or.inl hg161)⟩).symm))), rfl⟩
    ·have hb163 := Eq.trans rfl (congrArg B (decide_eq_false hg161))
     refine gq rfl rfl rfl hb163 (q_fieldAddr rfl Try.underlying34 rfl Try.sizeOf3 y18) ?_
     refine gq rfl rfl rfl hb163 (q_loadBlk rfl rfl Try.isAgg3 (hS150.blk 1 rfl) rfl (fun h => h)) ?_
     refine gq rfl rfl rfl hb163 (q_eql rfl rfl rfl) ?_
     refine gq rfl rfl rfl hb163 (q_move (v := I (mc)) rfl y9) ?_
     refine gq rfl rfl rfl hb163 (q_move (v := I ((n : Int))) rfl y11) ?_
     refine gq rfl rfl rfl hb163 (q_geq rfl rfl rfl) ?_
     refine gq rfl rfl rfl hb163 (q_eqlB rfl Try.underlying4 rfl rfl) ?_
     refine gq rfl rfl rfl hb159 (q_pickF (v := B (decide ((decide ((if n ≤ manyTo p 5 then (1 : Int) else 2) = 1)) = (decide ((n : Int) ≤ mc))))) rfl hb163 rfl) ?_
     refine lq rfl (q_pickT (v := B (decide ((decide ((if n ≤ manyTo p 5 then (1 : Int) else 2) = 1)) = (decide ((n : Int) ≤ mc))))) rfl hb159 rfl) ?_
     refine la (v := B (decide ((decide ((if n ≤ manyTo p 5 then (1 : Int) else 2) = 1)) = (decide ((n : Int) ≤ mc))))) rfl rfl rfl ?_
     exact ⟨(Eq.trans rfl (congrArg B (decide_congr_of ((Iff.rfl).trans (((and_iff_right (Or.inr hg158)).trans ((or_iff_right hg161).trans Iff.rfl))).symm)))), rfl⟩
   ·have hb160 := Eq.trans rfl (congrArg B (decide_eq_false hg158))
    refine wpL_gs rfl rfl rfl hb160 rfl ?_
    refine wpL_gs rfl rfl rfl hb160 rfl ?_
    refine wpL_gs rfl rfl rfl hb160 rfl ?_
    refine wpL_gs rfl rfl rfl hb160 rfl ?_
    refine wpL_gs' rfl rfl rfl rfl ?_
    refine wpL_gs' rfl rfl rfl rfl ?_
    refine wpL_gs' rfl rfl rfl rfl ?_
    refine wpL_gs' rfl rfl rfl rfl ?_
    refine wpL_gs' rfl rfl rfl rfl ?_
    refine wpL_gs' rfl rfl rfl rfl ?_
    refine wpL_gs' rfl rfl rfl rfl ?_
    refine wpL_gs rfl rfl rfl hb160 rfl ?_
    refine lq rfl (q_pickF (v := B (false)) rfl hb160 rfl) ?_
    refine la (v := B (false)) rfl rfl rfl ?_
    exact ⟨(Eq.trans rfl (congrArg B ((decide_eq_false (fun h => (not_or.2 ⟨hg152, hg158⟩) h.1)).symm))), rfl⟩
 clear y11 y16 y18 y9
 rintro f164 _ ⟨y6, rfl⟩
 refine wpF_ret ?_
 refine ⟨_, resT y6 resN, hS150.frame, ?_⟩
 show (B (decide ((((if manyTo p 5 ≤ n then (1 : Int) else 2) = 3) ∨ ((decide ((if manyTo p 5 ≤ n then (1 : Int) else 2) = 1)) = (decide (mc ≤ (n : Int))))) ∧ (((if n ≤ manyTo p 5 then (1 : Int) else 2) = 3) ∨ ((decide ((if n ≤ manyTo p 5 then (1 : Int) else 2) = 1)) = (decide ((n : Int) ≤ mc))))))) = B true
 exact congrArg B (decide_eq_true ⟨.inr (card_say1 hmc), .inr (card_say2 hmc)⟩)
end Go.Um
