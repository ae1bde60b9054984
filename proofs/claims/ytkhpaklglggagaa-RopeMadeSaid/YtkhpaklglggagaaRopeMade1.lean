import Derived.Test.YtkhpaklglggagaaProg
import Derived.Test.YtkhpaklglggagaaRopeF1
import Derived.Test.YtkhpaklglggagaaRopeInst
namespace Go.Um
open Go.Proofs
open GoT (sz ag rdc)
open KeyT (kv)



set_option maxRecDepth 100000 in
theorem RopeMade_L {H0 : Heap} (vp vi : Value) (p : List Int) (is : List (List Int)) (rp : Rd NoB H0 vp p) (ri : Rd NoB H0 vi is) (hlim : ∀ x ∈ is, x.length * 8 ≤ 140737488351232) : CallsH Try.prog 11 #[vp, vi] H0 (fun rv_ H' => Ext NoB H0 H' ∧ rv_ = B true) := by
  have hsp := (Rd.list.1 rp).small
  have hsi := (Rd.list.1 ri).small
  have hS0 : St H0 NoB NoB [rdE vp (p : List Int), rdE vi (is : List (List Int))] H0 := St.arg (St.arg (St.start (fun _ h => h.elim)) (Bl0.nil) ri (fun _ h => h)) (Bl0.cons (Bl0.nil)) rp (fun _ h => h)
  refine callsH_of_wpF (args := [vp, vi]) (rs := [.tmp 4]) Try.func11 rfl Try.ntmps11 Try.results11 (by kernel_rfl) (Nat.le_of_ble_eq_true rfl) ?_
  have a0_0 : argF [vp, vi] 0 = vp := rfl
  have a0_1 : argF [vp, vi] 1 = vi := rfl
  generalize argF [vp, vi] = f0 at *
  refine wpF_seq ?_
  refine wpF_cut (fun f H => f 0 = vp ∧ f 1 = vi ∧ H0 = H) ?_ ?_
  · refine wpF_region ?_
    refine wpL_q (U := NoB) rfl (q_assign (v := B (false)) rfl rfl) ?_
    exact ⟨a0_0, a0_1, rfl⟩
  rintro f1 _ ⟨a1_0, a1_1, rfl⟩
  clear a0_0 a0_1
  refine wpF_seq ?_
  refine wpF_cut (fun f H => f 0 = vp ∧ f 1 = vi ∧ f 5 = B (true) ∧ St H0 NoB NoB [rdE vp (p : List Int), rdE vi (is : List (List Int))] H) ?_ ?_
  · refine wpF_region ?_
    refine wpL_o rfl ?_
    refine e_call rfl Try.call43 arr0 (ropeFact) ?_
    rintro _ H2 ⟨hxx, rfl⟩
    have hS3 : St H0 NoB NoB [rdE vp (p : List Int), rdE vi (is : List (List Int))] H2 := hS0.ext hxx
    refine wpL_q (U := NoB) rfl (q_assign (v := B (true)) rfl rfl) ?_
    exact ⟨a1_0, a1_1, rfl, hS3⟩
  rintro f5 H5 ⟨a5_0, a5_1, a5_5, hS5⟩
  clear a1_0 a1_1
  refine wpF_seq ?_
  refine wpF_seq ?_
  refine wpF_cut (fun f H => f 0 = vp ∧ f 1 = vi ∧ f 15 = B (false) ∧ H5 = H) ?_ ?_
  · refine wpF_region ?_
    refine wpL_q (U := NoB) rfl (q_move (v := B (true)) rfl a5_5) ?_
    refine wpL_q (U := NoB) rfl (q_not rfl rfl) ?_
    exact ⟨a5_0, a5_1, rfl, rfl⟩
  rintro f6 _ ⟨a6_0, a6_1, a6_15, rfl⟩
  clear a5_0 a5_1 a5_5
  refine wpF_condF a6_15 ?_
  refine wpF_skip ?_
  refine wpF_seq ?_
  refine wpF_seq ?_
  refine wpF_cut (fun f H => f 0 = vp ∧ f 1 = vi ∧ f 23 = B (decide ((8 < (p.length : Int)) ∨ (10 < (is.length : Int)))) ∧ H5 = H) ?_ ?_
  · refine wpF_region ?_
    refine wpL_q (U := NoB) rfl (q_move (v := vp) rfl a6_0) ?_
    refine wpL_q (U := NoB) rfl (q_lenRd rfl Try.underlying22 rfl (hS5.rdl 0 rfl)) ?_
    refine wpL_q (U := NoB) rfl (q_gtr rfl rfl rfl) ?_
    refine wpL_q (U := NoB) rfl (q_move (v := B (decide (8 < (p.length : Int)))) rfl rfl) ?_
    by_cases hg7 : 8 < (p.length : Int)
    · have hb8 := Eq.trans rfl (congrArg B (decide_eq_true hg7))
      refine wpL_gs rfl rfl rfl hb8 rfl ?_
      refine wpL_gs rfl rfl rfl hb8 rfl ?_
      refine wpL_gs rfl rfl rfl hb8 rfl ?_
      refine wpL_q (U := NoB) rfl (q_pickT (v := B (true)) rfl hb8 rfl) ?_
      exact ⟨a6_0, a6_1, (Eq.trans rfl (congrArg B ((decide_eq_true (Or.inl hg7)).symm))), rfl⟩
    · have hb9 := Eq.trans rfl (congrArg B (decide_eq_false hg7))
      refine wpL_gq (U := NoB) rfl rfl rfl hb9 (q_move (v := vi) rfl a6_1) ?_
      refine wpL_gq (U := NoB) rfl rfl rfl hb9 (q_lenRd rfl Try.underlying27 rfl (hS5.rdl 1 rfl)) ?_
      refine wpL_gq (U := NoB) rfl rfl rfl hb9 (q_gtr rfl rfl rfl) ?_
      refine wpL_q (U := NoB) rfl (q_pickF (v := B (decide (10 < (is.length : Int)))) rfl hb9 rfl) ?_
      exact ⟨a6_0, a6_1, (Eq.trans rfl (congrArg B (decide_congr_of ((Iff.rfl).trans (((or_iff_right hg7).trans Iff.rfl)).symm)))), rfl⟩
  rintro f10 _ ⟨a10_0, a10_1, a10_23, rfl⟩
  clear a6_0 a6_1 a6_15
  refine wpF_condP a10_23 (fun hbig => ?t109) (fun hbig => ?e109)
  case t109 =>
    refine wpF_seq ?_
    refine wpF_cut (fun f H => f 4 = B (true) ∧ H5 = H) ?_ ?_
    · refine wpF_region ?_
      refine wpL_q (U := NoB) rfl (q_assign (v := B (true)) rfl rfl) ?_
      exact ⟨rfl, rfl⟩
    rintro f12 _ ⟨a12_4, rfl⟩
    clear a10_0 a10_1 a10_23
    refine wpF_ret ?_
    refine ⟨_, resT a12_4 resN, hS5.frame, ?_⟩
    show (B (true)) = B true
    rfl
  refine wpF_skip ?_
  refine wpF_seq ?_
  refine wpF_cut (fun f H => f 0 = vp ∧ f 1 = vi ∧ f 6 = (Value.slice none 0 0) ∧ H5 = H) ?_ ?_
  · refine wpF_region ?_
    refine wpL_q (U := NoB) rfl (q_assign (v := (Value.slice none 0 0)) rfl rfl) ?_
    exact ⟨a10_0, a10_1, rfl, rfl⟩
  rintro f13 _ ⟨a13_0, a13_1, a13_6, rfl⟩
  clear a10_0 a10_1 a10_23
  have hS14 : St H0 NoB NoB [rowE 3 (Value.slice none 0 0) ([] : List Int), rdE vp (p : List Int), rdE vi (is : List (List Int))] H5 := hS5.row0 3
  refine wpF_seq ?_
  refine wpF_seq ?_
  refine wpF_cut (fun f H => f 0 = vp ∧ f 1 = vi ∧ f 6 = (Value.slice none 0 0) ∧ f 7 = I (0) ∧ H5 = H) ?_ ?_
  · refine wpF_region ?_
    refine wpL_q (U := NoB) rfl (q_assign (v := I (0)) rfl rfl) ?_
    exact ⟨a13_0, a13_1, a13_6, rfl, rfl⟩
  rintro f15 _ ⟨a15_0, a15_1, a15_6, a15_7, rfl⟩
  clear a13_0 a13_1 a13_6
  refine wpF_block ?_
  refine wpF_loop (fun mz f H => ∃ (i : Nat), ∃ (vT : Value), ∃ (tt : List Int), mz = p.length - i ∧ (i ≤ p.length) ∧ (tt = instP (given is) (p.take i)) ∧ (tt.length ≤ 30) ∧ f 0 = vp ∧ f 1 = vi ∧ f 6 = vT ∧ f 7 = I ((i : Int)) ∧ St H0 NoB NoB [rowE 3 vT (tt : List Int), rdE vp (p : List Int), rdE vi (is : List (List Int))] H) (p.length - 0) ?_ ?_
  · exact ⟨0, (Value.slice none 0 0), [], rfl, Nat.zero_le _, rfl, (by simp), a15_0, a15_1, a15_6, (Eq.trans a15_7 (congrArg I (by omega))), (show St H0 NoB NoB [rowE 3 (Value.slice none 0 0) (([]) : List Int), rdE vp (p : List Int), rdE vi (is : List (List Int))] H5 from hS14)⟩
  intro m16 f16 H16 hI16
  obtain ⟨i, vT, tt, hm16, hi, ht, htl, a16_0, a16_1, a16_6, a16_7, hS16⟩ := hI16
  clear a15_0 a15_1 a15_6 a15_7
  refine wpF_seq ?_
  refine wpF_seq ?_
  refine wpF_cut (fun f H => f 0 = vp ∧ f 1 = vi ∧ f 6 = vT ∧ f 7 = I ((i : Int)) ∧ f 27 = B (decide ((i : Int) < (p.length : Int))) ∧ H16 = H) ?_ ?_
  · refine wpF_region ?_
    refine wpL_q (U := NoB) rfl (q_move (v := I ((i : Int))) rfl a16_7) ?_
    refine wpL_q (U := NoB) rfl (q_move (v := vp) rfl a16_0) ?_
    refine wpL_q (U := NoB) rfl (q_lenRd rfl Try.underlying22 rfl (hS16.rdl 1 rfl)) ?_
    refine wpL_q (U := NoB) rfl (q_lss rfl rfl rfl) ?_
    exact ⟨a16_0, a16_1, a16_6, a16_7, rfl, rfl⟩
  rintro f17 _ ⟨a17_0, a17_1, a17_6, a17_7, a17_27, rfl⟩
  clear a16_0 a16_1 a16_6 a16_7
  refine wpF_condP a17_27 (fun hlt => ?t108) (fun hlt => ?e108)
  case t108 =>
    have hpi := (Rd.list.1 rp).in64 (k := i) (by omega)
    have hnw := negW_or hpi
    refine wpF_skip ?_
    refine wpF_seq ?_
    refine wpF_block ?_
    refine wpF_seq ?_
    refine wpF_seq ?_
    refine wpF_cut (fun f H => f 0 = vp ∧ f 1 = vi ∧ f 6 = vT ∧ f 7 = I ((i : Int)) ∧ f 34 = B (decide (0 ≤ (nth p i))) ∧ H16 = H) ?_ ?_
    · refine wpF_region ?_
      refine wpL_q (U := NoB) rfl (q_move (v := vp) rfl a17_0) ?_
      refine wpL_q (U := NoB) rfl (q_move (v := I ((i : Int))) rfl a17_7) ?_
      refine wpL_q (U := NoB) rfl (q_indexRd (k := i) rfl Try.underlying22 el_Int_3 rfl rfl (hS16.rdl 1 rfl) (by omega) (by omega)) ?_
      refine wpL_q (U := NoB) rfl (q_loadInt (k := i) rfl rfl el_Int_3 (hS16.rdl 1 rfl) (by omega) (fun _ h => h)) ?_
      refine wpL_q (U := NoB) rfl (q_geq rfl rfl rfl) ?_
      exact ⟨a17_0, a17_1, a17_6, a17_7, rfl, rfl⟩
    rintro f19 _ ⟨a19_0, a19_1, a19_6, a19_7, a19_34, rfl⟩
    clear a17_0 a17_1 a17_27 a17_6 a17_7
    refine wpF_cut (fun f H => ∃ (vN : Value), ∃ (tN : List Int), (tN = instP (given is) (p.take (i + 1))) ∧ f 0 = vp ∧ f 1 = vi ∧ f 6 = vN ∧ f 7 = I ((i : Int)) ∧ St H0 NoB NoB [rowE 3 vN (tN : List Int), rdE vp (p : List Int), rdE vi (is : List (List Int))] H) ?_ ?_
    · refine wpF_condP a19_34 (fun hpos => ?t47) (fun hpos => ?e47)
      case t47 =>
        refine wpF_cut (fun f H => ∃ (v27 : Value), f 0 = vp ∧ f 1 = vi ∧ f 6 = v27 ∧ f 7 = I ((i : Int)) ∧ St H0 NoB NoB [rowE 3 v27 (tt ++ ([nth p i]) : List Int), rdE vp (p : List Int), rdE vi (is : List (List Int))] H) ?_ ?_
        · refine wpF_region ?_
          refine wpL_q (U := NoB) rfl (q_move (v := vT) rfl a19_6) ?_
          refine wpL_q (U := NoB) rfl (q_move (v := vp) rfl a19_0) ?_
          refine wpL_q (U := NoB) rfl (q_move (v := I ((i : Int))) rfl a19_7) ?_
          refine wpL_q (U := NoB) rfl (q_indexRd (k := i) rfl Try.underlying22 el_Int_3 rfl rfl (hS16.rdl 1 rfl) (by omega) (by omega)) ?_
          refine wpL_q (U := NoB) rfl (q_loadInt (k := i) rfl rfl el_Int_3 (hS16.rdl 1 rfl) (by omega) (fun _ h => h)) ?_
          refine wpL_o rfl ?_
          refine e_buildSlice (vs := [I (nth p i)]) (xs := ([nth p i] : List Int)) rfl Try.underlying22 Try.zeroValue3 rfl Try.sizeOf3 (par1 (v0 := I (nth p i)) rfl) rfl hS16 (RdVs.cons (Rd.int.2 ⟨rfl, by constructor <;> omega⟩) (RdVs.nil)) (by decide) (by decide) (fun v22 H23 hS24 hxx hvv22 => ?_)
          replace hS24 : St H0 NoB NoB [rowE 3 v22 ([nth p i] : List Int), rowE 3 vT (tt : List Int), rdE vp (p : List Int), rdE vi (is : List (List Int))] H23 := hS24
          have hS25 : St H0 NoB NoB [rdE v22 ([nth p i] : List Int), rowE 3 vT (tt : List Int), rdE vp (p : List Int), rdE vi (is : List (List Int))] H23 := St.fin hS24
          have hS26 : St H0 NoB NoB [rowE 3 vT (tt : List Int), rdE v22 ([nth p i] : List Int), rdE vp (p : List Int), rdE vi (is : List (List Int))] H23 := (hS25.front 1 rfl)
          refine wpL_o rfl ?_
          refine e_append rfl Try.underlying22 em_Int_3 rfl rfl hS26 (hS26.rdS 1 rfl) (fun _ h => h) (by have hb : GoT.bytes Int = 8 := rfl; simp [hb]; omega) (by decide) (fun v27 H28 hS29 hxx => ?_)
          replace hS29 : St H0 NoB NoB [rowE 3 v27 (tt ++ ([nth p i]) : List Int), rdE v22 ([nth p i] : List Int), rdE vp (p : List Int), rdE vi (is : List (List Int))] H28 := hS29
          refine wpL_q (U := NoB) rfl (q_assign (v := v27) rfl rfl) ?_
          exact ⟨v27, a19_0, a19_1, rfl, a19_7, (hS29.drop (List.Sublist.cons_cons _ (List.Sublist.cons _ (List.Sublist.cons_cons _ (List.Sublist.cons_cons _ (List.Sublist.slnil))))))⟩
        rintro f30 H30 ⟨v27, a30_0, a30_1, a30_6, a30_7, hS30⟩
        clear a19_0 a19_1 a19_34 a19_6 a19_7
        exact ⟨v27, tt ++ ([nth p i]), (by rw [instP_take (by omega), if_pos hpos, ← ht]), a30_0, a30_1, a30_6, a30_7, hS30⟩
      refine wpF_seq ?_
      refine wpF_cut (fun f H => f 0 = vp ∧ f 1 = vi ∧ f 6 = vT ∧ f 7 = I ((i : Int)) ∧ f 57 = B (decide ((1 ≤ (negW (nth p i)) ∧ (negW (nth p i)) ≤ 3) ∧ ((negW (nth p i)) ≤ (is.length : Int)))) ∧ St H0 NoB NoB [rowE 3 vT (tt : List Int), rdE vp (p : List Int), rdE vi (is : List (List Int))] H) ?_ ?_
      · refine wpF_region ?_
        refine wpL_q (U := NoB) rfl (q_move (v := vp) rfl a19_0) ?_
        refine wpL_q (U := NoB) rfl (q_move (v := I ((i : Int))) rfl a19_7) ?_
        refine wpL_q (U := NoB) rfl (q_indexRd (k := i) rfl Try.underlying22 el_Int_3 rfl rfl (hS16.rdl 1 rfl) (by omega) (by omega)) ?_
        refine wpL_q (U := NoB) rfl (q_loadInt (k := i) rfl rfl el_Int_3 (hS16.rdl 1 rfl) (by omega) (fun _ h => h)) ?_
        refine wpL_q (U := NoB) rfl (q_negW rfl rfl) ?_
        refine wpL_o rfl ?_
        refine e_call rfl Try.call16 (arr3 (v0 := I (negW (nth p i))) (v1 := I (1)) (v2 := I (3)) rfl rfl rfl) (in_L (negW (nth p i)) 1 3) ?_
        rintro _ H31 ⟨hxx, rfl⟩
        have hS32 : St H0 NoB NoB [rowE 3 vT (tt : List Int), rdE vp (p : List Int), rdE vi (is : List (List Int))] H31 := hS16.ext hxx
        refine wpL_q (U := NoB) rfl (q_move (v := B (decide (1 ≤ (negW (nth p i)) ∧ (negW (nth p i)) ≤ 3))) rfl rfl) ?_
        by_cases hg34 : 1 ≤ (negW (nth p i)) ∧ (negW (nth p i)) ≤ 3
        · have hb35 := Eq.trans rfl (congrArg B (decide_eq_true hg34))
          refine wpL_gq (U := NoB) rfl rfl rfl hb35 (q_move (v := vp) rfl a19_0) ?_
          refine wpL_gq (U := NoB) rfl rfl rfl hb35 (q_move (v := I ((i : Int))) rfl a19_7) ?_
          refine wpL_gq (U := NoB) rfl rfl rfl hb35 (q_indexRd (k := i) rfl Try.underlying22 el_Int_3 rfl rfl (hS32.rdl 1 rfl) (by omega) (by omega)) ?_
          refine wpL_gq (U := NoB) rfl rfl rfl hb35 (q_loadInt (k := i) rfl rfl el_Int_3 (hS32.rdl 1 rfl) (by omega) (fun _ h => h)) ?_
          refine wpL_gq (U := NoB) rfl rfl rfl hb35 (q_negW rfl rfl) ?_
          refine wpL_gq (U := NoB) rfl rfl rfl hb35 (q_move (v := vi) rfl a19_1) ?_
          refine wpL_gq (U := NoB) rfl rfl rfl hb35 (q_lenRd rfl Try.underlying27 rfl (hS32.rdl 2 rfl)) ?_
          refine wpL_gq (U := NoB) rfl rfl rfl hb35 (q_leq rfl rfl rfl) ?_
          refine wpL_q (U := NoB) rfl (q_pickT (v := B (decide ((negW (nth p i)) ≤ (is.length : Int)))) rfl hb35 rfl) ?_
          exact ⟨a19_0, a19_1, a19_6, a19_7, (Eq.trans rfl (congrArg B (decide_congr_of ((Iff.rfl).trans (((and_iff_right hg34).trans Iff.rfl)).symm)))), hS32⟩
        · have hb36 := Eq.trans rfl (congrArg B (decide_eq_false hg34))
          refine wpL_gs rfl rfl rfl hb36 rfl ?_
          refine wpL_gs rfl rfl rfl hb36 rfl ?_
          refine wpL_gs rfl rfl rfl hb36 rfl ?_
          refine wpL_gs rfl rfl rfl hb36 rfl ?_
          refine wpL_gs rfl rfl rfl hb36 rfl ?_
          refine wpL_gs rfl rfl rfl hb36 rfl ?_
          refine wpL_gs rfl rfl rfl hb36 rfl ?_
          refine wpL_gs rfl rfl rfl hb36 rfl ?_
          refine wpL_q (U := NoB) rfl (q_pickF (v := B (false)) rfl hb36 rfl) ?_
          exact ⟨a19_0, a19_1, a19_6, a19_7, (Eq.trans rfl (congrArg B ((decide_eq_false (fun h => hg34 h.1)).symm))), hS32⟩
      rintro f37 H37 ⟨a37_0, a37_1, a37_6, a37_7, a37_57, hS37⟩
      clear a19_0 a19_1 a19_34 a19_6 a19_7
      refine wpF_condP a37_57 (fun hin => ?t46) (fun hin => ?e46)
      case e46 =>
        refine wpF_skip ?_
        exact ⟨vT, tt, (by rw [instP_take (by omega), if_neg hpos, ← ht, given_no (by omega) (by omega), List.append_nil]), a37_0, a37_1, a37_6, a37_7, hS37⟩
      have hnq : negW (nth p i) = -(nth p i) := by omega
      have hlk := hlim _ (nth_mem (l := is) (k := ((negW (nth p i)) - 1).toNat) (by omega))
      obtain ⟨u39, huu39, hlu39⟩ := (Rd.list.1 (hS37.rdS 2 rfl)).elem (((negW (nth p i)) - 1).toNat) (by omega)
      have hS40 : St H0 NoB NoB [rdE u39 (nth is (((negW (nth p i)) - 1).toNat) : List Int), rowE 3 vT (tt : List Int), rdE vp (p : List Int), rdE vi (is : List (List Int))] H37 := hS37.rd huu39
      refine wpF_cut (fun f H => ∃ (v42 : Value), f 0 = vp ∧ f 1 = vi ∧ f 6 = v42 ∧ f 7 = I ((i : Int)) ∧ St H0 NoB NoB [rowE 3 v42 (tt ++ (nth is (((negW (nth p i)) - 1).toNat)) : List Int), rdE vp (p : List Int), rdE vi (is : List (List Int))] H) ?_ ?_
      · refine wpF_region ?_
        refine wpL_q (U := NoB) rfl (q_move (v := vT) rfl a37_6) ?_
        refine wpL_q (U := NoB) rfl (q_move (v := vi) rfl a37_1) ?_
        refine wpL_q (U := NoB) rfl (q_move (v := vp) rfl a37_0) ?_
        refine wpL_q (U := NoB) rfl (q_move (v := I ((i : Int))) rfl a37_7) ?_
        refine wpL_q (U := NoB) rfl (q_indexRd (k := i) rfl Try.underlying22 el_Int_3 rfl rfl (hS37.rdl 1 rfl) (by omega) (by omega)) ?_
        refine wpL_q (U := NoB) rfl (q_loadInt (k := i) rfl rfl el_Int_3 (hS37.rdl 1 rfl) (by omega) (fun _ h => h)) ?_
        refine wpL_q (U := NoB) rfl (q_negW rfl rfl) ?_
        refine wpL_q (U := NoB) rfl (q_sub rfl rfl rfl (by constructor <;> omega)) ?_
        refine wpL_q (U := NoB) rfl (q_indexRd (k := ((negW (nth p i)) - 1).toNat) rfl Try.underlying27 el_LInt_22 rfl rfl (hS37.rdl 2 rfl) (by omega) (by omega)) ?_
        refine wpL_q (U := NoB) rfl (q_loadE rfl rfl (hlu39 Try.prog 22 _ el_LInt_22 (fun _ h => False.elim h))) ?_
        have hS41 : St H0 NoB NoB [rowE 3 vT (tt : List Int), rdE u39 (nth is (((negW (nth p i)) - 1).toNat) : List Int), rdE vp (p : List Int), rdE vi (is : List (List Int))] H37 := (hS40.front 1 rfl)
        refine wpL_o rfl ?_
        refine e_append rfl Try.underlying22 em_Int_3 rfl rfl hS41 (hS41.rdS 1 rfl) (fun _ h => h) (by have hb : GoT.bytes Int = 8 := rfl; rw [hb]; omega) (by decide) (fun v42 H43 hS44 hxx => ?_)
        replace hS44 : St H0 NoB NoB [rowE 3 v42 (tt ++ (nth is (((negW (nth p i)) - 1).toNat)) : List Int), rdE u39 (nth is (((negW (nth p i)) - 1).toNat) : List Int), rdE vp (p : List Int), rdE vi (is : List (List Int))] H43 := hS44
        refine wpL_q (U := NoB) rfl (q_assign (v := v42) rfl rfl) ?_
        exact ⟨v42, a37_0, a37_1, rfl, a37_7, (hS44.drop (List.Sublist.cons_cons _ (List.Sublist.cons _ (List.Sublist.cons_cons _ (List.Sublist.cons_cons _ (List.Sublist.slnil))))))⟩
      rintro f45 H45 ⟨v42, a45_0, a45_1, a45_6, a45_7, hS45⟩
      clear a37_0 a37_1 a37_57 a37_6 a37_7
      exact ⟨v42, tt ++ (nth is (((negW (nth p i)) - 1).toNat)), (by rw [instP_take (by omega), if_neg hpos, ← ht, given_yes (by omega), hnq]), a45_0, a45_1, a45_6, a45_7, hS45⟩
    rintro f20 H20 ⟨vN, tN, htN, a20_0, a20_1, a20_6, a20_7, hS20⟩
    clear a19_0 a19_1 a19_34 a19_6 a19_7
    refine wpF_seq ?_
    refine wpF_cut (fun f H => f 0 = vp ∧ f 1 = vi ∧ f 6 = vN ∧ f 7 = I ((i : Int)) ∧ f 71 = B (decide (30 < (tN.length : Int))) ∧ H20 = H) ?_ ?_
    · refine wpF_region ?_
      refine wpL_q (U := NoB) rfl (q_move (v := vN) rfl a20_6) ?_
      refine wpL_q (U := NoB) rfl (q_lenRd rfl Try.underlying22 rfl (hS20.rowl 0 rfl)) ?_
      refine wpL_q (U := NoB) rfl (q_gtr rfl rfl rfl) ?_
      exact ⟨a20_0, a20_1, a20_6, a20_7, rfl, rfl⟩
    rintro f48 _ ⟨a48_0, a48_1, a48_6, a48_7, a48_71, rfl⟩
    clear a20_0 a20_1 a20_6 a20_7
    refine wpF_condP a48_71 (fun h30 => ?t52) (fun h30 => ?e52)
    case t52 =>
      refine wpF_seq ?_
      refine wpF_cut (fun f H => f 4 = B (true) ∧ H20 = H) ?_ ?_
      · refine wpF_region ?_
        refine wpL_q (U := NoB) rfl (q_assign (v := B (true)) rfl rfl) ?_
        exact ⟨rfl, rfl⟩
      rintro f50 _ ⟨a50_4, rfl⟩
      clear a48_0 a48_1 a48_6 a48_7 a48_71
      refine wpF_ret ?_
      refine ⟨_, resT a50_4 resN, hS20.frame, ?_⟩
      show (B (true)) = B true
      rfl
    refine wpF_skip ?_
    refine wpF_cut (fun f H => f 0 = vp ∧ f 1 = vi ∧ f 6 = vN ∧ f 7 = I ((i : Int) + 1) ∧ H20 = H) ?_ ?_
    · refine wpF_region ?_
      refine wpL_q (U := NoB) rfl (q_move (v := I ((i : Int))) rfl a48_7) ?_
      refine wpL_q (U := NoB) rfl (q_add rfl rfl rfl (by constructor <;> omega)) ?_
      refine wpL_q (U := NoB) rfl (q_assign (v := I ((i : Int) + 1)) rfl rfl) ?_
      exact ⟨a48_0, a48_1, a48_6, rfl, rfl⟩
    rintro f51 _ ⟨a51_0, a51_1, a51_6, a51_7, rfl⟩
    clear a48_0 a48_1 a48_6 a48_7 a48_71
    refine ⟨_, ?_, i + 1, vN, tN, rfl, (by omega), htN, (by omega), a51_0, a51_1, a51_6, (Eq.trans a51_7 (congrArg I (by omega))), hS20⟩
    omega
  have htt : tt = instP (given is) p := by rw [ht, List.take_of_length_le (by omega)]
  refine wpF_exit ?_
  refine atX_here ?_
  refine wpF_seq ?_
  refine wpF_cut (fun f H => ∃ (r54 : Value), ∃ (g58 : Nat), f 0 = vp ∧ f 6 = vT ∧ f 8 = r54 ∧ f 9 = B ((ropeAll p tt).2.1) ∧ f 10 = PT g58 0 ∧ St H0 NoB NoB [blkE g58 (.cells #[I ((ropeAll p tt).2.2.1), I ((ropeAll p tt).2.2.2)] 24), rdE r54 ((ropeAll p tt).1 : List (List Int)), rdE vT (tt : List Int), rdE vp (p : List Int), rdE vi (is : List (List Int))] H) ?_ ?_
  · refine wpF_region ?_
    refine wpL_q (U := NoB) rfl (q_move (v := vp) rfl a17_0) ?_
    refine wpL_q (U := NoB) rfl (q_move (v := vT) rfl a17_6) ?_
    have hS53 : St H0 NoB NoB [rdE vT (tt : List Int), rdE vp (p : List Int), rdE vi (is : List (List Int))] H16 := St.fin hS16
    refine wpL_o rfl ?_
    refine e_call rfl Try.call17 (arr2 (v0 := vp) (v1 := vT) rfl rfl) (rope_Fit vp vT p tt (hS53.rdS 1 rfl) (hS53.rdS 0 rfl)) ?_
    rintro _ H55 ⟨hxx, r54, rfl, hrr54⟩
    have hS56 : St H0 NoB NoB [rdE r54 ((ropeAll p tt).1 : List (List Int)), rdE vT (tt : List Int), rdE vp (p : List Int), rdE vi (is : List (List Int))] H55 := hS53.res hxx hrr54
    refine wpL_q (U := NoB) rfl (q_move (v := Value.tuple #[r54, B ((ropeAll p tt).2.1), Value.agg #[I ((ropeAll p tt).2.2.1), I ((ropeAll p tt).2.2.2)]]) rfl rfl) ?_
    refine wpL_q (U := NoB) rfl (q_extract (vs := #[r54, B ((ropeAll p tt).2.1), Value.agg #[I ((ropeAll p tt).2.2.1), I ((ropeAll p tt).2.2.2)]]) (v := r54) rfl rfl rfl) ?_
    refine wpL_q (U := NoB) rfl (q_extract (vs := #[r54, B ((ropeAll p tt).2.1), Value.agg #[I ((ropeAll p tt).2.2.1), I ((ropeAll p tt).2.2.2)]]) (v := B ((ropeAll p tt).2.1)) rfl rfl rfl) ?_
    refine wpL_q (U := NoB) rfl (q_extract (vs := #[r54, B ((ropeAll p tt).2.1), Value.agg #[I ((ropeAll p tt).2.2.1), I ((ropeAll p tt).2.2.2)]]) (v := Value.agg #[I ((ropeAll p tt).2.2.1), I ((ropeAll p tt).2.2.2)]) rfl rfl rfl) ?_
    refine wpL_o rfl ?_
    refine e_alloc rfl Try.zeroValue24 hS56 (fun g58 H59 hS60 hxx => ?_)
    replace hS60 : St H0 NoB NoB [blkE g58 (.cells #[I (0), I (0)] 24), rdE r54 ((ropeAll p tt).1 : List (List Int)), rdE vT (tt : List Int), rdE vp (p : List Int), rdE vi (is : List (List Int))] H59 := hS60
    refine wpL_q (U := NoB) rfl (q_assign (v := r54) rfl rfl) ?_
    refine wpL_q (U := NoB) rfl (q_assign (v := B ((ropeAll p tt).2.1)) rfl rfl) ?_
    refine wpL_o rfl ?_
    refine e_storeBlkA (cs' := #[I ((ropeAll p tt).2.2.1), I ((ropeAll p tt).2.2.2)]) rfl rfl rfl Try.sizeOf24 rfl rfl (List.forall_mem_cons.2 ⟨rfl, List.forall_mem_cons.2 ⟨rfl, List.forall_mem_nil _⟩⟩) hS60 (fun H61 hS62 hxx => ?_)
    replace hS62 : St H0 NoB NoB [blkE g58 (.cells #[I ((ropeAll p tt).2.2.1), I ((ropeAll p tt).2.2.2)] 24), rdE r54 ((ropeAll p tt).1 : List (List Int)), rdE vT (tt : List Int), rdE vp (p : List Int), rdE vi (is : List (List Int))] H61 := hS62
    exact ⟨r54, g58, a17_0, a17_6, rfl, rfl, rfl, hS62⟩
  rintro f63 H63 ⟨r54, g58, a63_0, a63_6, a63_8, a63_9, a63_10, hS63⟩
  clear a17_0 a17_1 a17_27 a17_6 a17_7
  refine wpF_seq ?_
  refine wpF_seq ?_
  refine wpF_cut (fun f H => f 0 = vp ∧ f 6 = vT ∧ f 8 = r54 ∧ f 9 = B ((ropeAll p tt).2.1) ∧ f 81 = B (decide (((ropeAll p tt).2.2.1) ≠ 0)) ∧ H63 = H) ?_ ?_
  · refine wpF_region ?_
    refine wpL_q (U := NoB) rfl (q_fieldAddr rfl Try.underlying24 rfl Try.sizeOf3 a63_10) ?_
    refine wpL_q (U := NoB) rfl (q_loadBlk rfl rfl Try.isAgg3 (hS63.blk 0 rfl) rfl (fun h => h)) ?_
    refine wpL_q (U := NoB) rfl (q_neq rfl rfl rfl) ?_
    exact ⟨a63_0, a63_6, a63_8, a63_9, rfl, rfl⟩
  rintro f64 _ ⟨a64_0, a64_6, a64_8, a64_9, a64_81, rfl⟩
  clear a63_0 a63_10 a63_6 a63_8 a63_9
  refine wpF_condP a64_81 (fun hf => ?t107) (fun hf => ?e107)
  case t107 =>
    refine wpF_seq ?_
    refine wpF_cut (fun f H => f 4 = B (decide ((((ropeAll p tt).1).length : Int) = 0)) ∧ H63 = H) ?_ ?_
    · refine wpF_region ?_
      refine wpL_q (U := NoB) rfl (q_move (v := r54) rfl a64_8) ?_
      refine wpL_q (U := NoB) rfl (q_lenRd rfl Try.underlying27 rfl (hS63.rdl 1 rfl)) ?_
      refine wpL_q (U := NoB) rfl (q_eql rfl rfl rfl) ?_
      refine wpL_q (U := NoB) rfl (q_assign (v := B (decide ((((ropeAll p tt).1).length : Int) = 0))) rfl rfl) ?_
      exact ⟨rfl, rfl⟩
    rintro f66 _ ⟨a66_4, rfl⟩
    clear a64_0 a64_6 a64_8 a64_81 a64_9
    refine wpF_ret ?_
    refine ⟨_, resT a66_4 resN, hS63.frame, ?_⟩
    show (B (decide ((((ropeAll p tt).1).length : Int) = 0))) = B true
    exact congrArg B (decide_eq_true (by rw [made_bad hf]; rfl))
  have hz : (fitFault p tt).1 = 0 := by rw [ropeAll_fault] at hf; exact Decidable.of_not_not hf
  have hok := made_ok htt hz
  have hall := made_all hz hok
  refine wpF_skip ?_
  refine wpF_seq ?_
  refine wpF_seq ?_
  refine wpF_cut (fun f H => f 0 = vp ∧ f 6 = vT ∧ f 8 = r54 ∧ f 86 = B (!((ropeAll p tt).2.1)) ∧ H63 = H) ?_ ?_
  · refine wpF_region ?_
    refine wpL_q (U := NoB) rfl (q_move (v := B ((ropeAll p tt).2.1)) rfl a64_9) ?_
    refine wpL_q (U := NoB) rfl (q_not rfl rfl) ?_
    exact ⟨a64_0, a64_6, a64_8, rfl, rfl⟩
  rintro f67 _ ⟨a67_0, a67_6, a67_8, a67_86, rfl⟩
  clear a64_0 a64_6 a64_8 a64_81 a64_9
  refine wpF_cond a67_86 (fun hnok => ?t106) (fun hnok => ?e106)
  case t106 =>
    refine wpF_seq ?_
    refine wpF_cut (fun f H => f 4 = B (false) ∧ H63 = H) ?_ ?_
    · refine wpF_region ?_
      refine wpL_q (U := NoB) rfl (q_assign (v := B (false)) rfl rfl) ?_
      exact ⟨rfl, rfl⟩
    rintro f69 _ ⟨a69_4, rfl⟩
    clear a67_0 a67_6 a67_8 a67_86
    refine wpF_ret ?_
    refine ⟨_, resT a69_4 resN, hS63.frame, ?_⟩
    show (B (false)) = B true
    exfalso
    rw [hok] at hnok
    cases hnok
  refine wpF_skip ?_
  refine wpF_seq ?_
  refine wpF_cut (fun f H => f 0 = vp ∧ f 6 = vT ∧ f 8 = r54 ∧ f 11 = (Value.slice none 0 0) ∧ H63 = H) ?_ ?_
  · refine wpF_region ?_
    refine wpL_q (U := NoB) rfl (q_assign (v := (Value.slice none 0 0)) rfl rfl) ?_
    exact ⟨a67_0, a67_6, a67_8, rfl, rfl⟩
  rintro f70 _ ⟨a70_0, a70_6, a70_8, a70_11, rfl⟩
  clear a67_0 a67_6 a67_8 a67_86
  have hS71 : St H0 NoB NoB [rowE 3 (Value.slice none 0 0) ([] : List Int), blkE g58 (.cells #[I ((ropeAll p tt).2.2.1), I ((ropeAll p tt).2.2.2)] 24), rdE r54 ((ropeAll p tt).1 : List (List Int)), rdE vT (tt : List Int), rdE vp (p : List Int), rdE vi (is : List (List Int))] H63 := hS63.row0 3
  refine wpF_seq ?_
  refine wpF_seq ?_
  refine wpF_cut (fun f H => f 0 = vp ∧ f 6 = vT ∧ f 8 = r54 ∧ f 11 = (Value.slice none 0 0) ∧ f 12 = I (0) ∧ H63 = H) ?_ ?_
  · refine wpF_region ?_
    refine wpL_q (U := NoB) rfl (q_assign (v := I (0)) rfl rfl) ?_
    exact ⟨a70_0, a70_6, a70_8, a70_11, rfl, rfl⟩
  rintro f72 _ ⟨a72_0, a72_6, a72_8, a72_11, a72_12, rfl⟩
  clear a70_0 a70_11 a70_6 a70_8
  refine wpF_block ?_
  refine wpF_loop (fun mz f H => ∃ (j : Nat), ∃ (vU : Value), ∃ (uu : List Int), mz = p.length - j ∧ (j ≤ p.length) ∧ (uu = instP (fun q => nth (ropeAll p tt).1 (-q - 1).toNat) (p.take j)) ∧ f 0 = vp ∧ f 6 = vT ∧ f 8 = r54 ∧ f 11 = vU ∧ f 12 = I ((j : Int)) ∧ St H0 NoB NoB [rowE 3 vU (uu : List Int), blkE g58 (.cells #[I ((ropeAll p tt).2.2.1), I ((ropeAll p tt).2.2.2)] 24), rdE r54 ((ropeAll p tt).1 : List (List Int)), rdE vT (tt : List Int), rdE vp (p : List Int), rdE vi (is : List (List Int))] H) (p.length - 0) ?_ ?_
  · exact ⟨0, (Value.slice none 0 0), [], rfl, Nat.zero_le _, rfl, a72_0, a72_6, a72_8, a72_11, (Eq.trans a72_12 (congrArg I (by omega))), (show St H0 NoB NoB [rowE 3 (Value.slice none 0 0) (([]) : List Int), blkE g58 (.cells #[I ((ropeAll p tt).2.2.1), I ((ropeAll p tt).2.2.2)] 24), rdE r54 ((ropeAll p tt).1 : List (List Int)), rdE vT (tt : List Int), rdE vp (p : List Int), rdE vi (is : List (List Int))] H63 from hS71)⟩
  intro m73 f73 H73 hI73
  obtain ⟨j, vU, uu, hm73, hj, hu, a73_0, a73_6, a73_8, a73_11, a73_12, hS73⟩ := hI73
  clear a72_0 a72_11 a72_12 a72_6 a72_8
  refine wpF_seq ?_
  refine wpF_seq ?_
  refine wpF_cut (fun f H => f 0 = vp ∧ f 6 = vT ∧ f 8 = r54 ∧ f 11 = vU ∧ f 12 = I ((j : Int)) ∧ f 90 = B (decide ((j : Int) < (p.length : Int))) ∧ H73 = H) ?_ ?_
  · refine wpF_region ?_
    refine wpL_q (U := NoB) rfl (q_move (v := I ((j : Int))) rfl a73_12) ?_
    refine wpL_q (U := NoB) rfl (q_move (v := vp) rfl a73_0) ?_
    refine wpL_q (U := NoB) rfl (q_lenRd rfl Try.underlying22 rfl (hS73.rdl 4 rfl)) ?_
    refine wpL_q (U := NoB) rfl (q_lss rfl rfl rfl) ?_
    exact ⟨a73_0, a73_6, a73_8, a73_11, a73_12, rfl, rfl⟩
  rintro f74 _ ⟨a74_0, a74_6, a74_8, a74_11, a74_12, a74_90, rfl⟩
  clear a73_0 a73_11 a73_12 a73_6 a73_8
  refine wpF_condP a74_90 (fun hlt2 => ?t105) (fun hlt2 => ?e105)
  case e105 =>
    refine wpF_exit ?_
    refine atX_here ?_
    refine wpF_seq ?_
    refine wpF_cut (fun f H => f 4 = B (decide (tt = uu)) ∧ St H0 NoB NoB [rowE 3 vU (uu : List Int), blkE g58 (.cells #[I ((ropeAll p tt).2.2.1), I ((ropeAll p tt).2.2.2)] 24), rdE vp (p : List Int), rdE vi (is : List (List Int))] H) ?_ ?_
    · refine wpF_region ?_
      refine wpL_q (U := NoB) rfl (q_move (v := vT) rfl a74_6) ?_
      refine wpL_q (U := NoB) rfl (q_move (v := vU) rfl a74_11) ?_
      refine wpL_o rfl ?_
      refine e_call rfl Try.call32 (arr2 (v0 := vT) (v1 := vU) rfl rfl) (Ints vT vU _ _ (hS73.rdN 3 rfl) (hS73.rowN 0 rfl)) ?_
      rintro _ H101 ⟨hxx, rfl⟩
      have hS102 : St H0 NoB NoB [rowE 3 vU (uu : List Int), blkE g58 (.cells #[I ((ropeAll p tt).2.2.1), I ((ropeAll p tt).2.2.2)] 24), rdE r54 ((ropeAll p tt).1 : List (List Int)), rdE vT (tt : List Int), rdE vp (p : List Int), rdE vi (is : List (List Int))] H101 := hS73.ext hxx
      refine wpL_q (U := NoB) rfl (q_assign (v := B (decide (tt = uu))) rfl rfl) ?_
      exact ⟨rfl, (hS102.drop (List.Sublist.cons_cons _ (List.Sublist.cons_cons _ (List.Sublist.cons _ (List.Sublist.cons _ (List.Sublist.cons_cons _ (List.Sublist.cons_cons _ (List.Sublist.slnil))))))))⟩
    rintro f104 H104 ⟨a104_4, hS104⟩
    clear a74_0 a74_11 a74_12 a74_6 a74_8 a74_90
    refine wpF_ret ?_
    refine ⟨_, resT a104_4 resN, hS104.frame, ?_⟩
    show (B (decide (tt = uu))) = B true
    have hfin : uu = tt := by rw [hu, List.take_of_length_le (by omega)]; exact hall.1
    exact congrArg B (decide_eq_true hfin.symm)
  have hpi := (Rd.list.1 rp).in64 (k := j) (by omega)
  have hnw := negW_or hpi
  have hge := hall.2 _ (nth_mem (l := p) (k := j) (by omega))
  have hlo := fit_lo hz (nth_mem (l := p) (k := j) (by omega))
  have hpl : ∀ n, (instP (fun q => nth (ropeAll p tt).1 (-q - 1).toNat) (p.take n)).length ≤ 30 := fun n => Nat.le_trans (instP_pre n) (by rw [hall.1]; exact htl)
  have hp1 := hpl (j + 1)
  rw [instP_take (by omega), ← hu, List.length_append] at hp1
  refine wpF_skip ?_
  refine wpF_seq ?_
  refine wpF_block ?_
  refine wpF_seq ?_
  refine wpF_cut (fun f H => f 0 = vp ∧ f 6 = vT ∧ f 8 = r54 ∧ f 11 = vU ∧ f 12 = I ((j : Int)) ∧ f 97 = B (decide (0 ≤ (nth p j))) ∧ H73 = H) ?_ ?_
  · refine wpF_region ?_
    refine wpL_q (U := NoB) rfl (q_move (v := vp) rfl a74_0) ?_
    refine wpL_q (U := NoB) rfl (q_move (v := I ((j : Int))) rfl a74_12) ?_
    refine wpL_q (U := NoB) rfl (q_indexRd (k := j) rfl Try.underlying22 el_Int_3 rfl rfl (hS73.rdl 4 rfl) (by omega) (by omega)) ?_
    refine wpL_q (U := NoB) rfl (q_loadInt (k := j) rfl rfl el_Int_3 (hS73.rdl 4 rfl) (by omega) (fun _ h => h)) ?_
    refine wpL_q (U := NoB) rfl (q_geq rfl rfl rfl) ?_
    exact ⟨a74_0, a74_6, a74_8, a74_11, a74_12, rfl, rfl⟩
  rintro f76 _ ⟨a76_0, a76_6, a76_8, a76_11, a76_12, a76_97, rfl⟩
  clear a74_0 a74_11 a74_12 a74_6 a74_8 a74_90
  refine wpF_cut (fun f H => ∃ (vM : Value), ∃ (uM : List Int), (uM = instP (fun q => nth (ropeAll p tt).1 (-q - 1).toNat) (p.take (j + 1))) ∧ f 0 = vp ∧ f 6 = vT ∧ f 8 = r54 ∧ f 11 = vM ∧ f 12 = I ((j : Int)) ∧ St H0 NoB NoB [rowE 3 vM (uM : List Int), blkE g58 (.cells #[I ((ropeAll p tt).2.2.1), I ((ropeAll p tt).2.2.2)] 24), rdE r54 ((ropeAll p tt).1 : List (List Int)), rdE vT (tt : List Int), rdE vp (p : List Int), rdE vi (is : List (List Int))] H) ?_ ?_
  · refine wpF_condP a76_97 (fun hpos2 => ?t99) (fun hpos2 => ?e99)
    case t99 =>
      refine wpF_cut (fun f H => ∃ (v84 : Value), f 0 = vp ∧ f 6 = vT ∧ f 8 = r54 ∧ f 11 = v84 ∧ f 12 = I ((j : Int)) ∧ St H0 NoB NoB [rowE 3 v84 (uu ++ ([nth p j]) : List Int), blkE g58 (.cells #[I ((ropeAll p tt).2.2.1), I ((ropeAll p tt).2.2.2)] 24), rdE r54 ((ropeAll p tt).1 : List (List Int)), rdE vT (tt : List Int), rdE vp (p : List Int), rdE vi (is : List (List Int))] H) ?_ ?_
      · refine wpF_region ?_
        refine wpL_q (U := NoB) rfl (q_move (v := vU) rfl a76_11) ?_
        refine wpL_q (U := NoB) rfl (q_move (v := vp) rfl a76_0) ?_
        refine wpL_q (U := NoB) rfl (q_move (v := I ((j : Int))) rfl a76_12) ?_
        refine wpL_q (U := NoB) rfl (q_indexRd (k := j) rfl Try.underlying22 el_Int_3 rfl rfl (hS73.rdl 4 rfl) (by omega) (by omega)) ?_
        refine wpL_q (U := NoB) rfl (q_loadInt (k := j) rfl rfl el_Int_3 (hS73.rdl 4 rfl) (by omega) (fun _ h => h)) ?_
        refine wpL_o rfl ?_
        refine e_buildSlice (vs := [I (nth p j)]) (xs := ([nth p j] : List Int)) rfl Try.underlying22 Try.zeroValue3 rfl Try.sizeOf3 (par1 (v0 := I (nth p j)) rfl) rfl hS73 (RdVs.cons (Rd.int.2 ⟨rfl, by constructor <;> omega⟩) (RdVs.nil)) (by decide) (by decide) (fun v79 H80 hS81 hxx hvv79 => ?_)
        replace hS81 : St H0 NoB NoB [rowE 3 v79 ([nth p j] : List Int), rowE 3 vU (uu : List Int), blkE g58 (.cells #[I ((ropeAll p tt).2.2.1), I ((ropeAll p tt).2.2.2)] 24), rdE r54 ((ropeAll p tt).1 : List (List Int)), rdE vT (tt : List Int), rdE vp (p : List Int), rdE vi (is : List (List Int))] H80 := hS81
        have hS82 : St H0 NoB NoB [rdE v79 ([nth p j] : List Int), rowE 3 vU (uu : List Int), blkE g58 (.cells #[I ((ropeAll p tt).2.2.1), I ((ropeAll p tt).2.2.2)] 24), rdE r54 ((ropeAll p tt).1 : List (List Int)), rdE vT (tt : List Int), rdE vp (p : List Int), rdE vi (is : List (List Int))] H80 := St.fin hS81
        have hS83 : St H0 NoB NoB [rowE 3 vU (uu : List Int), rdE v79 ([nth p j] : List Int), blkE g58 (.cells #[I ((ropeAll p tt).2.2.1), I ((ropeAll p tt).2.2.2)] 24), rdE r54 ((ropeAll p tt).1 : List (List Int)), rdE vT (tt : List Int), rdE vp (p : List Int), rdE vi (is : List (List Int))] H80 := (hS82.front 1 rfl)
        refine wpL_o rfl ?_
        refine e_append rfl Try.underlying22 em_Int_3 rfl rfl hS83 (hS83.rdS 1 rfl) (fun _ h => h) (by have hb : GoT.bytes Int = 8 := rfl; rw [if_pos hpos2] at hp1; rw [hb]; omega) (by decide) (fun v84 H85 hS86 hxx => ?_)
        replace hS86 : St H0 NoB NoB [rowE 3 v84 (uu ++ ([nth p j]) : List Int), rdE v79 ([nth p j] : List Int), blkE g58 (.cells #[I ((ropeAll p tt).2.2.1), I ((ropeAll p tt).2.2.2)] 24), rdE r54 ((ropeAll p tt).1 : List (List Int)), rdE vT (tt : List Int), rdE vp (p : List Int), rdE vi (is : List (List Int))] H85 := hS86
        refine wpL_q (U := NoB) rfl (q_assign (v := v84) rfl rfl) ?_
        exact ⟨v84, a76_0, a76_6, a76_8, rfl, a76_12, (hS86.drop (List.Sublist.cons_cons _ (List.Sublist.cons _ (List.Sublist.cons_cons _ (List.Sublist.cons_cons _ (List.Sublist.cons_cons _ (List.Sublist.cons_cons _ (List.Sublist.cons_cons _ (List.Sublist.slnil)))))))))⟩
      rintro f87 H87 ⟨v84, a87_0, a87_6, a87_8, a87_11, a87_12, hS87⟩
      clear a76_0 a76_11 a76_12 a76_6 a76_8 a76_97
      exact ⟨v84, uu ++ ([nth p j]), (by rw [instP_take (by omega), if_pos hpos2, ← hu]), a87_0, a87_6, a87_8, a87_11, a87_12, hS87⟩
    refine wpF_seq ?_
    refine wpF_cut (fun f H => f 0 = vp ∧ f 6 = vT ∧ f 8 = r54 ∧ f 11 = vU ∧ f 12 = I ((j : Int)) ∧ f 112 = B (decide ((((ropeAll p tt).1).length : Int) < (negW (nth p j)))) ∧ H73 = H) ?_ ?_
    · refine wpF_region ?_
      refine wpL_q (U := NoB) rfl (q_move (v := vp) rfl a76_0) ?_
      refine wpL_q (U := NoB) rfl (q_move (v := I ((j : Int))) rfl a76_12) ?_
      refine wpL_q (U := NoB) rfl (q_indexRd (k := j) rfl Try.underlying22 el_Int_3 rfl rfl (hS73.rdl 4 rfl) (by omega) (by omega)) ?_
      refine wpL_q (U := NoB) rfl (q_loadInt (k := j) rfl rfl el_Int_3 (hS73.rdl 4 rfl) (by omega) (fun _ h => h)) ?_
      refine wpL_q (U := NoB) rfl (q_negW rfl rfl) ?_
      refine wpL_q (U := NoB) rfl (q_move (v := r54) rfl a76_8) ?_
      refine wpL_q (U := NoB) rfl (q_lenRd rfl Try.underlying27 rfl (hS73.rdl 2 rfl)) ?_
      refine wpL_q (U := NoB) rfl (q_gtr rfl rfl rfl) ?_
      exact ⟨a76_0, a76_6, a76_8, a76_11, a76_12, rfl, rfl⟩
    rintro f88 _ ⟨a88_0, a88_6, a88_8, a88_11, a88_12, a88_112, rfl⟩
    clear a76_0 a76_11 a76_12 a76_6 a76_8 a76_97
    refine wpF_condP a88_112 (fun hout => ?t98) (fun hout => ?e98)
    case t98 =>
      refine wpF_seq ?_
      refine wpF_cut (fun f H => f 4 = B (false) ∧ H73 = H) ?_ ?_
      · refine wpF_region ?_
        refine wpL_q (U := NoB) rfl (q_assign (v := B (false)) rfl rfl) ?_
        exact ⟨rfl, rfl⟩
      rintro f90 _ ⟨a90_4, rfl⟩
      clear a88_0 a88_11 a88_112 a88_12 a88_6 a88_8
      refine wpF_ret ?_
      refine ⟨_, resT a90_4 resN, hS73.frame, ?_⟩
      show (B (false)) = B true
      exfalso
      omega
    obtain ⟨u91, huu91, hlu91⟩ := (Rd.list.1 (hS73.rdS 2 rfl)).elem (((negW (nth p j)) - 1).toNat) (by omega)
    have hS92 : St H0 NoB NoB [rdE u91 (nth ((ropeAll p tt).1) (((negW (nth p j)) - 1).toNat) : List Int), rowE 3 vU (uu : List Int), blkE g58 (.cells #[I ((ropeAll p tt).2.2.1), I ((ropeAll p tt).2.2.2)] 24), rdE r54 ((ropeAll p tt).1 : List (List Int)), rdE vT (tt : List Int), rdE vp (p : List Int), rdE vi (is : List (List Int))] H73 := hS73.rd huu91
    refine wpF_cut (fun f H => ∃ (v94 : Value), f 0 = vp ∧ f 6 = vT ∧ f 8 = r54 ∧ f 11 = v94 ∧ f 12 = I ((j : Int)) ∧ St H0 NoB NoB [rowE 3 v94 (uu ++ (nth ((ropeAll p tt).1) (((negW (nth p j)) - 1).toNat)) : List Int), blkE g58 (.cells #[I ((ropeAll p tt).2.2.1), I ((ropeAll p tt).2.2.2)] 24), rdE r54 ((ropeAll p tt).1 : List (List Int)), rdE vT (tt : List Int), rdE vp (p : List Int), rdE vi (is : List (List Int))] H) ?_ ?_
    · refine wpF_region ?_
      refine wpL_q (U := NoB) rfl (q_move (v := vU) rfl a88_11) ?_
      refine wpL_q (U := NoB) rfl (q_move (v := r54) rfl a88_8) ?_
      refine wpL_q (U := NoB) rfl (q_move (v := vp) rfl a88_0) ?_
      refine wpL_q (U := NoB) rfl (q_move (v := I ((j : Int))) rfl a88_12) ?_
      refine wpL_q (U := NoB) rfl (q_indexRd (k := j) rfl Try.underlying22 el_Int_3 rfl rfl (hS73.rdl 4 rfl) (by omega) (by omega)) ?_
      refine wpL_q (U := NoB) rfl (q_loadInt (k := j) rfl rfl el_Int_3 (hS73.rdl 4 rfl) (by omega) (fun _ h => h)) ?_
      refine wpL_q (U := NoB) rfl (q_negW rfl rfl) ?_
      refine wpL_q (U := NoB) rfl (q_sub rfl rfl rfl (by constructor <;> omega)) ?_
      refine wpL_q (U := NoB) rfl (q_indexRd (k := ((negW (nth p j)) - 1).toNat) rfl Try.underlying27 el_LInt_22 rfl rfl (hS73.rdl 2 rfl) (by omega) (by omega)) ?_
      refine wpL_q (U := NoB) rfl (q_loadE rfl rfl (hlu91 Try.prog 22 _ el_LInt_22 (fun _ h => False.elim h))) ?_
      have hS93 : St H0 NoB NoB [rowE 3 vU (uu : List Int), rdE u91 (nth ((ropeAll p tt).1) (((negW (nth p j)) - 1).toNat) : List Int), blkE g58 (.cells #[I ((ropeAll p tt).2.2.1), I ((ropeAll p tt).2.2.2)] 24), rdE r54 ((ropeAll p tt).1 : List (List Int)), rdE vT (tt : List Int), rdE vp (p : List Int), rdE vi (is : List (List Int))] H73 := (hS92.front 1 rfl)
      refine wpL_o rfl ?_
      refine e_append rfl Try.underlying22 em_Int_3 rfl rfl hS93 (hS93.rdS 1 rfl) (fun _ h => h) (by have hb : GoT.bytes Int = 8 := rfl; rw [if_neg hpos2, ← show negW (nth p j) = -(nth p j) from by omega] at hp1; rw [hb]; omega) (by decide) (fun v94 H95 hS96 hxx => ?_)
      replace hS96 : St H0 NoB NoB [rowE 3 v94 (uu ++ (nth ((ropeAll p tt).1) (((negW (nth p j)) - 1).toNat)) : List Int), rdE u91 (nth ((ropeAll p tt).1) (((negW (nth p j)) - 1).toNat) : List Int), blkE g58 (.cells #[I ((ropeAll p tt).2.2.1), I ((ropeAll p tt).2.2.2)] 24), rdE r54 ((ropeAll p tt).1 : List (List Int)), rdE vT (tt : List Int), rdE vp (p : List Int), rdE vi (is : List (List Int))] H95 := hS96
      refine wpL_q (U := NoB) rfl (q_assign (v := v94) rfl rfl) ?_
      exact ⟨v94, a88_0, a88_6, a88_8, rfl, a88_12, (hS96.drop (List.Sublist.cons_cons _ (List.Sublist.cons _ (List.Sublist.cons_cons _ (List.Sublist.cons_cons _ (List.Sublist.cons_cons _ (List.Sublist.cons_cons _ (List.Sublist.cons_cons _ (List.Sublist.slnil)))))))))⟩
    rintro f97 H97 ⟨v94, a97_0, a97_6, a97_8, a97_11, a97_12, hS97⟩
    clear a88_0 a88_11 a88_112 a88_12 a88_6 a88_8
    exact ⟨v94, uu ++ (nth ((ropeAll p tt).1) (((negW (nth p j)) - 1).toNat)), (by rw [instP_take (by omega), if_neg hpos2, ← hu, show negW (nth p j) = -(nth p j) from by omega]), a97_0, a97_6, a97_8, a97_11, a97_12, hS97⟩
  rintro f77 H77 ⟨vM, uM, huM, a77_0, a77_6, a77_8, a77_11, a77_12, hS77⟩
  clear a76_0 a76_11 a76_12 a76_6 a76_8 a76_97
  refine wpF_cut (fun f H => f 0 = vp ∧ f 6 = vT ∧ f 8 = r54 ∧ f 11 = vM ∧ f 12 = I ((j : Int) + 1) ∧ H77 = H) ?_ ?_
  · refine wpF_region ?_
    refine wpL_q (U := NoB) rfl (q_move (v := I ((j : Int))) rfl a77_12) ?_
    refine wpL_q (U := NoB) rfl (q_add rfl rfl rfl (by constructor <;> omega)) ?_
    refine wpL_q (U := NoB) rfl (q_assign (v := I ((j : Int) + 1)) rfl rfl) ?_
    exact ⟨a77_0, a77_6, a77_8, a77_11, rfl, rfl⟩
  rintro f100 _ ⟨a100_0, a100_6, a100_8, a100_11, a100_12, rfl⟩
  clear a77_0 a77_11 a77_12 a77_6 a77_8
  refine ⟨_, ?_, j + 1, vM, uM, rfl, (by omega), huM, a100_0, a100_6, a100_8, a100_11, (Eq.trans a100_12 (congrArg I (by omega))), hS77⟩
  omega

end Go.Um
