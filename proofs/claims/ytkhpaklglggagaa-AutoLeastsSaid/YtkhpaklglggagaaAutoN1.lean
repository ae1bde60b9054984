import Derived.Test.YtkhpaklglggagaaProg
import Derived.Test.YtkhpaklglggagaaAutoA3
import Derived.Test.YtkhpaklglggagaaAutoNer
import Derived.Test.YtkhpaklglggagaaUmSub
namespace Go.Um
open Go.Proofs
open GoT (sz ag rdc)
open KeyT (kv)

theorem el_Bool_4_AutoN1 : ElT Try.prog Bool 4 := ⟨Try.isAgg4, Try.sizeOf4⟩
theorem el_LInt_22_AutoN1 : ElT Try.prog (List Int) 22 := ⟨Try.isAgg22, Try.sizeOf22⟩

set_option maxRecDepth 100000 in
theorem SameAuto_R {H0 : Heap} (vn vt wn wt : Value) (a b : Auto) (rn : Rd NoB H0 vn a.Next) (rt : Rd NoB H0 vt a.Takes) (hsg : In64 a.Signs) (sw : Rd NoB H0 wn b.Next) (st : Rd NoB H0 wt b.Takes) (hsgb : In64 b.Signs) : CallsH Try.prog 36 #[Value.agg #[I (a.Signs), vn, vt], Value.agg #[I (b.Signs), wn, wt]] H0 (fun rv_ H' => Ext NoB H0 H' ∧ rv_ = B (decide (a = b))) := by
  have hsn := (Rd.list.1 rn).small
  have hst := (Rd.list.1 rt).small
  have hS0 : St H0 NoB NoB [rdE vn a.Next, rdE vt a.Takes, rdE wn b.Next, rdE wt b.Takes] H0 := St.arg (St.arg (St.arg (St.arg (St.start (fun _ h => h.elim)) (Bl0.nil) st (fun _ h => h)) (Bl0.cons (Bl0.nil)) sw (fun _ h => h)) (Bl0.cons (Bl0.cons (Bl0.nil))) rt (fun _ h => h)) (Bl0.cons (Bl0.cons (Bl0.cons (Bl0.nil)))) rn (fun _ h => h)
  refine callsH_of_wpF (args := [Value.agg #[I (a.Signs), vn, vt], Value.agg #[I (b.Signs), wn, wt]]) (rs := [.tmp 4]) Try.func36 rfl Try.ntmps36 Try.results36 (by kernel_rfl) (Nat.le_of_ble_eq_true rfl) ?_
  have a0_0 : argF [Value.agg #[I (a.Signs), vn, vt], Value.agg #[I (b.Signs), wn, wt]] 0 = Value.agg #[I (a.Signs), vn, vt] := rfl
  have a0_1 : argF [Value.agg #[I (a.Signs), vn, vt], Value.agg #[I (b.Signs), wn, wt]] 1 = Value.agg #[I (b.Signs), wn, wt] := rfl
  generalize argF [Value.agg #[I (a.Signs), vn, vt], Value.agg #[I (b.Signs), wn, wt]] = f0 at *
  refine wpF_seq ?_
  refine wpF_cut (fun f H => ∃ (g1 : Nat), ∃ (g4 : Nat), f 2 = PT g1 0 ∧ f 3 = PT g4 0 ∧ St H0 NoB NoB [blkE g4 (.cells #[I (b.Signs), wn, wt] 36), blkE g1 (.cells #[I (a.Signs), vn, vt] 36), rdE vn a.Next, rdE vt a.Takes, rdE wn b.Next, rdE wt b.Takes] H) ?_ ?_
  · refine wpF_region ?_
    refine wpL_o rfl ?_
    refine e_box (v := Value.agg #[I (a.Signs), vn, vt]) rfl a0_0 hS0 (fun g1 H2 hS3 hxx => ?_)
    replace hS3 : St H0 NoB NoB [blkE g1 (.cells #[I (a.Signs), vn, vt] 36), rdE vn a.Next, rdE vt a.Takes, rdE wn b.Next, rdE wt b.Takes] H2 := hS3
    refine wpL_o rfl ?_
    refine e_box (v := Value.agg #[I (b.Signs), wn, wt]) rfl a0_1 hS3 (fun g4 H5 hS6 hxx => ?_)
    replace hS6 : St H0 NoB NoB [blkE g4 (.cells #[I (b.Signs), wn, wt] 36), blkE g1 (.cells #[I (a.Signs), vn, vt] 36), rdE vn a.Next, rdE vt a.Takes, rdE wn b.Next, rdE wt b.Takes] H5 := hS6
    refine wpL_q (U := NoB) rfl (q_assign (v := B (false)) rfl rfl) ?_
    exact ⟨g1, g4, rfl, rfl, hS6⟩
  rintro f7 H7 ⟨g1, g4, a7_2, a7_3, hS7⟩
  clear a0_0 a0_1
  refine wpF_seq ?_
  refine wpF_seq ?_
  refine wpF_cut (fun f H => f 2 = PT g1 0 ∧ f 3 = PT g4 0 ∧ f 29 = B (decide (((a.Signs ≠ b.Signs) ∨ ((a.Next.length : Int) ≠ (b.Next.length : Int))) ∨ ((a.Takes.length : Int) ≠ (b.Takes.length : Int)))) ∧ H7 = H) ?_ ?_
  · refine wpF_region ?_
    refine wpL_q (U := NoB) rfl (q_fieldAddr rfl Try.underlying36 rfl Try.sizeOf3 a7_2) ?_
    refine wpL_q (U := NoB) rfl (q_loadBlk rfl rfl Try.isAgg3 (hS7.blk 1 rfl) rfl (fun h => h)) ?_
    refine wpL_q (U := NoB) rfl (q_fieldAddr rfl Try.underlying36 rfl Try.sizeOf3 a7_3) ?_
    refine wpL_q (U := NoB) rfl (q_loadBlk rfl rfl Try.isAgg3 (hS7.blk 0 rfl) rfl (fun h => h)) ?_
    refine wpL_q (U := NoB) rfl (q_neq rfl rfl rfl) ?_
    refine wpL_q (U := NoB) rfl (q_move (v := B (decide (a.Signs ≠ b.Signs))) rfl rfl) ?_
    by_cases hg8 : a.Signs ≠ b.Signs
    · have hb9 := Eq.trans rfl (congrArg B (decide_eq_true hg8))
      refine wpL_gs rfl rfl rfl hb9 rfl ?_
      refine wpL_gs rfl rfl rfl hb9 rfl ?_
      refine wpL_gs rfl rfl rfl hb9 rfl ?_
      refine wpL_gs rfl rfl rfl hb9 rfl ?_
      refine wpL_gs rfl rfl rfl hb9 rfl ?_
      refine wpL_gs rfl rfl rfl hb9 rfl ?_
      refine wpL_gs rfl rfl rfl hb9 rfl ?_
      refine wpL_q (U := NoB) rfl (q_pickT (v := B (true)) rfl hb9 rfl) ?_
      refine wpL_q (U := NoB) rfl (q_move (v := B (true)) rfl rfl) ?_
      refine wpL_gs rfl rfl rfl rfl rfl ?_
      refine wpL_gs rfl rfl rfl rfl rfl ?_
      refine wpL_gs rfl rfl rfl rfl rfl ?_
      refine wpL_gs rfl rfl rfl rfl rfl ?_
      refine wpL_gs rfl rfl rfl rfl rfl ?_
      refine wpL_gs rfl rfl rfl rfl rfl ?_
      refine wpL_gs rfl rfl rfl rfl rfl ?_
      refine wpL_q (U := NoB) rfl (q_pickT (v := B (true)) rfl rfl rfl) ?_
      exact ⟨a7_2, a7_3, (Eq.trans rfl (congrArg B ((decide_eq_true (Or.inl (Or.inl hg8))).symm))), rfl⟩
    · have hb10 := Eq.trans rfl (congrArg B (decide_eq_false hg8))
      refine wpL_gq (U := NoB) rfl rfl rfl hb10 (q_fieldAddr rfl Try.underlying36 rfl Try.sizeOf27 a7_2) ?_
      refine wpL_gq (U := NoB) rfl rfl rfl hb10 (q_loadBlk rfl rfl Try.isAgg27 (hS7.blk 1 rfl) rfl (fun h => h)) ?_
      refine wpL_gq (U := NoB) rfl rfl rfl hb10 (q_lenRd rfl Try.underlying27 rfl (hS7.rdl 2 rfl)) ?_
      refine wpL_gq (U := NoB) rfl rfl rfl hb10 (q_fieldAddr rfl Try.underlying36 rfl Try.sizeOf27 a7_3) ?_
      refine wpL_gq (U := NoB) rfl rfl rfl hb10 (q_loadBlk rfl rfl Try.isAgg27 (hS7.blk 0 rfl) rfl (fun h => h)) ?_
      refine wpL_gq (U := NoB) rfl rfl rfl hb10 (q_lenRd rfl Try.underlying27 rfl (hS7.rdl 4 rfl)) ?_
      refine wpL_gq (U := NoB) rfl rfl rfl hb10 (q_neq rfl rfl rfl) ?_
      refine wpL_q (U := NoB) rfl (q_pickF (v := B (decide ((a.Next.length : Int) ≠ (b.Next.length : Int)))) rfl hb10 rfl) ?_
      refine wpL_q (U := NoB) rfl (q_move (v := B (decide ((a.Next.length : Int) ≠ (b.Next.length : Int)))) rfl rfl) ?_
      by_cases hg11 : (a.Next.length : Int) ≠ (b.Next.length : Int)
      · have hb12 := Eq.trans rfl (congrArg B (decide_eq_true hg11))
        refine wpL_gs rfl rfl rfl hb12 rfl ?_
        refine wpL_gs rfl rfl rfl hb12 rfl ?_
        refine wpL_gs rfl rfl rfl hb12 rfl ?_
        refine wpL_gs rfl rfl rfl hb12 rfl ?_
        refine wpL_gs rfl rfl rfl hb12 rfl ?_
        refine wpL_gs rfl rfl rfl hb12 rfl ?_
        refine wpL_gs rfl rfl rfl hb12 rfl ?_
        refine wpL_q (U := NoB) rfl (q_pickT (v := B (true)) rfl hb12 rfl) ?_
        exact ⟨a7_2, a7_3, (Eq.trans rfl (congrArg B ((decide_eq_true (Or.inl (Or.inr hg11))).symm))), rfl⟩
      · have hb13 := Eq.trans rfl (congrArg B (decide_eq_false hg11))
        refine wpL_gq (U := NoB) rfl rfl rfl hb13 (q_fieldAddr rfl Try.underlying36 rfl Try.sizeOf32 a7_2) ?_
        refine wpL_gq (U := NoB) rfl rfl rfl hb13 (q_loadBlk rfl rfl Try.isAgg32 (hS7.blk 1 rfl) rfl (fun h => h)) ?_
        refine wpL_gq (U := NoB) rfl rfl rfl hb13 (q_lenRd rfl Try.underlying32 rfl (hS7.rdl 3 rfl)) ?_
        refine wpL_gq (U := NoB) rfl rfl rfl hb13 (q_fieldAddr rfl Try.underlying36 rfl Try.sizeOf32 a7_3) ?_
        refine wpL_gq (U := NoB) rfl rfl rfl hb13 (q_loadBlk rfl rfl Try.isAgg32 (hS7.blk 0 rfl) rfl (fun h => h)) ?_
        refine wpL_gq (U := NoB) rfl rfl rfl hb13 (q_lenRd rfl Try.underlying32 rfl (hS7.rdl 5 rfl)) ?_
        refine wpL_gq (U := NoB) rfl rfl rfl hb13 (q_neq rfl rfl rfl) ?_
        refine wpL_q (U := NoB) rfl (q_pickF (v := B (decide ((a.Takes.length : Int) ≠ (b.Takes.length : Int)))) rfl hb13 rfl) ?_
        exact ⟨a7_2, a7_3, (Eq.trans rfl (congrArg B (decide_congr_of ((Iff.rfl).trans (((or_iff_right (not_or.2 ⟨hg8, hg11⟩)).trans Iff.rfl)).symm)))), rfl⟩
  rintro f14 _ ⟨a14_2, a14_3, a14_29, rfl⟩
  clear a7_2 a7_3
  refine wpF_condP a14_29 (fun h29 => ?t40) (fun h29 => ?e40)
  case t40 =>
    refine wpF_seq ?_
    refine wpF_cut (fun f H => f 4 = B (false) ∧ H7 = H) ?_ ?_
    · refine wpF_region ?_
      refine wpL_q (U := NoB) rfl (q_assign (v := B (false)) rfl rfl) ?_
      exact ⟨rfl, rfl⟩
    rintro f16 _ ⟨a16_4, rfl⟩
    clear a14_2 a14_29 a14_3
    refine wpF_ret ?_
    refine ⟨_, resT a16_4 resN, hS7.frame, ?_⟩
    show (B (false)) = B (decide (a = b))
    exact congrArg B (decide_eq_false (fun h => by subst h; simp at h29)).symm
  refine wpF_skip ?_
  refine wpF_seq ?_
  refine wpF_seq ?_
  refine wpF_cut (fun f H => f 2 = PT g1 0 ∧ f 3 = PT g4 0 ∧ f 5 = I (0) ∧ H7 = H) ?_ ?_
  · refine wpF_region ?_
    refine wpL_q (U := NoB) rfl (q_assign (v := I (0)) rfl rfl) ?_
    exact ⟨a14_2, a14_3, rfl, rfl⟩
  rintro f17 _ ⟨a17_2, a17_3, a17_5, rfl⟩
  clear a14_2 a14_29 a14_3
  refine wpF_block ?_
  refine wpF_loop (fun mz f H => ∃ (i : Nat), mz = a.Next.length - i ∧ (i ≤ a.Next.length) ∧ (∀ j, j < i → nth a.Next j = nth b.Next j) ∧ f 2 = PT g1 0 ∧ f 3 = PT g4 0 ∧ f 5 = I ((i : Int)) ∧ St H0 NoB NoB [blkE g4 (.cells #[I (b.Signs), wn, wt] 36), blkE g1 (.cells #[I (a.Signs), vn, vt] 36), rdE vn a.Next, rdE vt a.Takes, rdE wn b.Next, rdE wt b.Takes] H) (a.Next.length - 0) ?_ ?_
  · exact ⟨0, rfl, Nat.zero_le _, (fun j hj => absurd hj (Nat.not_lt_zero j)), a17_2, a17_3, (Eq.trans a17_5 (congrArg I (by omega))), hS7⟩
  intro m18 f18 H18 hI18
  obtain ⟨i, hm18, hi, hp, a18_2, a18_3, a18_5, hS18⟩ := hI18
  clear a17_2 a17_3 a17_5
  refine wpF_seq ?_
  refine wpF_seq ?_
  refine wpF_cut (fun f H => f 2 = PT g1 0 ∧ f 3 = PT g4 0 ∧ f 5 = I ((i : Int)) ∧ f 34 = B (decide ((i : Int) < (a.Next.length : Int))) ∧ H18 = H) ?_ ?_
  · refine wpF_region ?_
    refine wpL_q (U := NoB) rfl (q_move (v := I ((i : Int))) rfl a18_5) ?_
    refine wpL_q (U := NoB) rfl (q_fieldAddr rfl Try.underlying36 rfl Try.sizeOf27 a18_2) ?_
    refine wpL_q (U := NoB) rfl (q_loadBlk rfl rfl Try.isAgg27 (hS18.blk 1 rfl) rfl (fun h => h)) ?_
    refine wpL_q (U := NoB) rfl (q_lenRd rfl Try.underlying27 rfl (hS18.rdl 2 rfl)) ?_
    refine wpL_q (U := NoB) rfl (q_lss rfl rfl rfl) ?_
    exact ⟨a18_2, a18_3, a18_5, rfl, rfl⟩
  rintro f19 _ ⟨a19_2, a19_3, a19_5, a19_34, rfl⟩
  clear a18_2 a18_3 a18_5
  refine wpF_condP a19_34 (fun hlt => ?t39) (fun hlt => ?e39)
  case t39 =>
    refine wpF_skip ?_
    refine wpF_seq ?_
    refine wpF_block ?_
    refine wpF_seq ?_
    obtain ⟨u21o4, huu21o4, hlu21o4⟩ := (Rd.list.1 (hS18.rdS 2 rfl)).elem i (by omega)
    have hS21o4 : St H0 NoB NoB [rdE u21o4 (nth a.Next i), blkE g4 (.cells #[I (b.Signs), wn, wt] 36), blkE g1 (.cells #[I (a.Signs), vn, vt] 36), rdE vn a.Next, rdE vt a.Takes, rdE wn b.Next, rdE wt b.Takes] H18 := hS18.rd huu21o4
    obtain ⟨u21o9, huu21o9, hlu21o9⟩ := (Rd.list.1 (hS21o4.rdS 5 rfl)).elem i (by omega)
    have hS21o9 : St H0 NoB NoB [rdE u21o9 (nth b.Next i), rdE u21o4 (nth a.Next i), blkE g4 (.cells #[I (b.Signs), wn, wt] 36), blkE g1 (.cells #[I (a.Signs), vn, vt] 36), rdE vn a.Next, rdE vt a.Takes, rdE wn b.Next, rdE wt b.Takes] H18 := hS21o4.rd huu21o9
    refine wpF_cut (fun f H => f 2 = PT g1 0 ∧ f 3 = PT g4 0 ∧ f 5 = I ((i : Int)) ∧ f 48 = B (decide (¬ ((nth a.Next i) = (nth b.Next i)))) ∧ St H0 NoB NoB [blkE g4 (.cells #[I (b.Signs), wn, wt] 36), blkE g1 (.cells #[I (a.Signs), vn, vt] 36), rdE vn a.Next, rdE vt a.Takes, rdE wn b.Next, rdE wt b.Takes] H) ?_ ?_
    · refine wpF_drawn [] [] (fun _ _ => False) (by kernel_rfl) (by kernel_rfl) ?_
      refine wpR_q 0 (by kernel_rfl) rfl (quietAt rfl rfl (q_fieldAddr rfl Try.underlying36 rfl Try.sizeOf27 a19_2)) ?_
      refine wpR_q 1 (by kernel_rfl) rfl (quietAt rfl rfl (q_loadBlk rfl rfl Try.isAgg27 (hS18.blk 1 rfl) rfl (labU_not [] rfl (List.forall_mem_nil _)))) ?_
      refine wpR_q 2 (by kernel_rfl) rfl (quietAt rfl rfl (q_move (v := I ((i : Int))) rfl a19_5)) ?_
      refine wpR_q 3 (by kernel_rfl) rfl (quietAt rfl rfl (q_indexRd (k := i) rfl Try.underlying27 el_LInt_22_AutoN1 rfl rfl (hS18.rdl 2 rfl) (by omega) (by omega))) ?_
      refine wpR_q 4 (by kernel_rfl) rfl (quietAt rfl rfl (q_loadE rfl rfl (hlu21o4 Try.prog 22 _ el_LInt_22_AutoN1 (labU_sub [] rfl (List.forall_mem_nil _))))) ?_
      refine wpR_q 5 (by kernel_rfl) rfl (quietAt rfl rfl (q_fieldAddr rfl Try.underlying36 rfl Try.sizeOf27 a19_3)) ?_
      refine wpR_q 6 (by kernel_rfl) rfl (quietAt rfl rfl (q_loadBlk rfl rfl Try.isAgg27 (hS21o4.blk 1 rfl) rfl (labU_not [] rfl (List.forall_mem_nil _)))) ?_
      refine wpR_q 7 (by kernel_rfl) rfl (quietAt rfl rfl (q_move (v := I ((i : Int))) rfl a19_5)) ?_
      refine wpR_q 8 (by kernel_rfl) rfl (quietAt rfl rfl (q_indexRd (k := i) rfl Try.underlying27 el_LInt_22_AutoN1 rfl rfl (hS21o4.rdl 5 rfl) (by omega) (by omega))) ?_
      refine wpR_q 9 (by kernel_rfl) rfl (quietAt rfl rfl (q_loadE rfl rfl (hlu21o9 Try.prog 22 _ el_LInt_22_AutoN1 (labU_sub [] rfl (List.forall_mem_nil _))))) ?_
      refine wpR_n [10] (by kernel_rfl) ?_
      refine List.forall_mem_cons.2 ⟨?_, List.forall_mem_nil _⟩
      refine exE rfl rfl ?_
      refine e_call rfl Try.call32 (arr2 (v0 := u21o4) (v1 := u21o9) rfl rfl) (Ints u21o4 u21o9 _ _ (hS21o9.rdN 1 rfl) (hS21o9.rdN 0 rfl)) ?_
      rintro _ H21o10 ⟨hxx, rfl⟩
      have hS21o10 : St H0 NoB NoB [rdE u21o9 (nth b.Next i), rdE u21o4 (nth a.Next i), blkE g4 (.cells #[I (b.Signs), wn, wt] 36), blkE g1 (.cells #[I (a.Signs), vn, vt] 36), rdE vn a.Next, rdE vt a.Takes, rdE wn b.Next, rdE wt b.Takes] H21o10 := hS21o9.ext hxx
      refine ⟨Ext.mono hxx (fun _ h => h.elim), ?_⟩
      refine wpR_q 11 (by kernel_rfl) rfl (quietAt rfl rfl (q_notP rfl rfl)) ?_
      refine wpR_end (by kernel_rfl) ?_
      exact ⟨a19_2, a19_3, a19_5, rfl, (hS21o10.drop (sn (sn (sk (sk (sk (sk (sk (sk (List.Sublist.slnil))))))))))⟩
    rintro f22 H22 ⟨a22_2, a22_3, a22_5, a22_48, hS22⟩
    clear a19_2 a19_3 a19_34 a19_5
    refine wpF_condP a22_48 (fun h48 => ?t26) (fun h48 => ?e26)
    case t26 =>
      refine wpF_seq ?_
      refine wpF_cut (fun f H => f 4 = B (false) ∧ H22 = H) ?_ ?_
      · refine wpF_region ?_
        refine wpL_q (U := NoB) rfl (q_assign (v := B (false)) rfl rfl) ?_
        exact ⟨rfl, rfl⟩
      rintro f24 _ ⟨a24_4, rfl⟩
      clear a22_2 a22_3 a22_48 a22_5
      refine wpF_ret ?_
      refine ⟨_, resT a24_4 resN, hS22.frame, ?_⟩
      show (B (false)) = B (decide (a = b))
      exact congrArg B (decide_eq_false (fun h => by subst h; simp at h48)).symm
    refine wpF_skip ?_
    refine wpF_cut (fun f H => f 2 = PT g1 0 ∧ f 3 = PT g4 0 ∧ f 5 = I ((i : Int) + 1) ∧ H22 = H) ?_ ?_
    · refine wpF_region ?_
      refine wpL_q (U := NoB) rfl (q_move (v := I ((i : Int))) rfl a22_5) ?_
      refine wpL_q (U := NoB) rfl (q_add rfl rfl rfl (by constructor <;> omega)) ?_
      refine wpL_q (U := NoB) rfl (q_assign (v := I ((i : Int) + 1)) rfl rfl) ?_
      exact ⟨a22_2, a22_3, rfl, rfl⟩
    rintro f25 _ ⟨a25_2, a25_3, a25_5, rfl⟩
    clear a22_2 a22_3 a22_48 a22_5
    refine ⟨_, ?_, i + 1, rfl, (by omega), (all_succ hp (by simpa using h48)), a25_2, a25_3, (Eq.trans a25_5 (congrArg I (by omega))), hS22⟩
    omega
  refine wpF_exit ?_
  refine atX_here ?_
  refine wpF_seq ?_
  refine wpF_seq ?_
  refine wpF_cut (fun f H => f 2 = PT g1 0 ∧ f 3 = PT g4 0 ∧ f 6 = I (0) ∧ H18 = H) ?_ ?_
  · refine wpF_region ?_
    refine wpL_q (U := NoB) rfl (q_assign (v := I (0)) rfl rfl) ?_
    exact ⟨a19_2, a19_3, rfl, rfl⟩
  rintro f27 _ ⟨a27_2, a27_3, a27_6, rfl⟩
  clear a19_2 a19_3 a19_34 a19_5
  refine wpF_block ?_
  refine wpF_loop (fun mz f H => ∃ (k : Nat), mz = a.Takes.length - k ∧ (k ≤ a.Takes.length) ∧ (∀ j, j < k → nth a.Takes j = nth b.Takes j) ∧ f 2 = PT g1 0 ∧ f 3 = PT g4 0 ∧ f 6 = I ((k : Int)) ∧ St H0 NoB NoB [blkE g4 (.cells #[I (b.Signs), wn, wt] 36), blkE g1 (.cells #[I (a.Signs), vn, vt] 36), rdE vn a.Next, rdE vt a.Takes, rdE wn b.Next, rdE wt b.Takes] H) (a.Takes.length - 0) ?_ ?_
  · exact ⟨0, rfl, Nat.zero_le _, (fun j hj => absurd hj (Nat.not_lt_zero j)), a27_2, a27_3, (Eq.trans a27_6 (congrArg I (by omega))), hS18⟩
  intro m28 f28 H28 hI28
  obtain ⟨k, hm28, hk, hq, a28_2, a28_3, a28_6, hS28⟩ := hI28
  clear a27_2 a27_3 a27_6
  refine wpF_seq ?_
  refine wpF_seq ?_
  refine wpF_cut (fun f H => f 2 = PT g1 0 ∧ f 3 = PT g4 0 ∧ f 6 = I ((k : Int)) ∧ f 53 = B (decide ((k : Int) < (a.Takes.length : Int))) ∧ H28 = H) ?_ ?_
  · refine wpF_region ?_
    refine wpL_q (U := NoB) rfl (q_move (v := I ((k : Int))) rfl a28_6) ?_
    refine wpL_q (U := NoB) rfl (q_fieldAddr rfl Try.underlying36 rfl Try.sizeOf32 a28_2) ?_
    refine wpL_q (U := NoB) rfl (q_loadBlk rfl rfl Try.isAgg32 (hS28.blk 1 rfl) rfl (fun h => h)) ?_
    refine wpL_q (U := NoB) rfl (q_lenRd rfl Try.underlying32 rfl (hS28.rdl 3 rfl)) ?_
    refine wpL_q (U := NoB) rfl (q_lss rfl rfl rfl) ?_
    exact ⟨a28_2, a28_3, a28_6, rfl, rfl⟩
  rintro f29 _ ⟨a29_2, a29_3, a29_6, a29_53, rfl⟩
  clear a28_2 a28_3 a28_6
  refine wpF_condP a29_53 (fun hlt2 => ?t38) (fun hlt2 => ?e38)
  case e38 =>
    refine wpF_exit ?_
    refine atX_here ?_
    refine wpF_seq ?_
    refine wpF_cut (fun f H => f 4 = B (true) ∧ H28 = H) ?_ ?_
    · refine wpF_region ?_
      refine wpL_q (U := NoB) rfl (q_assign (v := B (true)) rfl rfl) ?_
      exact ⟨rfl, rfl⟩
    rintro f37 _ ⟨a37_4, rfl⟩
    clear a29_2 a29_3 a29_53 a29_6
    refine wpF_ret ?_
    refine ⟨_, resT a37_4 resN, hS28.frame, ?_⟩
    show (B (true)) = B (decide (a = b))
    exact congrArg B (decide_eq_true (auto_ext (by omega) (by omega) (fun j hj => hp j (by omega)) (by omega) (fun j hj => hq j (by omega)))).symm
  refine wpF_skip ?_
  refine wpF_seq ?_
  refine wpF_block ?_
  refine wpF_seq ?_
  refine wpF_cut (fun f H => f 2 = PT g1 0 ∧ f 3 = PT g4 0 ∧ f 6 = I ((k : Int)) ∧ f 66 = B (decide ((nth a.Takes k) ≠ (nth b.Takes k))) ∧ H28 = H) ?_ ?_
  · refine wpF_drawn [] [] (fun _ _ => False) (by kernel_rfl) (by kernel_rfl) ?_
    refine wpR_q 0 (by kernel_rfl) rfl (quietAt rfl rfl (q_fieldAddr rfl Try.underlying36 rfl Try.sizeOf32 a29_2)) ?_
    refine wpR_q 1 (by kernel_rfl) rfl (quietAt rfl rfl (q_loadBlk rfl rfl Try.isAgg32 (hS28.blk 1 rfl) rfl (labU_not [] rfl (List.forall_mem_nil _)))) ?_
    refine wpR_q 2 (by kernel_rfl) rfl (quietAt rfl rfl (q_move (v := I ((k : Int))) rfl a29_6)) ?_
    refine wpR_q 3 (by kernel_rfl) rfl (quietAt rfl rfl (q_indexRd (k := k) rfl Try.underlying32 el_Bool_4_AutoN1 rfl rfl (hS28.rdl 3 rfl) (by omega) (by omega))) ?_
    refine wpR_q 4 (by kernel_rfl) rfl (quietAt rfl rfl (q_loadBool (k := k) rfl rfl el_Bool_4_AutoN1 (hS28.rdl 3 rfl) (by omega) (labU_sub [] rfl (List.forall_mem_nil _)))) ?_
    refine wpR_q 5 (by kernel_rfl) rfl (quietAt rfl rfl (q_fieldAddr rfl Try.underlying36 rfl Try.sizeOf32 a29_3)) ?_
    refine wpR_q 6 (by kernel_rfl) rfl (quietAt rfl rfl (q_loadBlk rfl rfl Try.isAgg32 (hS28.blk 0 rfl) rfl (labU_not [] rfl (List.forall_mem_nil _)))) ?_
    refine wpR_q 7 (by kernel_rfl) rfl (quietAt rfl rfl (q_move (v := I ((k : Int))) rfl a29_6)) ?_
    refine wpR_q 8 (by kernel_rfl) rfl (quietAt rfl rfl (q_indexRd (k := k) rfl Try.underlying32 el_Bool_4_AutoN1 rfl rfl (hS28.rdl 5 rfl) (by omega) (by omega))) ?_
    refine wpR_q 9 (by kernel_rfl) rfl (quietAt rfl rfl (q_loadBool (k := k) rfl rfl el_Bool_4_AutoN1 (hS28.rdl 5 rfl) (by omega) (labU_sub [] rfl (List.forall_mem_nil _)))) ?_
    refine wpR_q 10 (by kernel_rfl) rfl (quietAt rfl rfl (q_neqB rfl Try.underlying4 rfl rfl)) ?_
    refine wpR_end (by kernel_rfl) ?_
    exact ⟨a29_2, a29_3, a29_6, rfl, rfl⟩
  rintro f32 _ ⟨a32_2, a32_3, a32_6, a32_66, rfl⟩
  clear a29_2 a29_3 a29_53 a29_6
  refine wpF_condP a32_66 (fun h66 => ?t36) (fun h66 => ?e36)
  case t36 =>
    refine wpF_seq ?_
    refine wpF_cut (fun f H => f 4 = B (false) ∧ H28 = H) ?_ ?_
    · refine wpF_region ?_
      refine wpL_q (U := NoB) rfl (q_assign (v := B (false)) rfl rfl) ?_
      exact ⟨rfl, rfl⟩
    rintro f34 _ ⟨a34_4, rfl⟩
    clear a32_2 a32_3 a32_6 a32_66
    refine wpF_ret ?_
    refine ⟨_, resT a34_4 resN, hS28.frame, ?_⟩
    show (B (false)) = B (decide (a = b))
    exact congrArg B (decide_eq_false (fun h => by subst h; simp at h66)).symm
  refine wpF_skip ?_
  refine wpF_cut (fun f H => f 2 = PT g1 0 ∧ f 3 = PT g4 0 ∧ f 6 = I ((k : Int) + 1) ∧ H28 = H) ?_ ?_
  · refine wpF_region ?_
    refine wpL_q (U := NoB) rfl (q_move (v := I ((k : Int))) rfl a32_6) ?_
    refine wpL_q (U := NoB) rfl (q_add rfl rfl rfl (by constructor <;> omega)) ?_
    refine wpL_q (U := NoB) rfl (q_assign (v := I ((k : Int) + 1)) rfl rfl) ?_
    exact ⟨a32_2, a32_3, rfl, rfl⟩
  rintro f35 _ ⟨a35_2, a35_3, a35_6, rfl⟩
  clear a32_2 a32_3 a32_6 a32_66
  refine ⟨_, ?_, k + 1, rfl, (by omega), (all_succ hq (by simpa using h66)), a35_2, a35_3, (Eq.trans a35_6 (congrArg I (by omega))), hS28⟩
  omega

end Go.Um
