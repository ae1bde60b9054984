import Derived.Test.YtkhpaklglggagaaProg
import Derived.Test.YtkhpaklglggagaaAutoA3
import Derived.Test.YtkhpaklglggagaaAutoApart
import Derived.Test.YtkhpaklglggagaaUmFam
import Derived.Test.YtkhpaklglggagaaUmSub
namespace Go.Um
open Go.Proofs
open GoT (sz ag rdc)
open KeyT (kv)

theorem el_Bool_4_AutoQ1 : ElT Try.prog Bool 4 := ⟨Try.isAgg4, Try.sizeOf4⟩
theorem el_Int_3_AutoQ1 : ElT Try.prog Int 3 := ⟨Try.isAgg3, Try.sizeOf3⟩
theorem el_LInt_22_AutoQ1 : ElT Try.prog (List Int) 22 := ⟨Try.isAgg22, Try.sizeOf22⟩
theorem el_Raw_32_AutoQ1 : ElT Try.prog Raw 32 := ⟨Try.isAgg32, Try.sizeOf32⟩
theorem em_Bool_4_AutoQ1 : ElemOk Try.prog Bool 4 := ⟨Try.t4, (.bool false), by kernel_rfl, by kernel_rfl, by kernel_rfl, by kernel_rfl, by kernel_rfl⟩
theorem em_Raw_32_AutoQ1 : ElemOk Try.prog Raw 32 := ⟨Try.t32, (.slice none 0 0), by kernel_rfl, by kernel_rfl, by kernel_rfl, by kernel_rfl, by kernel_rfl⟩

set_option maxHeartbeats 4000000 in
set_option maxRecDepth 100000 in
theorem Apart_R {H0 : Heap} {S : Nat → Prop} (vn vt : Value) (a : Auto) (rn : Rd S H0 vn a.Next) (rt : Rd S H0 vt a.Takes) (hsg : In64 a.Signs) (hW : WF a) : CallsH Try.prog 64 #[Value.agg #[I (a.Signs), vn, vt]] H0 (fun rv_ H' => Ext NoB H0 H' ∧ ∃ M_, Rd (fun b => S b ∧ b < H0.size) H' rv_ (M_ : List (List Bool)) ∧ ApM a M_) := by
  have hsn := (Rd.list.1 rn).small
  have hst := (Rd.list.1 rt).small
  have hm := hW.takes
  have hm2 := hW.many
  have hsgw := hW.signs
  have hS0 : St H0 NoB (fun b => S b ∧ b < H0.size) [rdE vn a.Next, rdE vt a.Takes] H0 := St.arg (St.arg (St.start (fun _ h => h.2)) (Bl0.nil) rt (fun _ h => h.1)) (Bl0.cons (Bl0.nil)) rn (fun _ h => h.1)
  refine callsH_of_wpF (args := [Value.agg #[I (a.Signs), vn, vt]]) (rs := [.tmp 2]) Try.func64 rfl Try.ntmps64 Try.results64 (by kernel_rfl) (Nat.le_of_ble_eq_true rfl) ?_
  have a0_0 : argF [Value.agg #[I (a.Signs), vn, vt]] 0 = Value.agg #[I (a.Signs), vn, vt] := rfl
  generalize argF [Value.agg #[I (a.Signs), vn, vt]] = f0 at *
  refine wpF_seq ?_
  refine wpF_cut (fun f H => ∃ (g1 : Nat), f 1 = PT g1 0 ∧ St H0 NoB (fun b => S b ∧ b < H0.size) [blkE g1 (.cells #[I (a.Signs), vn, vt] 36), rdE vn a.Next, rdE vt a.Takes] H) ?_ ?_
  · refine wpF_region ?_
    refine wpL_o rfl ?_
    refine e_box (v := Value.agg #[I (a.Signs), vn, vt]) rfl a0_0 hS0 (fun g1 H2 hS3 hxx => ?_)
    replace hS3 : St H0 NoB (fun b => S b ∧ b < H0.size) [blkE g1 (.cells #[I (a.Signs), vn, vt] 36), rdE vn a.Next, rdE vt a.Takes] H2 := hS3
    refine wpL_q (U := NoB) rfl (q_assign (v := (Value.slice none 0 0)) rfl rfl) ?_
    exact ⟨g1, rfl, hS3⟩
  rintro f4 H4 ⟨g1, a4_1, hS4⟩
  clear a0_0
  refine wpF_seq ?_
  refine wpF_cut (fun f H => f 1 = PT g1 0 ∧ f 3 = (Value.slice none 0 0) ∧ H4 = H) ?_ ?_
  · refine wpF_region ?_
    refine wpL_q (U := NoB) rfl (q_assign (v := (Value.slice none 0 0)) rfl rfl) ?_
    exact ⟨a4_1, rfl, rfl⟩
  rintro f5 _ ⟨a5_1, a5_3, rfl⟩
  clear a4_1
  have hS6 : St H0 NoB (fun b => S b ∧ b < H0.size) [rowE 32 (Value.slice none 0 0) ([] : List Raw), blkE g1 (.cells #[I (a.Signs), vn, vt] 36), rdE vn a.Next, rdE vt a.Takes] H4 := hS4.row0 32
  have hS7 : St H0 NoB (fun b => S b ∧ b < H0.size) [famE 4 ([]) (apInit a 0 : List (List Bool)), rowE 32 (Value.slice none 0 0) ([] : List Raw), blkE g1 (.cells #[I (a.Signs), vn, vt] 36), rdE vn a.Next, rdE vt a.Takes] H4 := hS6.fam0 4
  refine wpF_seq ?_
  refine wpF_seq ?_
  refine wpF_cut (fun f H => f 1 = PT g1 0 ∧ f 3 = (Value.slice none 0 0) ∧ f 4 = I (0) ∧ H4 = H) ?_ ?_
  · refine wpF_region ?_
    refine wpL_q (U := NoB) rfl (q_assign (v := I (0)) rfl rfl) ?_
    exact ⟨a5_1, a5_3, rfl, rfl⟩
  rintro f8 _ ⟨a8_1, a8_3, a8_4, rfl⟩
  clear a5_1 a5_3
  refine wpF_block ?_
  refine wpF_loop (fun mz f H => ∃ (i : Nat), ∃ (vT : Value), ∃ (us : List Raw), mz = a.Next.length - i ∧ (i ≤ a.Next.length) ∧ (us.length = i) ∧ f 1 = PT g1 0 ∧ f 3 = vT ∧ f 4 = I ((i : Int)) ∧ St H0 NoB (fun b => S b ∧ b < H0.size) [rowE 32 vT (us : List Raw), famE 4 us (apInit a i : List (List Bool)), blkE g1 (.cells #[I (a.Signs), vn, vt] 36), rdE vn a.Next, rdE vt a.Takes] H) (a.Next.length - 0) ?_ ?_
  · exact ⟨0, (Value.slice none 0 0), [], rfl, Nat.zero_le _, rfl, a8_1, a8_3, (Eq.trans a8_4 (congrArg I (by omega))), (show St H0 NoB (fun b => S b ∧ b < H0.size) [rowE 32 (Value.slice none 0 0) (([]) : List Raw), famE 4 ([]) (apInit a 0 : List (List Bool)), blkE g1 (.cells #[I (a.Signs), vn, vt] 36), rdE vn a.Next, rdE vt a.Takes] H4 from (St.drop (show St H0 NoB (fun b => S b ∧ b < H0.size) [rowE 32 (Value.slice none 0 0) ([] : List Raw), famE 4 ([]) (apInit a 0 : List (List Bool)), blkE g1 (.cells #[I (a.Signs), vn, vt] 36), rdE vn a.Next, rdE vt a.Takes] H4 from (hS7.front 1 rfl)) (sk (sk (sk (sk (sk (List.Sublist.slnil))))))))⟩
  intro m9 f9 H9 hI9
  obtain ⟨i, vT, us, hm9, hi, hul, a9_1, a9_3, a9_4, hS9⟩ := hI9
  clear a8_1 a8_3 a8_4
  refine wpF_seq ?_
  refine wpF_seq ?_
  refine wpF_cut (fun f H => f 1 = PT g1 0 ∧ f 3 = vT ∧ f 4 = I ((i : Int)) ∧ f 15 = B (decide ((i : Int) < (a.Next.length : Int))) ∧ H9 = H) ?_ ?_
  · refine wpF_region ?_
    refine wpL_q (U := NoB) rfl (q_move (v := I ((i : Int))) rfl a9_4) ?_
    refine wpL_q (U := NoB) rfl (q_fieldAddr rfl Try.underlying36 rfl Try.sizeOf27 a9_1) ?_
    refine wpL_q (U := NoB) rfl (q_loadBlk rfl rfl Try.isAgg27 (hS9.blk 2 rfl) rfl (fun h => h)) ?_
    refine wpL_q (U := NoB) rfl (q_lenRd rfl Try.underlying27 rfl (hS9.rdl 3 rfl)) ?_
    refine wpL_q (U := NoB) rfl (q_lss rfl rfl rfl) ?_
    exact ⟨a9_1, a9_3, a9_4, rfl, rfl⟩
  rintro f10 _ ⟨a10_1, a10_3, a10_4, a10_15, rfl⟩
  clear a9_1 a9_3 a9_4
  refine wpF_condP a10_15 (fun hlt => ?t77) (fun hlt => ?e77)
  case t77 =>
    have hrl := apRow_len (a := a) (i := i) (k := 0)
    refine wpF_skip ?_
    refine wpF_seq ?_
    refine wpF_block ?_
    refine wpF_seq ?_
    refine wpF_cut (fun f H => ∃ (v12 : Value), f 1 = PT g1 0 ∧ f 3 = vT ∧ f 4 = I ((i : Int)) ∧ f 5 = v12 ∧ St H0 NoB (fun b => S b ∧ b < H0.size) [rowE 4 v12 (List.replicate a.Next.length false : List Bool), rowE 32 vT (us : List Raw), famE 4 us (apInit a i : List (List Bool)), blkE g1 (.cells #[I (a.Signs), vn, vt] 36), rdE vn a.Next, rdE vt a.Takes] H) ?_ ?_
    · refine wpF_region ?_
      refine wpL_q (U := NoB) rfl (q_fieldAddr rfl Try.underlying36 rfl Try.sizeOf27 a10_1) ?_
      refine wpL_q (U := NoB) rfl (q_loadBlk rfl rfl Try.isAgg27 (hS9.blk 2 rfl) rfl (fun h => h)) ?_
      refine wpL_q (U := NoB) rfl (q_lenRd rfl Try.underlying27 rfl (hS9.rdl 3 rfl)) ?_
      refine wpL_o rfl ?_
      refine e_makeSlice (n := a.Next.length) (x0 := (false : Bool)) rfl Try.underlying32 Try.zeroValue4 em_Bool_4_AutoQ1 Try.sizeOf4 rfl rfl (by omega) (fun _ _ => Rd.bool.2 rfl) hS9 (by have hb : GoT.bytes Bool = 1 := rfl; simp [hb]; omega) (by omega) (fun v12 H13 hS14 hxx => ?_)
      replace hS14 : St H0 NoB (fun b => S b ∧ b < H0.size) [rowE 4 v12 (List.replicate a.Next.length false : List Bool), rowE 32 vT (us : List Raw), famE 4 us (apInit a i : List (List Bool)), blkE g1 (.cells #[I (a.Signs), vn, vt] 36), rdE vn a.Next, rdE vt a.Takes] H13 := hS14
      refine wpL_q (U := NoB) rfl (q_assign (v := v12) rfl rfl) ?_
      exact ⟨v12, a10_1, a10_3, a10_4, rfl, hS14⟩
    rintro f15 H15 ⟨v12, a15_1, a15_3, a15_4, a15_5, hS15⟩
    clear a10_1 a10_15 a10_3 a10_4
    refine wpF_seq ?_
    refine wpF_seq ?_
    refine wpF_cut (fun f H => f 1 = PT g1 0 ∧ f 3 = vT ∧ f 4 = I ((i : Int)) ∧ f 5 = v12 ∧ f 6 = I (0) ∧ H15 = H) ?_ ?_
    · refine wpF_region ?_
      refine wpL_q (U := NoB) rfl (q_assign (v := I (0)) rfl rfl) ?_
      exact ⟨a15_1, a15_3, a15_4, a15_5, rfl, rfl⟩
    rintro f16 _ ⟨a16_1, a16_3, a16_4, a16_5, a16_6, rfl⟩
    clear a15_1 a15_3 a15_4 a15_5
    refine wpF_block ?_
    refine wpF_loop (fun mz f H => ∃ (k : Nat), mz = a.Next.length - k ∧ (k ≤ a.Next.length) ∧ f 1 = PT g1 0 ∧ f 3 = vT ∧ f 4 = I ((i : Int)) ∧ f 5 = v12 ∧ f 6 = I ((k : Int)) ∧ St H0 NoB (fun b => S b ∧ b < H0.size) [rowE 4 v12 (apRow a i k : List Bool), rowE 32 vT (us : List Raw), famE 4 us (apInit a i : List (List Bool)), blkE g1 (.cells #[I (a.Signs), vn, vt] 36), rdE vn a.Next, rdE vt a.Takes] H) (a.Next.length - 0) ?_ ?_
    · exact ⟨0, rfl, Nat.zero_le _, a16_1, a16_3, a16_4, a16_5, (Eq.trans a16_6 (congrArg I (by omega))), (show St H0 NoB (fun b => S b ∧ b < H0.size) [rowE 4 v12 (apRow a i 0 : List Bool), rowE 32 vT (us : List Raw), famE 4 us (apInit a i : List (List Bool)), blkE g1 (.cells #[I (a.Signs), vn, vt] 36), rdE vn a.Next, rdE vt a.Takes] H15 from (by have h__ := hS15; rw [← apRow_zero (i := i)] at h__; exact h__))⟩
    intro m17 f17 H17 hI17
    obtain ⟨k, hm17, hk, a17_1, a17_3, a17_4, a17_5, a17_6, hS17⟩ := hI17
    clear a16_1 a16_3 a16_4 a16_5 a16_6
    refine wpF_seq ?_
    refine wpF_seq ?_
    refine wpF_cut (fun f H => f 1 = PT g1 0 ∧ f 3 = vT ∧ f 4 = I ((i : Int)) ∧ f 5 = v12 ∧ f 6 = I ((k : Int)) ∧ f 26 = B (decide ((k : Int) < (a.Next.length : Int))) ∧ H17 = H) ?_ ?_
    · refine wpF_region ?_
      refine wpL_q (U := NoB) rfl (q_move (v := I ((k : Int))) rfl a17_6) ?_
      refine wpL_q (U := NoB) rfl (q_fieldAddr rfl Try.underlying36 rfl Try.sizeOf27 a17_1) ?_
      refine wpL_q (U := NoB) rfl (q_loadBlk rfl rfl Try.isAgg27 (hS17.blk 3 rfl) rfl (fun h => h)) ?_
      refine wpL_q (U := NoB) rfl (q_lenRd rfl Try.underlying27 rfl (hS17.rdl 4 rfl)) ?_
      refine wpL_q (U := NoB) rfl (q_lss rfl rfl rfl) ?_
      exact ⟨a17_1, a17_3, a17_4, a17_5, a17_6, rfl, rfl⟩
    rintro f18 _ ⟨a18_1, a18_3, a18_4, a18_5, a18_6, a18_26, rfl⟩
    clear a17_1 a17_3 a17_4 a17_5 a17_6
    refine wpF_condP a18_26 (fun hlt2 => ?t34) (fun hlt2 => ?e34)
    case e34 =>
      obtain rfl : k = a.Next.length := by omega
      refine wpF_exit ?_
      refine atX_here ?_
      refine wpF_cut (fun f H => ∃ (v28 : Value), f 1 = PT g1 0 ∧ f 3 = v28 ∧ f 4 = I ((i : Int)) ∧ St H0 NoB (fun b => S b ∧ b < H0.size) [rowE 32 v28 (us ++ ([Raw.mk v12]) : List Raw), rowE 4 v12 (apRow a i a.Next.length : List Bool), famE 4 us (apInit a i : List (List Bool)), blkE g1 (.cells #[I (a.Signs), vn, vt] 36), rdE vn a.Next, rdE vt a.Takes] H) ?_ ?_
      · refine wpF_region ?_
        refine wpL_q (U := NoB) rfl (q_move (v := vT) rfl a18_3) ?_
        refine wpL_q (U := NoB) rfl (q_move (v := v12) rfl a18_5) ?_
        refine wpL_o rfl ?_
        refine e_buildSlice (vs := [v12]) (xs := ([Raw.mk v12] : List Raw)) rfl Try.underlying91 Try.zeroValue32 rfl Try.sizeOf32 (par1 (v0 := v12) rfl) rfl hS17 (RdVs.cons (Rd.raw.2 ⟨rfl, hS17.rowSlice 0 rfl⟩) (RdVs.nil)) (by decide) (by decide) (fun v23 H24 hS25 hxx hvv23 => ?_)
        replace hS25 : St H0 NoB (fun b => S b ∧ b < H0.size) [rowE 32 v23 ([Raw.mk v12] : List Raw), rowE 4 v12 (apRow a i a.Next.length : List Bool), rowE 32 vT (us : List Raw), famE 4 us (apInit a i : List (List Bool)), blkE g1 (.cells #[I (a.Signs), vn, vt] 36), rdE vn a.Next, rdE vt a.Takes] H24 := hS25
        have hS26 : St H0 NoB (fun b => S b ∧ b < H0.size) [rdE v23 ([Raw.mk v12] : List Raw), rowE 4 v12 (apRow a i a.Next.length : List Bool), rowE 32 vT (us : List Raw), famE 4 us (apInit a i : List (List Bool)), blkE g1 (.cells #[I (a.Signs), vn, vt] 36), rdE vn a.Next, rdE vt a.Takes] H24 := St.fin hS25
        have hS27 : St H0 NoB (fun b => S b ∧ b < H0.size) [rowE 32 vT (us : List Raw), rdE v23 ([Raw.mk v12] : List Raw), rowE 4 v12 (apRow a i a.Next.length : List Bool), famE 4 us (apInit a i : List (List Bool)), blkE g1 (.cells #[I (a.Signs), vn, vt] 36), rdE vn a.Next, rdE vt a.Takes] H24 := (hS26.front 2 rfl)
        refine wpL_o rfl ?_
        refine e_append rfl Try.underlying91 em_Raw_32_AutoQ1 rfl rfl hS27 (hS27.rdS 1 rfl) (fun _ h => h) (by have hb : GoT.bytes Raw = 24 := rfl; simp [hb]; omega) (by decide) (fun v28 H29 hS30 hxx => ?_)
        replace hS30 : St H0 NoB (fun b => S b ∧ b < H0.size) [rowE 32 v28 (us ++ ([Raw.mk v12]) : List Raw), rdE v23 ([Raw.mk v12] : List Raw), rowE 4 v12 (apRow a i a.Next.length : List Bool), famE 4 us (apInit a i : List (List Bool)), blkE g1 (.cells #[I (a.Signs), vn, vt] 36), rdE vn a.Next, rdE vt a.Takes] H29 := hS30
        refine wpL_q (U := NoB) rfl (q_assign (v := v28) rfl rfl) ?_
        exact ⟨v28, a18_1, rfl, a18_4, (hS30.drop (sk (sn (sk (sk (sk (sk (sk (List.Sublist.slnil)))))))))⟩
      rintro f31 H31 ⟨v28, a31_1, a31_3, a31_4, hS31⟩
      clear a18_1 a18_26 a18_3 a18_4 a18_5 a18_6
      have hS32 : St H0 NoB (fun b => S b ∧ b < H0.size) [famE 4 (us ++ [Raw.mk v12]) (apInit a (i + 1) : List (List Bool)), rowE 32 v28 (us ++ ([Raw.mk v12]) : List Raw), blkE g1 (.cells #[I (a.Signs), vn, vt] 36), rdE vn a.Next, rdE vt a.Takes] H31 := by have h__ := St.famPush (St.drop (show St H0 NoB (fun b => S b ∧ b < H0.size) [rowE 4 v12 (apRow a i a.Next.length : List Bool), famE 4 us (apInit a i : List (List Bool)), rowE 32 v28 (us ++ ([Raw.mk v12]) : List Raw), blkE g1 (.cells #[I (a.Signs), vn, vt] 36), rdE vn a.Next, rdE vt a.Takes] H31 from ((hS31.front 2 rfl).front 2 rfl)) (sk (sk (sk (sk (sk (sk (List.Sublist.slnil)))))))); rw [← apInit_next] at h__; exact h__
      refine wpF_cut (fun f H => f 1 = PT g1 0 ∧ f 3 = v28 ∧ f 4 = I ((i : Int) + 1) ∧ H31 = H) ?_ ?_
      · refine wpF_region ?_
        refine wpL_q (U := NoB) rfl (q_move (v := I ((i : Int))) rfl a31_4) ?_
        refine wpL_q (U := NoB) rfl (q_add rfl rfl rfl (by constructor <;> omega)) ?_
        refine wpL_q (U := NoB) rfl (q_assign (v := I ((i : Int) + 1)) rfl rfl) ?_
        exact ⟨a31_1, a31_3, rfl, rfl⟩
      rintro f33 _ ⟨a33_1, a33_3, a33_4, rfl⟩
      clear a31_1 a31_3 a31_4
      refine ⟨_, ?_, i + 1, v28, us ++ [Raw.mk v12], rfl, (by omega), (by rw [List.length_append]; simp; omega), a33_1, a33_3, (Eq.trans a33_4 (congrArg I (by omega))), (show St H0 NoB (fun b => S b ∧ b < H0.size) [rowE 32 v28 ((us ++ [Raw.mk v12]) : List Raw), famE 4 (us ++ [Raw.mk v12]) (apInit a (i + 1) : List (List Bool)), blkE g1 (.cells #[I (a.Signs), vn, vt] 36), rdE vn a.Next, rdE vt a.Takes] H31 from (St.drop (show St H0 NoB (fun b => S b ∧ b < H0.size) [rowE 32 v28 (us ++ ([Raw.mk v12]) : List Raw), famE 4 (us ++ [Raw.mk v12]) (apInit a (i + 1) : List (List Bool)), blkE g1 (.cells #[I (a.Signs), vn, vt] 36), rdE vn a.Next, rdE vt a.Takes] H31 from (hS32.front 1 rfl)) (sk (sk (sk (sk (sk (List.Sublist.slnil))))))))⟩
      omega
    have hrl2 := apRow_len (a := a) (i := i) (k := k)
    refine wpF_skip ?_
    refine wpF_seq ?_
    refine wpF_block ?_
    refine wpF_cut (fun f H => f 1 = PT g1 0 ∧ f 3 = vT ∧ f 4 = I ((i : Int)) ∧ f 5 = v12 ∧ f 6 = I ((k : Int)) ∧ St H0 NoB (fun b => S b ∧ b < H0.size) [rowE 4 v12 ((apRow a i k).set k (decide ((nth a.Takes i) ≠ (nth a.Takes k))) : List Bool), rowE 32 vT (us : List Raw), famE 4 us (apInit a i : List (List Bool)), blkE g1 (.cells #[I (a.Signs), vn, vt] 36), rdE vn a.Next, rdE vt a.Takes] H) ?_ ?_
    · refine wpF_drawn [none, none, none, none, none, none, none, none, none, none, none, none, none, none, some 0] [[], [], [], [], [], [], [], [], [], [], [], [], [], [], []] (fun l b => match l with | 0 => True | _ => False) (by kernel_rfl) (by kernel_rfl) ?_
      refine wpR_q 0 (by kernel_rfl) rfl (quietAt rfl rfl (q_move (v := v12) rfl a18_5)) ?_
      refine wpR_q 1 (by kernel_rfl) rfl (quietAt rfl rfl (q_move (v := I ((k : Int))) rfl a18_6)) ?_
      refine wpR_q 2 (by kernel_rfl) rfl (quietAt rfl rfl (q_fieldAddr rfl Try.underlying36 rfl Try.sizeOf32 a18_1)) ?_
      refine wpR_q 3 (by kernel_rfl) rfl (quietAt rfl rfl (q_loadBlk rfl rfl Try.isAgg32 (hS17.blk 3 rfl) rfl (labU_not [] rfl (List.forall_mem_nil _)))) ?_
      refine wpR_q 4 (by kernel_rfl) rfl (quietAt rfl rfl (q_move (v := I ((i : Int))) rfl a18_4)) ?_
      refine wpR_q 5 (by kernel_rfl) rfl (quietAt rfl rfl (q_indexRd (k := i) rfl Try.underlying32 el_Bool_4_AutoQ1 rfl rfl (hS17.rdl 5 rfl) (by omega) (by omega))) ?_
      refine wpR_q 6 (by kernel_rfl) rfl (quietAt rfl rfl (q_loadBool (k := i) rfl rfl el_Bool_4_AutoQ1 (hS17.rdl 5 rfl) (by omega) (labU_sub [] rfl (List.forall_mem_nil _)))) ?_
      refine wpR_q 7 (by kernel_rfl) rfl (quietAt rfl rfl (q_fieldAddr rfl Try.underlying36 rfl Try.sizeOf32 a18_1)) ?_
      refine wpR_q 8 (by kernel_rfl) rfl (quietAt rfl rfl (q_loadBlk rfl rfl Try.isAgg32 (hS17.blk 3 rfl) rfl (labU_not [] rfl (List.forall_mem_nil _)))) ?_
      refine wpR_q 9 (by kernel_rfl) rfl (quietAt rfl rfl (q_move (v := I ((k : Int))) rfl a18_6)) ?_
      refine wpR_q 10 (by kernel_rfl) rfl (quietAt rfl rfl (q_indexRd (k := k) rfl Try.underlying32 el_Bool_4_AutoQ1 rfl rfl (hS17.rdl 5 rfl) (by omega) (by omega))) ?_
      refine wpR_q 11 (by kernel_rfl) rfl (quietAt rfl rfl (q_loadBool (k := k) rfl rfl el_Bool_4_AutoQ1 (hS17.rdl 5 rfl) (by omega) (labU_sub [] rfl (List.forall_mem_nil _)))) ?_
      refine wpR_q 12 (by kernel_rfl) rfl (quietAt rfl rfl (q_neqB rfl Try.underlying4 rfl rfl)) ?_
      refine wpR_q 13 (by kernel_rfl) rfl (quietAt rfl rfl (q_indexRd (k := k) rfl Try.underlying32 el_Bool_4_AutoQ1 rfl rfl (hS17.rowl 0 rfl) (by omega) (by omega))) ?_
      refine wpR_n [14] (by kernel_rfl) ?_
      refine List.forall_mem_cons.2 ⟨?_, List.forall_mem_nil _⟩
      have hS20o14 : St H0 NoB (fun b => S b ∧ b < H0.size) [rowE 4 v12 (apRow a i k : List Bool), rowE 32 vT (us : List Raw), famE 4 us (apInit a i : List (List Bool)), blkE g1 (.cells #[I (a.Signs), vn, vt] 36), rdE vn a.Next, rdE vt a.Takes] H17 := hS17
      refine exE rfl rfl ?_
      refine e_rowSet (k := k) (u := B (decide ((nth a.Takes i) ≠ (nth a.Takes k)))) rfl rfl rfl rfl Try.sizeOf4 (by first | (simp; omega) | omega) hS20o14 (Rd.bool.2 rfl) (fun H20o14 hS20o14x2 hxx => ?_)
      replace hS20o14x2 : St H0 NoB (fun b => S b ∧ b < H0.size) [rowE 4 v12 ((apRow a i k).set k (decide ((nth a.Takes i) ≠ (nth a.Takes k))) : List Bool), rowE 32 vT (us : List Raw), famE 4 us (apInit a i : List (List Bool)), blkE g1 (.cells #[I (a.Signs), vn, vt] 36), rdE vn a.Next, rdE vt a.Takes] H20o14 := hS20o14x2
      refine ⟨Ext.mono hxx (labS_of 0 rfl (fun _ _ => trivial)), ?_⟩
      refine wpR_end (by kernel_rfl) ?_
      exact ⟨a18_1, a18_3, a18_4, a18_5, a18_6, hS20o14x2⟩
    rintro f21 H21 ⟨a21_1, a21_3, a21_4, a21_5, a21_6, hS21⟩
    clear a18_1 a18_26 a18_3 a18_4 a18_5 a18_6
    refine wpF_cut (fun f H => f 1 = PT g1 0 ∧ f 3 = vT ∧ f 4 = I ((i : Int)) ∧ f 5 = v12 ∧ f 6 = I ((k : Int) + 1) ∧ H21 = H) ?_ ?_
    · refine wpF_region ?_
      refine wpL_q (U := NoB) rfl (q_move (v := I ((k : Int))) rfl a21_6) ?_
      refine wpL_q (U := NoB) rfl (q_add rfl rfl rfl (by constructor <;> omega)) ?_
      refine wpL_q (U := NoB) rfl (q_assign (v := I ((k : Int) + 1)) rfl rfl) ?_
      exact ⟨a21_1, a21_3, a21_4, a21_5, rfl, rfl⟩
    rintro f22 _ ⟨a22_1, a22_3, a22_4, a22_5, a22_6, rfl⟩
    clear a21_1 a21_3 a21_4 a21_5 a21_6
    refine ⟨_, ?_, k + 1, rfl, (by omega), a22_1, a22_3, a22_4, a22_5, (Eq.trans a22_6 (congrArg I (by omega))), (show St H0 NoB (fun b => S b ∧ b < H0.size) [rowE 4 v12 (apRow a i (k + 1) : List Bool), rowE 32 vT (us : List Raw), famE 4 us (apInit a i : List (List Bool)), blkE g1 (.cells #[I (a.Signs), vn, vt] 36), rdE vn a.Next, rdE vt a.Takes] H21 from (by have h__ := hS21; rw [apRow_set] at h__; exact h__))⟩
    omega
  obtain rfl : i = a.Next.length := by omega
  refine wpF_exit ?_
  refine atX_here ?_
  refine wpF_seq ?_
  refine wpF_cut (fun f H => f 1 = PT g1 0 ∧ f 3 = vT ∧ f 7 = B (true) ∧ H9 = H) ?_ ?_
  · refine wpF_region ?_
    refine wpL_q (U := NoB) rfl (q_assign (v := B (true)) rfl rfl) ?_
    exact ⟨a10_1, a10_3, rfl, rfl⟩
  rintro f35 _ ⟨a35_1, a35_3, a35_7, rfl⟩
  clear a10_1 a10_15 a10_3 a10_4
  refine wpF_seq ?_
  refine wpF_block ?_
  refine wpF_loop (fun mz f H => ∃ (b : Bool), ∃ (M : List (List Bool)), mz = falses M + b.toNat ∧ (ApOk a M) ∧ (b = false → Done a M) ∧ f 1 = PT g1 0 ∧ f 3 = vT ∧ f 7 = B (b) ∧ St H0 NoB (fun b => S b ∧ b < H0.size) [rowE 32 vT (us : List Raw), famE 4 us (M : List (List Bool)), blkE g1 (.cells #[I (a.Signs), vn, vt] 36), rdE vn a.Next, rdE vt a.Takes] H) (falses (apInit a a.Next.length) + true.toNat) ?_ ?_
  · exact ⟨true, apInit a a.Next.length, rfl, (ApOk.start hW), (fun h => by cases h), a35_1, a35_3, a35_7, (show St H0 NoB (fun b => S b ∧ b < H0.size) [rowE 32 vT (us : List Raw), famE 4 us ((apInit a a.Next.length) : List (List Bool)), blkE g1 (.cells #[I (a.Signs), vn, vt] 36), rdE vn a.Next, rdE vt a.Takes] H9 from hS9)⟩
  intro m36 f36 H36 hI36
  obtain ⟨b, M, hm36, hM, hcl, a36_1, a36_3, a36_7, hS36⟩ := hI36
  clear a35_1 a35_3 a35_7
  refine wpF_seq ?_
  refine wpF_seq ?_
  refine wpF_cut (fun f H => f 1 = PT g1 0 ∧ f 3 = vT ∧ f 47 = B (b) ∧ H36 = H) ?_ ?_
  · refine wpF_region ?_
    refine wpL_q (U := NoB) rfl (q_move (v := B (b)) rfl a36_7) ?_
    exact ⟨a36_1, a36_3, rfl, rfl⟩
  rintro f37 _ ⟨a37_1, a37_3, a37_47, rfl⟩
  clear a36_1 a36_3 a36_7
  refine wpF_cond a37_47 (fun hb => ?t76) (fun hb => ?e76)
  case e76 =>
    refine wpF_exit ?_
    refine atX_here ?_
    refine wpF_seq ?_
    refine wpF_cut (fun f H => f 2 = vT ∧ H36 = H) ?_ ?_
    · refine wpF_region ?_
      refine wpL_q (U := NoB) rfl (q_move (v := vT) rfl a37_3) ?_
      refine wpL_q (U := NoB) rfl (q_assign (v := vT) rfl rfl) ?_
      exact ⟨rfl, rfl⟩
    rintro f74 _ ⟨a74_2, rfl⟩
    clear a37_1 a37_3 a37_47
    refine wpF_ret ?_
    refine ⟨_, resT a74_2 resN, hS36.frame, ?_⟩
    show ∃ M_, Rd (fun b => S b ∧ b < H0.size) H36 vT (M_ : List (List Bool)) ∧ ApM a M_
    have hS75 : St H0 NoB (fun b => S b ∧ b < H0.size) [rdE vT M, blkE g1 (.cells #[I (a.Signs), vn, vt] 36), rdE vn a.Next, rdE vt a.Takes] H36 := St.famFin hS36
    exact ⟨_, (hS75.result (hS75.rdS 0 rfl)), hM.done hW (hcl hb)⟩
  refine wpF_skip ?_
  refine wpF_block ?_
  refine wpF_seq ?_
  refine wpF_cut (fun f H => f 1 = PT g1 0 ∧ f 3 = vT ∧ f 7 = B (false) ∧ H36 = H) ?_ ?_
  · refine wpF_region ?_
    refine wpL_q (U := NoB) rfl (q_assign (v := B (false)) rfl rfl) ?_
    exact ⟨a37_1, a37_3, rfl, rfl⟩
  rintro f39 _ ⟨a39_1, a39_3, a39_7, rfl⟩
  clear a37_1 a37_3 a37_47
  refine wpF_seq ?_
  refine wpF_cut (fun f H => f 1 = PT g1 0 ∧ f 3 = vT ∧ f 7 = B (false) ∧ f 8 = I (0) ∧ H36 = H) ?_ ?_
  · refine wpF_region ?_
    refine wpL_q (U := NoB) rfl (q_assign (v := I (0)) rfl rfl) ?_
    exact ⟨a39_1, a39_3, a39_7, rfl, rfl⟩
  rintro f40 _ ⟨a40_1, a40_3, a40_7, a40_8, rfl⟩
  clear a39_1 a39_3 a39_7
  refine wpF_block ?_
  refine wpF_loop (fun mz f H => ∃ (p : Nat), ∃ (b6 : Bool), ∃ (M6 : List (List Bool)), mz = a.Next.length - p ∧ (p ≤ a.Next.length) ∧ (Pass a M6 b6 (falses M) p 0 0) ∧ f 1 = PT g1 0 ∧ f 3 = vT ∧ f 7 = B (b6) ∧ f 8 = I ((p : Int)) ∧ St H0 NoB (fun b => S b ∧ b < H0.size) [rowE 32 vT (us : List Raw), famE 4 us (M6 : List (List Bool)), blkE g1 (.cells #[I (a.Signs), vn, vt] 36), rdE vn a.Next, rdE vt a.Takes] H) (a.Next.length - 0) ?_ ?_
  · exact ⟨0, false, M, rfl, Nat.zero_le _, (Pass.start hM), a40_1, a40_3, a40_7, (Eq.trans a40_8 (congrArg I (by omega))), hS36⟩
  intro m41 f41 H41 hI41
  obtain ⟨p, b6, M6, hm41, hp, hP, a41_1, a41_3, a41_7, a41_8, hS41⟩ := hI41
  clear a40_1 a40_3 a40_7 a40_8
  refine wpF_seq ?_
  refine wpF_seq ?_
  refine wpF_cut (fun f H => f 1 = PT g1 0 ∧ f 3 = vT ∧ f 7 = B (b6) ∧ f 8 = I ((p : Int)) ∧ f 51 = B (decide ((p : Int) < (us.length : Int))) ∧ H41 = H) ?_ ?_
  · refine wpF_region ?_
    refine wpL_q (U := NoB) rfl (q_move (v := I ((p : Int))) rfl a41_8) ?_
    refine wpL_q (U := NoB) rfl (q_move (v := vT) rfl a41_3) ?_
    refine wpL_q (U := NoB) rfl (q_lenRd rfl Try.underlying91 rfl (hS41.rowl 0 rfl)) ?_
    refine wpL_q (U := NoB) rfl (q_lss rfl rfl rfl) ?_
    exact ⟨a41_1, a41_3, a41_7, a41_8, rfl, rfl⟩
  rintro f42 _ ⟨a42_1, a42_3, a42_7, a42_8, a42_51, rfl⟩
  clear a41_1 a41_3 a41_7 a41_8
  refine wpF_condP a42_51 (fun h51 => ?t73) (fun h51 => ?e73)
  case e73 =>
    refine wpF_exit ?_
    refine atX_here ?_
    refine ⟨_, ?_, b6, M6, rfl, hP.ok, (hP.all (by omega)), a42_1, a42_3, a42_7, hS41⟩
    have h1 := hP.le; have h2 := hP.lt; have h3 : b.toNat = 1 := (by rw [hb]; rfl); have h4 : b6.toNat = 0 ∨ (b6.toNat = 1 ∧ falses M6 < falses M) := (by cases hq6 : b6; exact .inl rfl; exact .inr ⟨rfl, h2 hq6⟩); omega
  refine wpF_skip ?_
  refine wpF_seq ?_
  refine wpF_block ?_
  refine wpF_seq ?_
  refine wpF_cut (fun f H => f 1 = PT g1 0 ∧ f 3 = vT ∧ f 7 = B (b6) ∧ f 8 = I ((p : Int)) ∧ f 9 = I (0) ∧ H41 = H) ?_ ?_
  · refine wpF_region ?_
    refine wpL_q (U := NoB) rfl (q_assign (v := I (0)) rfl rfl) ?_
    exact ⟨a42_1, a42_3, a42_7, a42_8, rfl, rfl⟩
  rintro f44 _ ⟨a44_1, a44_3, a44_7, a44_8, a44_9, rfl⟩
  clear a42_1 a42_3 a42_51 a42_7 a42_8
  refine wpF_block ?_
  refine wpF_loop (fun mz f H => ∃ (q : Nat), ∃ (b8 : Bool), ∃ (M8 : List (List Bool)), mz = a.Next.length - q ∧ (q ≤ a.Next.length) ∧ (Pass a M8 b8 (falses M) p q 0) ∧ f 1 = PT g1 0 ∧ f 3 = vT ∧ f 7 = B (b8) ∧ f 8 = I ((p : Int)) ∧ f 9 = I ((q : Int)) ∧ St H0 NoB (fun b => S b ∧ b < H0.size) [rowE 32 vT (us : List Raw), famE 4 us (M8 : List (List Bool)), blkE g1 (.cells #[I (a.Signs), vn, vt] 36), rdE vn a.Next, rdE vt a.Takes] H) (a.Next.length - 0) ?_ ?_
  · exact ⟨0, b6, M6, rfl, Nat.zero_le _, hP, a44_1, a44_3, a44_7, a44_8, (Eq.trans a44_9 (congrArg I (by omega))), hS41⟩
  intro m45 f45 H45 hI45
  obtain ⟨q, b8, M8, hm45, hq, hP8, a45_1, a45_3, a45_7, a45_8, a45_9, hS45⟩ := hI45
  clear a44_1 a44_3 a44_7 a44_8 a44_9
  refine wpF_seq ?_
  refine wpF_seq ?_
  refine wpF_cut (fun f H => f 1 = PT g1 0 ∧ f 3 = vT ∧ f 7 = B (b8) ∧ f 8 = I ((p : Int)) ∧ f 9 = I ((q : Int)) ∧ f 57 = B (decide ((q : Int) < (us.length : Int))) ∧ H45 = H) ?_ ?_
  · refine wpF_region ?_
    refine wpL_q (U := NoB) rfl (q_move (v := I ((q : Int))) rfl a45_9) ?_
    refine wpL_q (U := NoB) rfl (q_move (v := vT) rfl a45_3) ?_
    refine wpL_q (U := NoB) rfl (q_lenRd rfl Try.underlying91 rfl (hS45.rowl 0 rfl)) ?_
    refine wpL_q (U := NoB) rfl (q_lss rfl rfl rfl) ?_
    exact ⟨a45_1, a45_3, a45_7, a45_8, a45_9, rfl, rfl⟩
  rintro f46 _ ⟨a46_1, a46_3, a46_7, a46_8, a46_9, a46_57, rfl⟩
  clear a45_1 a45_3 a45_7 a45_8 a45_9
  refine wpF_condP a46_57 (fun h57 => ?t72) (fun h57 => ?e72)
  case e72 =>
    refine wpF_exit ?_
    refine atX_here ?_
    refine wpF_cut (fun f H => f 1 = PT g1 0 ∧ f 3 = vT ∧ f 7 = B (b8) ∧ f 8 = I ((p : Int) + 1) ∧ H45 = H) ?_ ?_
    · refine wpF_region ?_
      refine wpL_q (U := NoB) rfl (q_move (v := I ((p : Int))) rfl a46_8) ?_
      refine wpL_q (U := NoB) rfl (q_add rfl rfl rfl (by constructor <;> omega)) ?_
      refine wpL_q (U := NoB) rfl (q_assign (v := I ((p : Int) + 1)) rfl rfl) ?_
      exact ⟨a46_1, a46_3, a46_7, rfl, rfl⟩
    rintro f71 _ ⟨a71_1, a71_3, a71_7, a71_8, rfl⟩
    clear a46_1 a46_3 a46_57 a46_7 a46_8 a46_9
    refine ⟨_, ?_, p + 1, b8, M8, rfl, (by omega), (hP8.place (by omega)), a71_1, a71_3, a71_7, (Eq.trans a71_8 (congrArg I (by omega))), hS45⟩
    omega
  refine wpF_skip ?_
  refine wpF_seq ?_
  refine wpF_block ?_
  refine wpF_seq ?_
  refine wpF_cut (fun f H => f 1 = PT g1 0 ∧ f 3 = vT ∧ f 7 = B (b8) ∧ f 8 = I ((p : Int)) ∧ f 9 = I ((q : Int)) ∧ f 10 = I (0) ∧ H45 = H) ?_ ?_
  · refine wpF_region ?_
    refine wpL_q (U := NoB) rfl (q_assign (v := I (0)) rfl rfl) ?_
    exact ⟨a46_1, a46_3, a46_7, a46_8, a46_9, rfl, rfl⟩
  rintro f48 _ ⟨a48_1, a48_3, a48_7, a48_8, a48_9, a48_10, rfl⟩
  clear a46_1 a46_3 a46_57 a46_7 a46_8 a46_9
  refine wpF_block ?_
  refine wpF_loop (fun mz f H => ∃ (s : Nat), ∃ (b10 : Bool), ∃ (M10 : List (List Bool)), mz = a.Signs.toNat - s ∧ (s ≤ a.Signs.toNat) ∧ (Pass a M10 b10 (falses M) p q s) ∧ f 1 = PT g1 0 ∧ f 3 = vT ∧ f 7 = B (b10) ∧ f 8 = I ((p : Int)) ∧ f 9 = I ((q : Int)) ∧ f 10 = I ((s : Int)) ∧ St H0 NoB (fun b => S b ∧ b < H0.size) [rowE 32 vT (us : List Raw), famE 4 us (M10 : List (List Bool)), blkE g1 (.cells #[I (a.Signs), vn, vt] 36), rdE vn a.Next, rdE vt a.Takes] H) (a.Signs.toNat - 0) ?_ ?_
  · exact ⟨0, b8, M8, rfl, Nat.zero_le _, hP8, a48_1, a48_3, a48_7, a48_8, a48_9, (Eq.trans a48_10 (congrArg I (by omega))), hS45⟩
  intro m49 f49 H49 hI49
  obtain ⟨s, b10, M10, hm49, hs, hP10, a49_1, a49_3, a49_7, a49_8, a49_9, a49_10, hS49⟩ := hI49
  clear a48_1 a48_10 a48_3 a48_7 a48_8 a48_9
  refine wpF_seq ?_
  refine wpF_seq ?_
  refine wpF_cut (fun f H => f 1 = PT g1 0 ∧ f 3 = vT ∧ f 7 = B (b10) ∧ f 8 = I ((p : Int)) ∧ f 9 = I ((q : Int)) ∧ f 10 = I ((s : Int)) ∧ f 63 = B (decide ((s : Int) < a.Signs)) ∧ H49 = H) ?_ ?_
  · refine wpF_region ?_
    refine wpL_q (U := NoB) rfl (q_move (v := I ((s : Int))) rfl a49_10) ?_
    refine wpL_q (U := NoB) rfl (q_fieldAddr rfl Try.underlying36 rfl Try.sizeOf3 a49_1) ?_
    refine wpL_q (U := NoB) rfl (q_loadBlk rfl rfl Try.isAgg3 (hS49.blk 2 rfl) rfl (fun h => h)) ?_
    refine wpL_q (U := NoB) rfl (q_lss rfl rfl rfl) ?_
    exact ⟨a49_1, a49_3, a49_7, a49_8, a49_9, a49_10, rfl, rfl⟩
  rintro f50 _ ⟨a50_1, a50_3, a50_7, a50_8, a50_9, a50_10, a50_63, rfl⟩
  clear a49_1 a49_10 a49_3 a49_7 a49_8 a49_9
  refine wpF_condP a50_63 (fun h63 => ?t70) (fun h63 => ?e70)
  case e70 =>
    refine wpF_exit ?_
    refine atX_here ?_
    refine wpF_cut (fun f H => f 1 = PT g1 0 ∧ f 3 = vT ∧ f 7 = B (b10) ∧ f 8 = I ((p : Int)) ∧ f 9 = I ((q : Int) + 1) ∧ H49 = H) ?_ ?_
    · refine wpF_region ?_
      refine wpL_q (U := NoB) rfl (q_move (v := I ((q : Int))) rfl a50_9) ?_
      refine wpL_q (U := NoB) rfl (q_add rfl rfl rfl (by constructor <;> omega)) ?_
      refine wpL_q (U := NoB) rfl (q_assign (v := I ((q : Int) + 1)) rfl rfl) ?_
      exact ⟨a50_1, a50_3, a50_7, a50_8, rfl, rfl⟩
    rintro f69 _ ⟨a69_1, a69_3, a69_7, a69_8, a69_9, rfl⟩
    clear a50_1 a50_10 a50_3 a50_63 a50_7 a50_8 a50_9
    refine ⟨_, ?_, q + 1, b10, M10, rfl, (by omega), (hP10.letter (by omega)), a69_1, a69_3, a69_7, a69_8, (Eq.trans a69_9 (congrArg I (by omega))), hS49⟩
    omega
  have hs1 := InA.step (a := a) (s := (p : Int)) (c := (s : Int)) hW ⟨by omega, by omega⟩ ⟨by omega, by omega⟩
  have hs2 := InA.step (a := a) (s := (q : Int)) (c := (s : Int)) hW ⟨by omega, by omega⟩ ⟨by omega, by omega⟩
  have hs3 : 0 ≤ nth (nth a.Next p) s ∧ nth (nth a.Next p) s < (a.Next.length : Int) := ⟨hs1.1, hs1.2⟩
  have hs4 : 0 ≤ nth (nth a.Next q) s ∧ nth (nth a.Next q) s < (a.Next.length : Int) := ⟨hs2.1, hs2.2⟩
  have hw1 := hW.rows p (by omega)
  have hw2 := hW.rows q (by omega)
  have hr1 := hP10.ok.row p (by omega)
  have hr2 := hP10.ok.row (nth (nth a.Next p) s).toNat (by omega)
  have hMl := hP10.ok.len
  refine wpF_skip ?_
  refine wpF_seq ?_
  refine wpF_block ?_
  refine wpF_seq ?_
  refine wpF_cut (fun f H => f 1 = PT g1 0 ∧ f 3 = vT ∧ f 7 = B (b10) ∧ f 8 = I ((p : Int)) ∧ f 9 = I ((q : Int)) ∧ f 10 = I ((s : Int)) ∧ f 96 = B (decide (((!(nth (nth M10 p) q)) = true) ∧ ((nth (nth M10 ((nth (nth a.Next p) s).toNat)) ((nth (nth a.Next q) s).toNat)) = true))) ∧ H49 = H) ?_ ?_
  · refine wpF_drawn [] [] (fun _ _ => False) (by kernel_rfl) (by kernel_rfl) ?_
    refine wpR_q 0 (by kernel_rfl) rfl (quietAt rfl rfl (q_move (v := vT) rfl a50_3)) ?_
    refine wpR_q 1 (by kernel_rfl) rfl (quietAt rfl rfl (q_move (v := I ((p : Int))) rfl a50_8)) ?_
    refine wpR_q 2 (by kernel_rfl) rfl (quietAt rfl rfl (q_indexRd (k := p) rfl Try.underlying91 el_Raw_32_AutoQ1 rfl rfl (hS49.rowl 0 rfl) (by omega) (by omega))) ?_
    obtain ⟨u52o3, huu52o3, hlu52o3⟩ := hS49.rowElem 0 rfl p (by omega)
    obtain ⟨rfl, _⟩ := Rd.raw.1 huu52o3
    refine wpR_q 3 (by kernel_rfl) rfl (quietAt rfl rfl (q_loadE rfl rfl (hlu52o3 Try.prog 32 _ el_Raw_32_AutoQ1 (labU_sub [] rfl (List.forall_mem_nil _))))) ?_
    refine wpR_q 4 (by kernel_rfl) rfl (quietAt rfl rfl (q_move (v := I ((q : Int))) rfl a50_9)) ?_
    refine wpR_q 5 (by kernel_rfl) rfl (quietAt rfl rfl (q_indexRd (k := q) rfl Try.underlying32 el_Bool_4_AutoQ1 rfl rfl (hS49.fam 1 rfl p (by omega)) (by omega) (by omega))) ?_
    refine wpR_q 6 (by kernel_rfl) rfl (quietAt rfl rfl (q_loadBool (k := q) rfl rfl el_Bool_4_AutoQ1 (hS49.fam 1 rfl p (by omega)) (by omega) (labU_sub [] rfl (List.forall_mem_nil _)))) ?_
    refine wpR_q 7 (by kernel_rfl) rfl (quietAt rfl rfl (q_not rfl rfl)) ?_
    refine wpR_q 8 (by kernel_rfl) rfl (quietAt rfl rfl (q_move (v := B (!(nth (nth M10 p) q))) rfl rfl)) ?_
    by_cases hg53 : (!(nth (nth M10 p) q)) = true
    · have hb54 := Eq.trans rfl (congrArg B hg53)
      refine wpR_q 9 (by kernel_rfl) rfl (quietAt_g rfl rfl rfl rfl hb54 (q_move (v := vT) rfl a50_3)) ?_
      refine wpR_q 10 (by kernel_rfl) rfl (quietAt_g rfl rfl rfl rfl hb54 (q_fieldAddr rfl Try.underlying36 rfl Try.sizeOf27 a50_1)) ?_
      refine wpR_q 11 (by kernel_rfl) rfl (quietAt_g rfl rfl rfl rfl hb54 (q_loadBlk rfl rfl Try.isAgg27 (hS49.blk 2 rfl) rfl (labU_not [] rfl (List.forall_mem_nil _)))) ?_
      refine wpR_q 12 (by kernel_rfl) rfl (quietAt_g rfl rfl rfl rfl hb54 (q_move (v := I ((p : Int))) rfl a50_8)) ?_
      refine wpR_q 13 (by kernel_rfl) rfl (quietAt_g rfl rfl rfl rfl hb54 (q_indexRd (k := p) rfl Try.underlying27 el_LInt_22_AutoQ1 rfl rfl (hS49.rdl 3 rfl) (by omega) (by omega))) ?_
      obtain ⟨u52o14, huu52o14, hlu52o14⟩ := (Rd.list.1 (hS49.rdS 3 rfl)).elem p (by omega)
      have hS52o14 : St H0 NoB (fun b => S b ∧ b < H0.size) [rdE u52o14 (nth a.Next p), rowE 32 vT (us : List Raw), famE 4 us (M10 : List (List Bool)), blkE g1 (.cells #[I (a.Signs), vn, vt] 36), rdE vn a.Next, rdE vt a.Takes] H49 := hS49.rd huu52o14
      refine wpR_q 14 (by kernel_rfl) rfl (quietAt_g rfl rfl rfl rfl hb54 (q_loadE rfl rfl (hlu52o14 Try.prog 22 _ el_LInt_22_AutoQ1 (labU_sub [] rfl (List.forall_mem_nil _))))) ?_
      refine wpR_q 15 (by kernel_rfl) rfl (quietAt_g rfl rfl rfl rfl hb54 (q_move (v := I ((s : Int))) rfl a50_10)) ?_
      refine wpR_q 16 (by kernel_rfl) rfl (quietAt_g rfl rfl rfl rfl hb54 (q_indexRd (k := s) rfl Try.underlying22 el_Int_3_AutoQ1 rfl rfl (hS52o14.rdl 0 rfl) (by omega) (by omega))) ?_
      refine wpR_q 17 (by kernel_rfl) rfl (quietAt_g rfl rfl rfl rfl hb54 (q_loadInt (k := s) rfl rfl el_Int_3_AutoQ1 (hS52o14.rdl 0 rfl) (by omega) (labU_sub [] rfl (List.forall_mem_nil _)))) ?_
      refine wpR_q 18 (by kernel_rfl) rfl (quietAt_g rfl rfl rfl rfl hb54 (q_indexRd (k := (nth (nth a.Next p) s).toNat) rfl Try.underlying91 el_Raw_32_AutoQ1 rfl rfl (hS52o14.rowl 1 rfl) (by omega) (by omega))) ?_
      obtain ⟨u52o19, huu52o19, hlu52o19⟩ := hS52o14.rowElem 1 rfl ((nth (nth a.Next p) s).toNat) (by omega)
      obtain ⟨rfl, _⟩ := Rd.raw.1 huu52o19
      refine wpR_q 19 (by kernel_rfl) rfl (quietAt_g rfl rfl rfl rfl hb54 (q_loadE rfl rfl (hlu52o19 Try.prog 32 _ el_Raw_32_AutoQ1 (labU_sub [] rfl (List.forall_mem_nil _))))) ?_
      refine wpR_q 20 (by kernel_rfl) rfl (quietAt_g rfl rfl rfl rfl hb54 (q_fieldAddr rfl Try.underlying36 rfl Try.sizeOf27 a50_1)) ?_
      refine wpR_q 21 (by kernel_rfl) rfl (quietAt_g rfl rfl rfl rfl hb54 (q_loadBlk rfl rfl Try.isAgg27 (hS52o14.blk 3 rfl) rfl (labU_not [] rfl (List.forall_mem_nil _)))) ?_
      refine wpR_q 22 (by kernel_rfl) rfl (quietAt_g rfl rfl rfl rfl hb54 (q_move (v := I ((q : Int))) rfl a50_9)) ?_
      refine wpR_q 23 (by kernel_rfl) rfl (quietAt_g rfl rfl rfl rfl hb54 (q_indexRd (k := q) rfl Try.underlying27 el_LInt_22_AutoQ1 rfl rfl (hS52o14.rdl 4 rfl) (by omega) (by omega))) ?_
      obtain ⟨u52o24, huu52o24, hlu52o24⟩ := (Rd.list.1 (hS52o14.rdS 4 rfl)).elem q (by omega)
      have hS52o24 : St H0 NoB (fun b => S b ∧ b < H0.size) [rdE u52o24 (nth a.Next q), rdE u52o14 (nth a.Next p), rowE 32 vT (us : List Raw), famE 4 us (M10 : List (List Bool)), blkE g1 (.cells #[I (a.Signs), vn, vt] 36), rdE vn a.Next, rdE vt a.Takes] H49 := hS52o14.rd huu52o24
      refine wpR_q 24 (by kernel_rfl) rfl (quietAt_g rfl rfl rfl rfl hb54 (q_loadE rfl rfl (hlu52o24 Try.prog 22 _ el_LInt_22_AutoQ1 (labU_sub [] rfl (List.forall_mem_nil _))))) ?_
      refine wpR_q 25 (by kernel_rfl) rfl (quietAt_g rfl rfl rfl rfl hb54 (q_move (v := I ((s : Int))) rfl a50_10)) ?_
      refine wpR_q 26 (by kernel_rfl) rfl (quietAt_g rfl rfl rfl rfl hb54 (q_indexRd (k := s) rfl Try.underlying22 el_Int_3_AutoQ1 rfl rfl (hS52o24.rdl 0 rfl) (by omega) (by omega))) ?_
      refine wpR_q 27 (by kernel_rfl) rfl (quietAt_g rfl rfl rfl rfl hb54 (q_loadInt (k := s) rfl rfl el_Int_3_AutoQ1 (hS52o24.rdl 0 rfl) (by omega) (labU_sub [] rfl (List.forall_mem_nil _)))) ?_
      refine wpR_q 28 (by kernel_rfl) rfl (quietAt_g rfl rfl rfl rfl hb54 (q_indexRd (k := (nth (nth a.Next q) s).toNat) rfl Try.underlying32 el_Bool_4_AutoQ1 rfl rfl (hS52o24.fam 3 rfl ((nth (nth a.Next p) s).toNat) (by omega)) (by omega) (by omega))) ?_
      refine wpR_q 29 (by kernel_rfl) rfl (quietAt_g rfl rfl rfl rfl hb54 (q_loadBool (k := (nth (nth a.Next q) s).toNat) rfl rfl el_Bool_4_AutoQ1 (hS52o24.fam 3 rfl ((nth (nth a.Next p) s).toNat) (by omega)) (by omega) (labU_sub [] rfl (List.forall_mem_nil _)))) ?_
      refine wpR_q 30 (by kernel_rfl) rfl (quietAt rfl rfl (q_pickT (v := B (nth (nth M10 ((nth (nth a.Next p) s).toNat)) ((nth (nth a.Next q) s).toNat))) rfl hb54 rfl)) ?_
      refine wpR_end (by kernel_rfl) ?_
      exact ⟨a50_1, a50_3, a50_7, a50_8, a50_9, a50_10, (Eq.trans rfl (congrArg B (bool_congr_of ((Iff.rfl).trans (((and_iff_right hg53).trans Iff.rfl)).symm)))), rfl⟩
    · have hb55 := Eq.trans rfl (congrArg B (Bool.eq_false_iff.2 hg53))
      refine wpR_q 9 (by kernel_rfl) rfl (quietAt_s rfl rfl rfl rfl hb55 rfl) ?_
      refine wpR_q 10 (by kernel_rfl) rfl (quietAt_s rfl rfl rfl rfl hb55 rfl) ?_
      refine wpR_q 11 (by kernel_rfl) rfl (quietAt_s rfl rfl rfl rfl hb55 rfl) ?_
      refine wpR_q 12 (by kernel_rfl) rfl (quietAt_s rfl rfl rfl rfl hb55 rfl) ?_
      refine wpR_q 13 (by kernel_rfl) rfl (quietAt_s rfl rfl rfl rfl hb55 rfl) ?_
      refine wpR_q 14 (by kernel_rfl) rfl (quietAt_s rfl rfl rfl rfl hb55 rfl) ?_
      refine wpR_q 15 (by kernel_rfl) rfl (quietAt_s rfl rfl rfl rfl hb55 rfl) ?_
      refine wpR_q 16 (by kernel_rfl) rfl (quietAt_s rfl rfl rfl rfl hb55 rfl) ?_
      refine wpR_q 17 (by kernel_rfl) rfl (quietAt_s rfl rfl rfl rfl hb55 rfl) ?_
      refine wpR_q 18 (by kernel_rfl) rfl (quietAt_s rfl rfl rfl rfl hb55 rfl) ?_
      refine wpR_q 19 (by kernel_rfl) rfl (quietAt_s rfl rfl rfl rfl hb55 rfl) ?_
      refine wpR_q 20 (by kernel_rfl) rfl (quietAt_s rfl rfl rfl rfl hb55 rfl) ?_
      refine wpR_q 21 (by kernel_rfl) rfl (quietAt_s rfl rfl rfl rfl hb55 rfl) ?_
      refine wpR_q 22 (by kernel_rfl) rfl (quietAt_s rfl rfl rfl rfl hb55 rfl) ?_
      refine wpR_q 23 (by kernel_rfl) rfl (quietAt_s rfl rfl rfl rfl hb55 rfl) ?_
      refine wpR_q 24 (by kernel_rfl) rfl (quietAt_s rfl rfl rfl rfl hb55 rfl) ?_
      refine wpR_q 25 (by kernel_rfl) rfl (quietAt_s rfl rfl rfl rfl hb55 rfl) ?_
      refine wpR_q 26 (by kernel_rfl) rfl (quietAt_s rfl rfl rfl rfl hb55 rfl) ?_
      refine wpR_q 27 (by kernel_rfl) rfl (quietAt_s rfl rfl rfl rfl hb55 rfl) ?_
      refine wpR_q 28 (by kernel_rfl) rfl (quietAt_s rfl rfl rfl rfl hb55 rfl) ?_
      refine wpR_q 29 (by kernel_rfl) rfl (quietAt_s rfl rfl rfl rfl hb55 rfl) ?_
      refine wpR_q 30 (by kernel_rfl) rfl (quietAt rfl rfl (q_pickF (v := B (false)) rfl hb55 rfl)) ?_
      refine wpR_end (by kernel_rfl) ?_
      exact ⟨a50_1, a50_3, a50_7, a50_8, a50_9, a50_10, (Eq.trans rfl (congrArg B ((decide_eq_false (fun h => hg53 h.1)).symm))), rfl⟩
  rintro f56 _ ⟨a56_1, a56_3, a56_7, a56_8, a56_9, a56_10, a56_96, rfl⟩
  clear a50_1 a50_10 a50_3 a50_63 a50_7 a50_8 a50_9
  refine wpF_cut (fun f H => ∃ (MN : List (List Bool)), ∃ (bN : Bool), (Pass a MN bN (falses M) p q (s + 1)) ∧ f 1 = PT g1 0 ∧ f 3 = vT ∧ f 7 = B (bN) ∧ f 8 = I ((p : Int)) ∧ f 9 = I ((q : Int)) ∧ f 10 = I ((s : Int)) ∧ St H0 NoB (fun b => S b ∧ b < H0.size) [rowE 32 vT (us : List Raw), famE 4 us (MN : List (List Bool)), blkE g1 (.cells #[I (a.Signs), vn, vt] 36), rdE vn a.Next, rdE vt a.Takes] H) ?_ ?_
  · refine wpF_condP a56_96 (fun h96 => ?t67) (fun h96 => ?e67)
    case e67 =>
      refine wpF_skip ?_
      exact ⟨M10, b10, (hP10.no (fun h => h96 ⟨by simpa [at2] using h.1, h.2⟩)), a56_1, a56_3, a56_7, a56_8, a56_9, a56_10, hS49⟩
    refine wpF_seq ?_
    refine wpF_cut (fun f H => f 1 = PT g1 0 ∧ f 3 = vT ∧ f 8 = I ((p : Int)) ∧ f 9 = I ((q : Int)) ∧ f 10 = I ((s : Int)) ∧ St H0 NoB (fun b => S b ∧ b < H0.size) [famE 4 us (M10.set p ((nth M10 p).set q true) : List (List Bool)), rowE 32 vT (us : List Raw), blkE g1 (.cells #[I (a.Signs), vn, vt] 36), rdE vn a.Next, rdE vt a.Takes] H) ?_ ?_
    · refine wpF_region ?_
      refine wpL_q (U := NoB) rfl (q_move (v := vT) rfl a56_3) ?_
      refine wpL_q (U := NoB) rfl (q_move (v := I ((p : Int))) rfl a56_8) ?_
      refine wpL_q (U := NoB) rfl (q_indexRd (k := p) rfl Try.underlying91 el_Raw_32_AutoQ1 rfl rfl (hS49.rowl 0 rfl) (by omega) (by omega)) ?_
      obtain ⟨u59, huu59, hlu59⟩ := hS49.rowElem 0 rfl p (by omega)
      obtain ⟨rfl, _⟩ := Rd.raw.1 huu59
      refine wpL_q (U := NoB) rfl (q_loadE rfl rfl (hlu59 Try.prog 32 _ el_Raw_32_AutoQ1 (fun _ h => False.elim h))) ?_
      refine wpL_q (U := NoB) rfl (q_move (v := I ((q : Int))) rfl a56_9) ?_
      refine wpL_q (U := NoB) rfl (q_indexRd (k := q) rfl Try.underlying32 el_Bool_4_AutoQ1 rfl rfl (hS49.fam 1 rfl p (by omega)) (by omega) (by omega)) ?_
      have hS60 : St H0 NoB (fun b => S b ∧ b < H0.size) [famE 4 us (M10 : List (List Bool)), rowE 32 vT (us : List Raw), blkE g1 (.cells #[I (a.Signs), vn, vt] 36), rdE vn a.Next, rdE vt a.Takes] H49 := (hS49.front 1 rfl)
      have hS61 : St H0 NoB (fun b => S b ∧ b < H0.size) [rowE 4 ((nth us p).v) (nth M10 p : List Bool), famX 4 us (M10 : List (List Bool)) p, rowE 32 vT (us : List Raw), blkE g1 (.cells #[I (a.Signs), vn, vt] 36), rdE vn a.Next, rdE vt a.Takes] H49 := hS60.famOut (by omega)
      refine wpL_o rfl ?_
      refine e_rowSet (k := q) (u := B (true)) rfl rfl rfl rfl Try.sizeOf4 (by first | (simp; omega) | omega) hS61 (Rd.bool.2 rfl) (fun H62 hS63 hxx => ?_)
      replace hS63 : St H0 NoB (fun b => S b ∧ b < H0.size) [rowE 4 ((nth us p).v) ((nth M10 p).set q true : List Bool), famX 4 us (M10 : List (List Bool)) p, rowE 32 vT (us : List Raw), blkE g1 (.cells #[I (a.Signs), vn, vt] 36), rdE vn a.Next, rdE vt a.Takes] H62 := hS63
      have hS64 : St H0 NoB (fun b => S b ∧ b < H0.size) [famE 4 us (M10.set p ((nth M10 p).set q true) : List (List Bool)), rowE 32 vT (us : List Raw), blkE g1 (.cells #[I (a.Signs), vn, vt] 36), rdE vn a.Next, rdE vt a.Takes] H62 := hS63.famIn (by omega)
      exact ⟨a56_1, a56_3, a56_8, a56_9, a56_10, hS64⟩
    rintro f65 H65 ⟨a65_1, a65_3, a65_8, a65_9, a65_10, hS65⟩
    clear a56_1 a56_10 a56_3 a56_7 a56_8 a56_9 a56_96
    refine wpF_cut (fun f H => f 1 = PT g1 0 ∧ f 3 = vT ∧ f 7 = B (true) ∧ f 8 = I ((p : Int)) ∧ f 9 = I ((q : Int)) ∧ f 10 = I ((s : Int)) ∧ H65 = H) ?_ ?_
    · refine wpF_region ?_
      refine wpL_q (U := NoB) rfl (q_assign (v := B (true)) rfl rfl) ?_
      exact ⟨a65_1, a65_3, rfl, a65_8, a65_9, a65_10, rfl⟩
    rintro f66 _ ⟨a66_1, a66_3, a66_7, a66_8, a66_9, a66_10, rfl⟩
    clear a65_1 a65_10 a65_3 a65_8 a65_9
    exact ⟨M10.set p ((nth M10 p).set q true), true, (hP10.yes hW (by omega) (by omega) (by omega) (by simpa [at2] using h96.1) h96.2), a66_1, a66_3, a66_7, a66_8, a66_9, a66_10, (show St H0 NoB (fun b => S b ∧ b < H0.size) [rowE 32 vT (us : List Raw), famE 4 us ((M10.set p ((nth M10 p).set q true)) : List (List Bool)), blkE g1 (.cells #[I (a.Signs), vn, vt] 36), rdE vn a.Next, rdE vt a.Takes] H65 from (St.drop (show St H0 NoB (fun b => S b ∧ b < H0.size) [rowE 32 vT (us : List Raw), famE 4 us (M10.set p ((nth M10 p).set q true) : List (List Bool)), blkE g1 (.cells #[I (a.Signs), vn, vt] 36), rdE vn a.Next, rdE vt a.Takes] H65 from (hS65.front 1 rfl)) (sk (sk (sk (sk (sk (List.Sublist.slnil))))))))⟩
  rintro f57 H57 ⟨MN, bN, hPN, a57_1, a57_3, a57_7, a57_8, a57_9, a57_10, hS57⟩
  clear a56_1 a56_10 a56_3 a56_7 a56_8 a56_9 a56_96
  refine wpF_cut (fun f H => f 1 = PT g1 0 ∧ f 3 = vT ∧ f 7 = B (bN) ∧ f 8 = I ((p : Int)) ∧ f 9 = I ((q : Int)) ∧ f 10 = I ((s : Int) + 1) ∧ H57 = H) ?_ ?_
  · refine wpF_region ?_
    refine wpL_q (U := NoB) rfl (q_move (v := I ((s : Int))) rfl a57_10) ?_
    refine wpL_q (U := NoB) rfl (q_add rfl rfl rfl (by constructor <;> omega)) ?_
    refine wpL_q (U := NoB) rfl (q_assign (v := I ((s : Int) + 1)) rfl rfl) ?_
    exact ⟨a57_1, a57_3, a57_7, a57_8, a57_9, rfl, rfl⟩
  rintro f68 _ ⟨a68_1, a68_3, a68_7, a68_8, a68_9, a68_10, rfl⟩
  clear a57_1 a57_10 a57_3 a57_7 a57_8 a57_9
  refine ⟨_, ?_, s + 1, bN, MN, rfl, (by omega), hPN, a68_1, a68_3, a68_7, a68_8, a68_9, (Eq.trans a68_10 (congrArg I (by omega))), hS57⟩
  omega

end Go.Um
