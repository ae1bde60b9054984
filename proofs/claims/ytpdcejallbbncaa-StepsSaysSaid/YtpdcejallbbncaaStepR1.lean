import Derived.Test.YtpdcejallbbncaaProg
import Derived.Test.YtpdcejallbbncaaActW1
import Derived.Test.YtpdcejallbbncaaStepPlain
import Derived.Test.YtpdcejallbbncaaUmSub
namespace Go.Um
open Go.Proofs
open GoT (sz ag rdc)
open KeyT (kv)

theorem el_Act_37_StepR1 : ElT Try.prog Act 37 := ⟨Try.isAgg37, Try.sizeOf37⟩
theorem el_Int_3_StepR1 : ElT Try.prog Int 3 := ⟨Try.isAgg3, Try.sizeOf3⟩
theorem em_Int_3_StepR1 : ElemOk Try.prog Int 3 := ⟨Try.t3, (.int .i64 0), by kernel_rfl, by kernel_rfl, by kernel_rfl, by kernel_rfl, by kernel_rfl⟩
theorem em_LInt_22_StepR1 : ElemOk Try.prog (List Int) 22 := ⟨Try.t22, (.slice none 0 0), by kernel_rfl, by kernel_rfl, by kernel_rfl, by kernel_rfl, by kernel_rfl⟩

set_option maxHeartbeats 8000000 in
set_option maxRecDepth 100000 in
theorem Clauses_R {H0 : Heap} {S : Nat → Prop} (vf vg va : Value) (q : Quest) (n : Int) (h6qFacts : In64 q.Facts) (rvf : Rd S H0 vf q.First) (rvg : Rd S H0 vg q.Goal) (rva : Rd S H0 va q.Acts) (hQ : QW q) (hn : 0 ≤ n ∧ n ≤ 20) : CallsH Try.prog 34 #[Value.agg #[I (q.Facts), vf, vg, va], I (n)] H0 (fun rv_ H' => Ext NoB H0 H' ∧ Rd (fun b => S b ∧ b < H0.size) H' rv_ (clausesQ q n)) := by
  have hsa := (Rd.list.1 rva).small
  have hsg := (Rd.list.1 rvg).small
  have hfx := hQ.facts
  have hmy := hQ.many
  have hvr := vars_rng hQ hn
  have hgl := hQ.goal.len (by omega)
  have hfn := fact_rng hQ (f := 0) (t := n) (by omega) (by omega)
  have hS0 : St H0 NoB (fun b => S b ∧ b < H0.size) [rdE vf q.First, rdE vg q.Goal, rdE va q.Acts] H0 := St.arg (St.arg (St.arg (St.start (fun _ h => h.2)) (Bl0.nil) rva (fun _ h => h.1)) (Bl0.cons (Bl0.nil)) rvg (fun _ h => h.1)) (Bl0.cons (Bl0.cons (Bl0.nil))) rvf (fun _ h => h.1)
  refine callsH_of_wpF (args := [Value.agg #[I (q.Facts), vf, vg, va], I (n)]) (rs := [.tmp 4]) Try.func34 rfl Try.ntmps34 Try.results34 (by kernel_rfl) (Nat.le_of_ble_eq_true rfl) ?_
  have a0_0 : argF [Value.agg #[I (q.Facts), vf, vg, va], I (n)] 0 = Value.agg #[I (q.Facts), vf, vg, va] := rfl
  have a0_1 : argF [Value.agg #[I (q.Facts), vf, vg, va], I (n)] 1 = I (n) := rfl
  generalize argF [Value.agg #[I (q.Facts), vf, vg, va], I (n)] = f0 at *
  refine wpF_seq ?_
  refine wpF_cut (fun f H => ∃ (g1 : Nat), f 1 = I (n) ∧ f 2 = PT g1 0 ∧ St H0 NoB (fun b => S b ∧ b < H0.size) [blkE g1 (.cells #[I (q.Facts), vf, vg, va] 25), rdE vf q.First, rdE vg q.Goal, rdE va q.Acts] H) ?_ ?_
  · refine wpF_region ?_
    refine wpL_o rfl ?_
    refine e_box (v := Value.agg #[I (q.Facts), vf, vg, va]) rfl a0_0 hS0 (fun g1 H2 hS3 hxx => ?_)
    replace hS3 : St H0 NoB (fun b => S b ∧ b < H0.size) [blkE g1 (.cells #[I (q.Facts), vf, vg, va] 25), rdE vf q.First, rdE vg q.Goal, rdE va q.Acts] H2 := hS3
    refine wpL_q (U := NoB) rfl (q_assign (v := (Value.slice none 0 0)) rfl rfl) ?_
    exact ⟨g1, a0_1, rfl, hS3⟩
  rintro f4 H4 ⟨g1, a4_1, a4_2, hS4⟩
  clear a0_0 a0_1
  refine wpF_seq ?_
  refine wpF_cut (fun f H => f 1 = I (n) ∧ f 2 = PT g1 0 ∧ f 5 = (Value.slice none 0 0) ∧ H4 = H) ?_ ?_
  · refine wpF_region ?_
    refine wpL_q (U := NoB) rfl (q_assign (v := (Value.slice none 0 0)) rfl rfl) ?_
    exact ⟨a4_1, a4_2, rfl, rfl⟩
  rintro f5 _ ⟨a5_1, a5_2, a5_5, rfl⟩
  clear a4_1 a4_2
  have hS6 : St H0 NoB (fun b => S b ∧ b < H0.size) [rowE 22 (Value.slice none 0 0) ([] : List (List Int)), blkE g1 (.cells #[I (q.Facts), vf, vg, va] 25), rdE vf q.First, rdE vg q.Goal, rdE va q.Acts] H4 := hS4.row0 22
  refine wpF_seq ?_
  refine wpF_cut (fun f H => f 1 = I (n) ∧ f 2 = PT g1 0 ∧ f 5 = (Value.slice none 0 0) ∧ f 6 = I ((q.Acts.length : Int)) ∧ H4 = H) ?_ ?_
  · refine wpF_region ?_
    refine wpL_q (U := NoB) rfl (q_fieldAddr rfl Try.underlying25 rfl Try.sizeOf23 a5_2) ?_
    refine wpL_q (U := NoB) rfl (q_loadBlk rfl rfl Try.isAgg23 (hS6.blk 1 rfl) rfl (fun h => h)) ?_
    refine wpL_q (U := NoB) rfl (q_lenRd rfl Try.underlying23 rfl (hS6.rdl 4 rfl)) ?_
    refine wpL_q (U := NoB) rfl (q_assign (v := I ((q.Acts.length : Int))) rfl rfl) ?_
    exact ⟨a5_1, a5_2, a5_5, rfl, rfl⟩
  rintro f7 _ ⟨a7_1, a7_2, a7_5, a7_6, rfl⟩
  clear a5_1 a5_2 a5_5
  refine wpF_seq ?_
  refine wpF_cut (fun f H => f 1 = I (n) ∧ f 2 = PT g1 0 ∧ f 5 = (Value.slice none 0 0) ∧ f 6 = I ((q.Acts.length : Int)) ∧ f 7 = I ((n + 1) * q.Facts) ∧ H4 = H) ?_ ?_
  · refine wpF_region ?_
    refine wpL_q (U := NoB) rfl (q_move (v := I (n)) rfl a7_1) ?_
    refine wpL_q (U := NoB) rfl (q_add rfl rfl rfl (by constructor <;> omega)) ?_
    refine wpL_q (U := NoB) rfl (q_fieldAddr rfl Try.underlying25 rfl Try.sizeOf3 a7_2) ?_
    refine wpL_q (U := NoB) rfl (q_loadBlk rfl rfl Try.isAgg3 (hS6.blk 1 rfl) rfl (fun h => h)) ?_
    refine wpL_q (U := NoB) rfl (q_mul rfl rfl rfl (by constructor <;> omega)) ?_
    refine wpL_q (U := NoB) rfl (q_assign (v := I ((n + 1) * q.Facts)) rfl rfl) ?_
    exact ⟨a7_1, a7_2, a7_5, a7_6, rfl, rfl⟩
  rintro f8 _ ⟨a8_1, a8_2, a8_5, a8_6, a8_7, rfl⟩
  clear a7_1 a7_2 a7_5 a7_6
  refine wpF_seq ?_
  refine wpF_seq ?_
  refine wpF_cut (fun f H => f 1 = I (n) ∧ f 2 = PT g1 0 ∧ f 5 = (Value.slice none 0 0) ∧ f 6 = I ((q.Acts.length : Int)) ∧ f 7 = I ((n + 1) * q.Facts) ∧ f 8 = I (0) ∧ H4 = H) ?_ ?_
  · refine wpF_region ?_
    refine wpL_q (U := NoB) rfl (q_assign (v := I (0)) rfl rfl) ?_
    exact ⟨a8_1, a8_2, a8_5, a8_6, a8_7, rfl, rfl⟩
  rintro f9 _ ⟨a9_1, a9_2, a9_5, a9_6, a9_7, a9_8, rfl⟩
  clear a8_1 a8_2 a8_5 a8_6 a8_7
  refine wpF_block ?_
  refine wpF_loop (fun mz f H => ∃ (k : Nat), ∃ (c0 : List (List Int)), ∃ (v0 : Value), mz = q.Facts.toNat - k ∧ (k ≤ q.Facts.toNat) ∧ (c0 = cFirst q k) ∧ (c0.length ≤ k) ∧ f 1 = I (n) ∧ f 2 = PT g1 0 ∧ f 5 = v0 ∧ f 6 = I ((q.Acts.length : Int)) ∧ f 7 = I ((n + 1) * q.Facts) ∧ f 8 = I ((k : Int)) ∧ St H0 NoB (fun b => S b ∧ b < H0.size) [rowE 22 v0 (c0 : List (List Int)), blkE g1 (.cells #[I (q.Facts), vf, vg, va] 25), rdE vf q.First, rdE vg q.Goal, rdE va q.Acts] H) (q.Facts.toNat - 0) ?_ ?_
  · exact ⟨0, [], (Value.slice none 0 0), rfl, Nat.zero_le _, rfl, (Nat.le_refl _), a9_1, a9_2, a9_5, a9_6, a9_7, (Eq.trans a9_8 (congrArg I (by omega))), (show St H0 NoB (fun b => S b ∧ b < H0.size) [rowE 22 (Value.slice none 0 0) (([]) : List (List Int)), blkE g1 (.cells #[I (q.Facts), vf, vg, va] 25), rdE vf q.First, rdE vg q.Goal, rdE va q.Acts] H4 from hS6)⟩
  intro m10 f10 H10 hI10
  obtain ⟨k, c0, v0, hm10, hk, e0, l0, a10_1, a10_2, a10_5, a10_6, a10_7, a10_8, hS10⟩ := hI10
  clear a9_1 a9_2 a9_5 a9_6 a9_7 a9_8
  refine wpF_seq ?_
  refine wpF_seq ?_
  refine wpF_cut (fun f H => f 1 = I (n) ∧ f 2 = PT g1 0 ∧ f 5 = v0 ∧ f 6 = I ((q.Acts.length : Int)) ∧ f 7 = I ((n + 1) * q.Facts) ∧ f 8 = I ((k : Int)) ∧ f 39 = B (decide ((k : Int) < q.Facts)) ∧ H10 = H) ?_ ?_
  · refine wpF_region ?_
    refine wpL_q (U := NoB) rfl (q_move (v := I ((k : Int))) rfl a10_8) ?_
    refine wpL_q (U := NoB) rfl (q_fieldAddr rfl Try.underlying25 rfl Try.sizeOf3 a10_2) ?_
    refine wpL_q (U := NoB) rfl (q_loadBlk rfl rfl Try.isAgg3 (hS10.blk 1 rfl) rfl (fun h => h)) ?_
    refine wpL_q (U := NoB) rfl (q_lss rfl rfl rfl) ?_
    exact ⟨a10_1, a10_2, a10_5, a10_6, a10_7, a10_8, rfl, rfl⟩
  rintro f11 _ ⟨a11_1, a11_2, a11_5, a11_6, a11_7, a11_8, a11_39, rfl⟩
  clear a10_1 a10_2 a10_5 a10_6 a10_7 a10_8
  refine wpF_condP a11_39 (fun c39 => ?t247) (fun c39 => ?e247)
  case t247 =>
    refine wpF_skip ?_
    refine wpF_seq ?_
    refine wpF_block ?_
    refine wpF_seq ?_
    refine wpF_cut (fun f H => f 1 = I (n) ∧ f 2 = PT g1 0 ∧ f 5 = v0 ∧ f 6 = I ((q.Acts.length : Int)) ∧ f 7 = I ((n + 1) * q.Facts) ∧ f 8 = I ((k : Int)) ∧ f 45 = B (hasB q.First (k : Int)) ∧ St H0 NoB (fun b => S b ∧ b < H0.size) [rowE 22 v0 (c0 : List (List Int)), blkE g1 (.cells #[I (q.Facts), vf, vg, va] 25), rdE vf q.First, rdE vg q.Goal, rdE va q.Acts] H) ?_ ?_
    · refine wpF_region ?_
      refine wpL_q (U := NoB) rfl (q_fieldAddr rfl Try.underlying25 rfl Try.sizeOf22 a11_2) ?_
      refine wpL_q (U := NoB) rfl (q_loadBlk rfl rfl Try.isAgg22 (hS10.blk 1 rfl) rfl (fun h => h)) ?_
      refine wpL_q (U := NoB) rfl (q_move (v := I ((k : Int))) rfl a11_8) ?_
      refine wpL_o rfl ?_
      refine e_call rfl Try.call41 (arr2 (v0 := vf) (v1 := I ((k : Int))) rfl rfl) (Has_R vf q.First (k : Int) (hS10.rdN 2 rfl) ) ?_
      rintro _ H13 ⟨hxx, rfl⟩
      have hS14 : St H0 NoB (fun b => S b ∧ b < H0.size) [rowE 22 v0 (c0 : List (List Int)), blkE g1 (.cells #[I (q.Facts), vf, vg, va] 25), rdE vf q.First, rdE vg q.Goal, rdE va q.Acts] H13 := hS10.ext hxx
      exact ⟨a11_1, a11_2, a11_5, a11_6, a11_7, a11_8, rfl, hS14⟩
    rintro f16 H16 ⟨a16_1, a16_2, a16_5, a16_6, a16_7, a16_8, a16_45, hS16⟩
    clear a11_1 a11_2 a11_39 a11_5 a11_6 a11_7 a11_8
    refine wpF_cut (fun f H => ∃ (vN : Value), ∃ (cN : List (List Int)), (cN = cFirst q (k + 1)) ∧ (cN.length ≤ k + 1) ∧ f 1 = I (n) ∧ f 2 = PT g1 0 ∧ f 5 = vN ∧ f 6 = I ((q.Acts.length : Int)) ∧ f 7 = I ((n + 1) * q.Facts) ∧ f 8 = I ((k : Int)) ∧ St H0 NoB (fun b => S b ∧ b < H0.size) [rowE 22 vN (cN : List (List Int)), blkE g1 (.cells #[I (q.Facts), vf, vg, va] 25), rdE vf q.First, rdE vg q.Goal, rdE va q.Acts] H) ?_ ?_
    · refine wpF_cond a16_45 (fun h45 => ?t45) (fun h45 => ?e45)
      case t45 =>
        refine wpF_cut (fun f H => ∃ (v28 : Value), f 1 = I (n) ∧ f 2 = PT g1 0 ∧ f 5 = v28 ∧ f 6 = I ((q.Acts.length : Int)) ∧ f 7 = I ((n + 1) * q.Facts) ∧ f 8 = I ((k : Int)) ∧ St H0 NoB (fun b => S b ∧ b < H0.size) [rowE 22 v28 (c0 ++ ([[(k : Int) + 1]]) : List (List Int)), blkE g1 (.cells #[I (q.Facts), vf, vg, va] 25), rdE vf q.First, rdE vg q.Goal, rdE va q.Acts] H) ?_ ?_
        · refine wpF_region ?_
          refine wpL_q (U := NoB) rfl (q_move (v := v0) rfl a16_5) ?_
          refine wpL_q (U := NoB) rfl (q_move (v := I ((k : Int))) rfl a16_8) ?_
          refine wpL_q (U := NoB) rfl (q_add rfl rfl rfl (by constructor <;> omega)) ?_
          refine wpL_o rfl ?_
          refine e_buildSlice (vs := [I ((k : Int) + 1)]) (xs := ([(k : Int) + 1] : List Int)) rfl Try.underlying22 Try.zeroValue3 rfl Try.sizeOf3 (par1 (v0 := I ((k : Int) + 1)) rfl) rfl hS16 (RdVs.cons (Rd.int.2 ⟨rfl, by first | assumption | (constructor <;> omega)⟩) (RdVs.nil)) (by decide) (by decide) (fun v19 H20 hS21 hxx hvv19 => ?_)
          replace hS21 : St H0 NoB (fun b => S b ∧ b < H0.size) [rowE 3 v19 ([(k : Int) + 1] : List Int), rowE 22 v0 (c0 : List (List Int)), blkE g1 (.cells #[I (q.Facts), vf, vg, va] 25), rdE vf q.First, rdE vg q.Goal, rdE va q.Acts] H20 := hS21
          have hS22 : St H0 NoB (fun b => S b ∧ b < H0.size) [rdE v19 ([(k : Int) + 1] : List Int), rowE 22 v0 (c0 : List (List Int)), blkE g1 (.cells #[I (q.Facts), vf, vg, va] 25), rdE vf q.First, rdE vg q.Goal, rdE va q.Acts] H20 := St.fin hS21
          refine wpL_o rfl ?_
          refine e_buildSlice (vs := [v19]) (xs := ([[(k : Int) + 1]] : List (List Int))) rfl Try.underlying56 Try.zeroValue22 rfl Try.sizeOf22 (par1 (v0 := v19) rfl) rfl hS22 (RdVs.cons (hS22.rdS 0 rfl) (RdVs.nil)) (by decide) (by decide) (fun v23 H24 hS25 hxx hvv23 => ?_)
          replace hS25 : St H0 NoB (fun b => S b ∧ b < H0.size) [rowE 22 v23 ([[(k : Int) + 1]] : List (List Int)), rdE v19 ([(k : Int) + 1] : List Int), rowE 22 v0 (c0 : List (List Int)), blkE g1 (.cells #[I (q.Facts), vf, vg, va] 25), rdE vf q.First, rdE vg q.Goal, rdE va q.Acts] H24 := hS25
          have hS26 : St H0 NoB (fun b => S b ∧ b < H0.size) [rdE v23 ([[(k : Int) + 1]] : List (List Int)), rdE v19 ([(k : Int) + 1] : List Int), rowE 22 v0 (c0 : List (List Int)), blkE g1 (.cells #[I (q.Facts), vf, vg, va] 25), rdE vf q.First, rdE vg q.Goal, rdE va q.Acts] H24 := St.fin hS25
          have hS27 : St H0 NoB (fun b => S b ∧ b < H0.size) [rowE 22 v0 (c0 : List (List Int)), rdE v23 ([[(k : Int) + 1]] : List (List Int)), rdE v19 ([(k : Int) + 1] : List Int), blkE g1 (.cells #[I (q.Facts), vf, vg, va] 25), rdE vf q.First, rdE vg q.Goal, rdE va q.Acts] H24 := (hS26.front 2 rfl)
          refine wpL_o rfl ?_
          refine e_append rfl Try.underlying56 em_LInt_22_StepR1 rfl rfl hS27 (hS27.rdS 1 rfl) (fun _ h => h) (by have hb : GoT.bytes (List Int) = 24 := rfl; simp [hb]; omega) (by decide) (fun v28 H29 hS30 hxx => ?_)
          replace hS30 : St H0 NoB (fun b => S b ∧ b < H0.size) [rowE 22 v28 (c0 ++ ([[(k : Int) + 1]]) : List (List Int)), rdE v23 ([[(k : Int) + 1]] : List (List Int)), rdE v19 ([(k : Int) + 1] : List Int), blkE g1 (.cells #[I (q.Facts), vf, vg, va] 25), rdE vf q.First, rdE vg q.Goal, rdE va q.Acts] H29 := hS30
          refine wpL_q (U := NoB) rfl (q_assign (v := v28) rfl rfl) ?_
          exact ⟨v28, a16_1, a16_2, rfl, a16_6, a16_7, a16_8, (hS30.drop (sk (sn (sn (sk (sk (sk (sk (List.Sublist.slnil)))))))))⟩
        rintro f31 H31 ⟨v28, a31_1, a31_2, a31_5, a31_6, a31_7, a31_8, hS31⟩
        clear a16_1 a16_2 a16_45 a16_5 a16_6 a16_7 a16_8
        exact ⟨v28, c0 ++ ([[(k : Int) + 1]]), (by rw [e0, cFirst_yes h45]; simp [factV]), (by rw [List.length_append, List.length_singleton]; omega), a31_1, a31_2, a31_5, a31_6, a31_7, a31_8, (show St H0 NoB (fun b => S b ∧ b < H0.size) [rowE 22 v28 ((c0 ++ ([[(k : Int) + 1]])) : List (List Int)), blkE g1 (.cells #[I (q.Facts), vf, vg, va] 25), rdE vf q.First, rdE vg q.Goal, rdE va q.Acts] H31 from hS31)⟩
      refine wpF_cut (fun f H => ∃ (v41 : Value), f 1 = I (n) ∧ f 2 = PT g1 0 ∧ f 5 = v41 ∧ f 6 = I ((q.Acts.length : Int)) ∧ f 7 = I ((n + 1) * q.Facts) ∧ f 8 = I ((k : Int)) ∧ St H0 NoB (fun b => S b ∧ b < H0.size) [rowE 22 v41 (c0 ++ ([[(-(k : Int)) - 1]]) : List (List Int)), blkE g1 (.cells #[I (q.Facts), vf, vg, va] 25), rdE vf q.First, rdE vg q.Goal, rdE va q.Acts] H) ?_ ?_
      · refine wpF_region ?_
        refine wpL_q (U := NoB) rfl (q_move (v := v0) rfl a16_5) ?_
        refine wpL_q (U := NoB) rfl (q_move (v := I ((k : Int))) rfl a16_8) ?_
        refine wpL_q (U := NoB) rfl (q_neg rfl rfl (by constructor <;> omega)) ?_
        refine wpL_q (U := NoB) rfl (q_sub rfl rfl rfl (by constructor <;> omega)) ?_
        refine wpL_o rfl ?_
        refine e_buildSlice (vs := [I ((-(k : Int)) - 1)]) (xs := ([(-(k : Int)) - 1] : List Int)) rfl Try.underlying22 Try.zeroValue3 rfl Try.sizeOf3 (par1 (v0 := I ((-(k : Int)) - 1)) rfl) rfl hS16 (RdVs.cons (Rd.int.2 ⟨rfl, by first | assumption | (constructor <;> omega)⟩) (RdVs.nil)) (by decide) (by decide) (fun v32 H33 hS34 hxx hvv32 => ?_)
        replace hS34 : St H0 NoB (fun b => S b ∧ b < H0.size) [rowE 3 v32 ([(-(k : Int)) - 1] : List Int), rowE 22 v0 (c0 : List (List Int)), blkE g1 (.cells #[I (q.Facts), vf, vg, va] 25), rdE vf q.First, rdE vg q.Goal, rdE va q.Acts] H33 := hS34
        have hS35 : St H0 NoB (fun b => S b ∧ b < H0.size) [rdE v32 ([(-(k : Int)) - 1] : List Int), rowE 22 v0 (c0 : List (List Int)), blkE g1 (.cells #[I (q.Facts), vf, vg, va] 25), rdE vf q.First, rdE vg q.Goal, rdE va q.Acts] H33 := St.fin hS34
        refine wpL_o rfl ?_
        refine e_buildSlice (vs := [v32]) (xs := ([[(-(k : Int)) - 1]] : List (List Int))) rfl Try.underlying56 Try.zeroValue22 rfl Try.sizeOf22 (par1 (v0 := v32) rfl) rfl hS35 (RdVs.cons (hS35.rdS 0 rfl) (RdVs.nil)) (by decide) (by decide) (fun v36 H37 hS38 hxx hvv36 => ?_)
        replace hS38 : St H0 NoB (fun b => S b ∧ b < H0.size) [rowE 22 v36 ([[(-(k : Int)) - 1]] : List (List Int)), rdE v32 ([(-(k : Int)) - 1] : List Int), rowE 22 v0 (c0 : List (List Int)), blkE g1 (.cells #[I (q.Facts), vf, vg, va] 25), rdE vf q.First, rdE vg q.Goal, rdE va q.Acts] H37 := hS38
        have hS39 : St H0 NoB (fun b => S b ∧ b < H0.size) [rdE v36 ([[(-(k : Int)) - 1]] : List (List Int)), rdE v32 ([(-(k : Int)) - 1] : List Int), rowE 22 v0 (c0 : List (List Int)), blkE g1 (.cells #[I (q.Facts), vf, vg, va] 25), rdE vf q.First, rdE vg q.Goal, rdE va q.Acts] H37 := St.fin hS38
        have hS40 : St H0 NoB (fun b => S b ∧ b < H0.size) [rowE 22 v0 (c0 : List (List Int)), rdE v36 ([[(-(k : Int)) - 1]] : List (List Int)), rdE v32 ([(-(k : Int)) - 1] : List Int), blkE g1 (.cells #[I (q.Facts), vf, vg, va] 25), rdE vf q.First, rdE vg q.Goal, rdE va q.Acts] H37 := (hS39.front 2 rfl)
        refine wpL_o rfl ?_
        refine e_append rfl Try.underlying56 em_LInt_22_StepR1 rfl rfl hS40 (hS40.rdS 1 rfl) (fun _ h => h) (by have hb : GoT.bytes (List Int) = 24 := rfl; simp [hb]; omega) (by decide) (fun v41 H42 hS43 hxx => ?_)
        replace hS43 : St H0 NoB (fun b => S b ∧ b < H0.size) [rowE 22 v41 (c0 ++ ([[(-(k : Int)) - 1]]) : List (List Int)), rdE v36 ([[(-(k : Int)) - 1]] : List (List Int)), rdE v32 ([(-(k : Int)) - 1] : List Int), blkE g1 (.cells #[I (q.Facts), vf, vg, va] 25), rdE vf q.First, rdE vg q.Goal, rdE va q.Acts] H42 := hS43
        refine wpL_q (U := NoB) rfl (q_assign (v := v41) rfl rfl) ?_
        exact ⟨v41, a16_1, a16_2, rfl, a16_6, a16_7, a16_8, (hS43.drop (sk (sn (sn (sk (sk (sk (sk (List.Sublist.slnil)))))))))⟩
      rintro f44 H44 ⟨v41, a44_1, a44_2, a44_5, a44_6, a44_7, a44_8, hS44⟩
      clear a16_1 a16_2 a16_45 a16_5 a16_6 a16_7 a16_8
      exact ⟨v41, c0 ++ ([[(-(k : Int)) - 1]]), (by rw [e0, cFirst_no (by simp [h45])]; simp [factV]; omega), (by rw [List.length_append, List.length_singleton]; omega), a44_1, a44_2, a44_5, a44_6, a44_7, a44_8, (show St H0 NoB (fun b => S b ∧ b < H0.size) [rowE 22 v41 ((c0 ++ ([[(-(k : Int)) - 1]])) : List (List Int)), blkE g1 (.cells #[I (q.Facts), vf, vg, va] 25), rdE vf q.First, rdE vg q.Goal, rdE va q.Acts] H44 from hS44)⟩
    rintro f17 H17 ⟨vN, cN, eN, lN, a17_1, a17_2, a17_5, a17_6, a17_7, a17_8, hS17⟩
    clear a16_1 a16_2 a16_45 a16_5 a16_6 a16_7 a16_8
    refine wpF_cut (fun f H => f 1 = I (n) ∧ f 2 = PT g1 0 ∧ f 5 = vN ∧ f 6 = I ((q.Acts.length : Int)) ∧ f 7 = I ((n + 1) * q.Facts) ∧ f 8 = I ((k : Int) + 1) ∧ H17 = H) ?_ ?_
    · refine wpF_region ?_
      refine wpL_q (U := NoB) rfl (q_move (v := I ((k : Int))) rfl a17_8) ?_
      refine wpL_q (U := NoB) rfl (q_add rfl rfl rfl (by constructor <;> omega)) ?_
      refine wpL_q (U := NoB) rfl (q_assign (v := I ((k : Int) + 1)) rfl rfl) ?_
      exact ⟨a17_1, a17_2, a17_5, a17_6, a17_7, rfl, rfl⟩
    rintro f46 _ ⟨a46_1, a46_2, a46_5, a46_6, a46_7, a46_8, rfl⟩
    clear a17_1 a17_2 a17_5 a17_6 a17_7 a17_8
    refine ⟨_, ?_, k + 1, cN, vN, rfl, (by omega), eN, lN, a46_1, a46_2, a46_5, a46_6, a46_7, (Eq.trans a46_8 (congrArg I (by omega))), hS17⟩
    omega
  have hkF : k = q.Facts.toNat := by omega
  rw [hkF] at e0
  refine wpF_exit ?_
  refine atX_here ?_
  refine wpF_seq ?_
  refine wpF_seq ?_
  refine wpF_cut (fun f H => f 1 = I (n) ∧ f 2 = PT g1 0 ∧ f 5 = v0 ∧ f 6 = I ((q.Acts.length : Int)) ∧ f 7 = I ((n + 1) * q.Facts) ∧ f 9 = I (0) ∧ H10 = H) ?_ ?_
  · refine wpF_region ?_
    refine wpL_q (U := NoB) rfl (q_assign (v := I (0)) rfl rfl) ?_
    exact ⟨a11_1, a11_2, a11_5, a11_6, a11_7, rfl, rfl⟩
  rintro f47 _ ⟨a47_1, a47_2, a47_5, a47_6, a47_7, a47_9, rfl⟩
  clear a11_1 a11_2 a11_39 a11_5 a11_6 a11_7 a11_8
  refine wpF_block ?_
  refine wpF_loop (fun mz f H => ∃ (u : Nat), ∃ (cu : List (List Int)), ∃ (vu : Value), mz = n.toNat - u ∧ (u ≤ n.toNat) ∧ (cu = c0 ++ cTimes q n u) ∧ (cu.length ≤ c0.length + 4000 * u) ∧ f 1 = I (n) ∧ f 2 = PT g1 0 ∧ f 5 = vu ∧ f 6 = I ((q.Acts.length : Int)) ∧ f 7 = I ((n + 1) * q.Facts) ∧ f 9 = I ((u : Int)) ∧ St H0 NoB (fun b => S b ∧ b < H0.size) [rowE 22 vu (cu : List (List Int)), blkE g1 (.cells #[I (q.Facts), vf, vg, va] 25), rdE vf q.First, rdE vg q.Goal, rdE va q.Acts] H) (n.toNat - 0) ?_ ?_
  · exact ⟨0, c0, v0, rfl, Nat.zero_le _, (by simp [cTimes]), (Nat.le_refl _), a47_1, a47_2, a47_5, a47_6, a47_7, (Eq.trans a47_9 (congrArg I (by omega))), hS10⟩
  intro m48 f48 H48 hI48
  obtain ⟨u, cu, vu, hm48, hu, e1, l1, a48_1, a48_2, a48_5, a48_6, a48_7, a48_9, hS48⟩ := hI48
  clear a47_1 a47_2 a47_5 a47_6 a47_7 a47_9
  refine wpF_seq ?_
  refine wpF_seq ?_
  refine wpF_cut (fun f H => f 1 = I (n) ∧ f 2 = PT g1 0 ∧ f 5 = vu ∧ f 6 = I ((q.Acts.length : Int)) ∧ f 7 = I ((n + 1) * q.Facts) ∧ f 9 = I ((u : Int)) ∧ f 61 = B (decide ((u : Int) < n)) ∧ H48 = H) ?_ ?_
  · refine wpF_region ?_
    refine wpL_q (U := NoB) rfl (q_move (v := I ((u : Int))) rfl a48_9) ?_
    refine wpL_q (U := NoB) rfl (q_move (v := I (n)) rfl a48_1) ?_
    refine wpL_q (U := NoB) rfl (q_lss rfl rfl rfl) ?_
    exact ⟨a48_1, a48_2, a48_5, a48_6, a48_7, a48_9, rfl, rfl⟩
  rintro f49 _ ⟨a49_1, a49_2, a49_5, a49_6, a49_7, a49_9, a49_61, rfl⟩
  clear a48_1 a48_2 a48_5 a48_6 a48_7 a48_9
  refine wpF_condP a49_61 (fun c61 => ?t246) (fun c61 => ?e246)
  case e246 =>
    have hun : u = n.toNat := by omega
    rw [hun, e0] at e1
    refine wpF_exit ?_
    refine atX_here ?_
    refine wpF_seq ?_
    refine wpF_seq ?_
    refine wpF_cut (fun f H => f 1 = I (n) ∧ f 2 = PT g1 0 ∧ f 5 = vu ∧ f 27 = I (0) ∧ H48 = H) ?_ ?_
    · refine wpF_region ?_
      refine wpL_q (U := NoB) rfl (q_assign (v := I (0)) rfl rfl) ?_
      exact ⟨a49_1, a49_2, a49_5, rfl, rfl⟩
    rintro f236 _ ⟨a236_1, a236_2, a236_5, a236_27, rfl⟩
    clear a49_1 a49_2 a49_5 a49_6 a49_61 a49_7 a49_9
    refine wpF_block ?_
    refine wpF_loop (fun mz f H => ∃ (i2 : Nat), ∃ (c9 : List (List Int)), ∃ (v9 : Value), mz = q.Goal.length - i2 ∧ (i2 ≤ q.Goal.length) ∧ (c9 = cu ++ cGoal q n (q.Goal.take i2)) ∧ (c9.length ≤ cu.length + i2) ∧ f 1 = I (n) ∧ f 2 = PT g1 0 ∧ f 5 = v9 ∧ f 27 = I ((i2 : Int)) ∧ St H0 NoB (fun b => S b ∧ b < H0.size) [rowE 22 v9 (c9 : List (List Int)), blkE g1 (.cells #[I (q.Facts), vf, vg, va] 25), rdE vf q.First, rdE vg q.Goal, rdE va q.Acts] H) (q.Goal.length - 0) ?_ ?_
    · exact ⟨0, cu, vu, rfl, Nat.zero_le _, (by simp [cGoal]), (Nat.le_refl _), a236_1, a236_2, a236_5, (Eq.trans a236_27 (congrArg I (by omega))), hS48⟩
    intro m237 f237 H237 hI237
    obtain ⟨i2, c9, v9, hm237, hi2, e2, l9, a237_1, a237_2, a237_5, a237_27, hS237⟩ := hI237
    clear a236_1 a236_2 a236_27 a236_5
    refine wpF_seq ?_
    refine wpF_seq ?_
    refine wpF_cut (fun f H => f 1 = I (n) ∧ f 2 = PT g1 0 ∧ f 5 = v9 ∧ f 27 = I ((i2 : Int)) ∧ f 315 = B (decide ((i2 : Int) < (q.Goal.length : Int))) ∧ H237 = H) ?_ ?_
    · refine wpF_region ?_
      refine wpL_q (U := NoB) rfl (q_move (v := I ((i2 : Int))) rfl a237_27) ?_
      refine wpL_q (U := NoB) rfl (q_fieldAddr rfl Try.underlying25 rfl Try.sizeOf22 a237_2) ?_
      refine wpL_q (U := NoB) rfl (q_loadBlk rfl rfl Try.isAgg22 (hS237.blk 1 rfl) rfl (fun h => h)) ?_
      refine wpL_q (U := NoB) rfl (q_lenRd rfl Try.underlying22 rfl (hS237.rdl 3 rfl)) ?_
      refine wpL_q (U := NoB) rfl (q_lss rfl rfl rfl) ?_
      exact ⟨a237_1, a237_2, a237_5, a237_27, rfl, rfl⟩
    rintro f238 _ ⟨a238_1, a238_2, a238_5, a238_27, a238_315, rfl⟩
    clear a237_1 a237_2 a237_27 a237_5
    refine wpF_condP a238_315 (fun c315 => ?t245) (fun c315 => ?e245)
    case e245 =>
      rw [List.take_of_length_le (by omega)] at e2
      refine wpF_exit ?_
      refine atX_here ?_
      refine wpF_seq ?_
      refine wpF_cut (fun f H => f 4 = v9 ∧ H237 = H) ?_ ?_
      · refine wpF_region ?_
        refine wpL_q (U := NoB) rfl (q_move (v := v9) rfl a238_5) ?_
        refine wpL_q (U := NoB) rfl (q_assign (v := v9) rfl rfl) ?_
        exact ⟨rfl, rfl⟩
      rintro f243 _ ⟨a243_4, rfl⟩
      clear a238_1 a238_2 a238_27 a238_315 a238_5
      refine wpF_ret ?_
      refine ⟨_, resT a243_4 resN, hS237.frame, ?_⟩
      show Rd (fun b => S b ∧ b < H0.size) H237 v9 (clausesQ q n)
      have hS244 : St H0 NoB (fun b => S b ∧ b < H0.size) [rdE v9 c9, blkE g1 (.cells #[I (q.Facts), vf, vg, va] 25), rdE vf q.First, rdE vg q.Goal, rdE va q.Acts] H237 := St.fin hS237
      have hcl : c9 = clausesQ q n := by rw [e2, e1, clausesQ]
      rw [← hcl]
      exact (hS244.result (hS244.rdS 0 rfl))
    have hgm := hQ.goal.mem (nth_mem (l := q.Goal) (k := i2) (by omega))
    refine wpF_skip ?_
    refine wpF_seq ?_
    refine wpF_block ?_
    refine wpF_cut (fun f H => ∃ (v240o14 : Value), f 1 = I (n) ∧ f 2 = PT g1 0 ∧ f 5 = v240o14 ∧ f 27 = I ((i2 : Int)) ∧ St H0 NoB (fun b => S b ∧ b < H0.size) [rowE 22 v240o14 (c9 ++ ([[((n * q.Facts) + (nth q.Goal i2)) + 1]]) : List (List Int)), blkE g1 (.cells #[I (q.Facts), vf, vg, va] 25), rdE vf q.First, rdE vg q.Goal, rdE va q.Acts] H) ?_ ?_
    · refine wpF_drawn [none, none, none, none, none, none, none, none, none, none, none, none, none, none, some 0, none] [[], [], [], [], [], [], [], [], [], [], [], [], [], [], [], []] (fun l b => match l with | 0 => True | _ => False) (by kernel_rfl) (by kernel_rfl) ?_
      refine wpR_q 0 (by kernel_rfl) rfl (quietAt rfl rfl (q_move (v := v9) rfl a238_5)) ?_
      refine wpR_q 1 (by kernel_rfl) rfl (quietAt rfl rfl (q_move (v := I (n)) rfl a238_1)) ?_
      refine wpR_q 2 (by kernel_rfl) rfl (quietAt rfl rfl (q_fieldAddr rfl Try.underlying25 rfl Try.sizeOf3 a238_2)) ?_
      refine wpR_q 3 (by kernel_rfl) rfl (quietAt rfl rfl (q_loadBlk rfl rfl Try.isAgg3 (hS237.blk 1 rfl) rfl (labU_not [] rfl (List.forall_mem_nil _)))) ?_
      refine wpR_q 4 (by kernel_rfl) rfl (quietAt rfl rfl (q_mul rfl rfl rfl (by constructor <;> omega))) ?_
      refine wpR_q 5 (by kernel_rfl) rfl (quietAt rfl rfl (q_fieldAddr rfl Try.underlying25 rfl Try.sizeOf22 a238_2)) ?_
      refine wpR_q 6 (by kernel_rfl) rfl (quietAt rfl rfl (q_loadBlk rfl rfl Try.isAgg22 (hS237.blk 1 rfl) rfl (labU_not [] rfl (List.forall_mem_nil _)))) ?_
      refine wpR_q 7 (by kernel_rfl) rfl (quietAt rfl rfl (q_move (v := I ((i2 : Int))) rfl a238_27)) ?_
      refine wpR_q 8 (by kernel_rfl) rfl (quietAt rfl rfl (q_indexRd (k := i2) rfl Try.underlying22 el_Int_3_StepR1 rfl rfl (hS237.rdl 3 rfl) (by omega) (by omega))) ?_
      refine wpR_q 9 (by kernel_rfl) rfl (quietAt rfl rfl (q_loadInt (k := i2) rfl rfl el_Int_3_StepR1 (hS237.rdl 3 rfl) (by omega) (labU_sub [] rfl (List.forall_mem_nil _)))) ?_
      refine wpR_q 10 (by kernel_rfl) rfl (quietAt rfl rfl (q_add rfl rfl rfl (by constructor <;> omega))) ?_
      refine wpR_q 11 (by kernel_rfl) rfl (quietAt rfl rfl (q_add rfl rfl rfl (by constructor <;> omega))) ?_
      refine wpR_n [12] (by kernel_rfl) ?_
      refine List.forall_mem_cons.2 ⟨?_, List.forall_mem_nil _⟩
      refine exE rfl rfl ?_
      refine e_buildSlice (vs := [I (((n * q.Facts) + (nth q.Goal i2)) + 1)]) (xs := ([((n * q.Facts) + (nth q.Goal i2)) + 1] : List Int)) rfl Try.underlying22 Try.zeroValue3 rfl Try.sizeOf3 (par1 (v0 := I (((n * q.Facts) + (nth q.Goal i2)) + 1)) rfl) rfl hS237 (RdVs.cons (Rd.int.2 ⟨rfl, by first | assumption | (constructor <;> omega)⟩) (RdVs.nil)) (by decide) (by decide) (fun v240o12 H240o12 hS240o12 hxx hvv240o12 => ?_)
      replace hS240o12 : St H0 NoB (fun b => S b ∧ b < H0.size) [rowE 3 v240o12 ([((n * q.Facts) + (nth q.Goal i2)) + 1] : List Int), rowE 22 v9 (c9 : List (List Int)), blkE g1 (.cells #[I (q.Facts), vf, vg, va] 25), rdE vf q.First, rdE vg q.Goal, rdE va q.Acts] H240o12 := hS240o12
      refine ⟨Ext.mono hxx (fun _ h => h.elim), ?_⟩
      refine wpR_n [13] (by kernel_rfl) ?_
      refine List.forall_mem_cons.2 ⟨?_, List.forall_mem_nil _⟩
      have hS240o13 : St H0 NoB (fun b => S b ∧ b < H0.size) [rdE v240o12 ([((n * q.Facts) + (nth q.Goal i2)) + 1] : List Int), rowE 22 v9 (c9 : List (List Int)), blkE g1 (.cells #[I (q.Facts), vf, vg, va] 25), rdE vf q.First, rdE vg q.Goal, rdE va q.Acts] H240o12 := St.fin hS240o12
      refine exE rfl rfl ?_
      refine e_buildSlice (vs := [v240o12]) (xs := ([[((n * q.Facts) + (nth q.Goal i2)) + 1]] : List (List Int))) rfl Try.underlying56 Try.zeroValue22 rfl Try.sizeOf22 (par1 (v0 := v240o12) rfl) rfl hS240o13 (RdVs.cons (hS240o13.rdS 0 rfl) (RdVs.nil)) (by decide) (by decide) (fun v240o13 H240o13 hS240o13x2 hxx hvv240o13 => ?_)
      replace hS240o13x2 : St H0 NoB (fun b => S b ∧ b < H0.size) [rowE 22 v240o13 ([[((n * q.Facts) + (nth q.Goal i2)) + 1]] : List (List Int)), rdE v240o12 ([((n * q.Facts) + (nth q.Goal i2)) + 1] : List Int), rowE 22 v9 (c9 : List (List Int)), blkE g1 (.cells #[I (q.Facts), vf, vg, va] 25), rdE vf q.First, rdE vg q.Goal, rdE va q.Acts] H240o13 := hS240o13x2
      refine ⟨Ext.mono hxx (fun _ h => h.elim), ?_⟩
      refine wpR_n [14] (by kernel_rfl) ?_
      refine List.forall_mem_cons.2 ⟨?_, List.forall_mem_nil _⟩
      have hS240o14 : St H0 NoB (fun b => S b ∧ b < H0.size) [rdE v240o13 ([[((n * q.Facts) + (nth q.Goal i2)) + 1]] : List (List Int)), rdE v240o12 ([((n * q.Facts) + (nth q.Goal i2)) + 1] : List Int), rowE 22 v9 (c9 : List (List Int)), blkE g1 (.cells #[I (q.Facts), vf, vg, va] 25), rdE vf q.First, rdE vg q.Goal, rdE va q.Acts] H240o13 := St.fin hS240o13x2
      have hS240o14x2 : St H0 NoB (fun b => S b ∧ b < H0.size) [rowE 22 v9 (c9 : List (List Int)), rdE v240o13 ([[((n * q.Facts) + (nth q.Goal i2)) + 1]] : List (List Int)), rdE v240o12 ([((n * q.Facts) + (nth q.Goal i2)) + 1] : List Int), blkE g1 (.cells #[I (q.Facts), vf, vg, va] 25), rdE vf q.First, rdE vg q.Goal, rdE va q.Acts] H240o13 := (hS240o14.front 2 rfl)
      refine exE rfl rfl ?_
      refine e_append rfl Try.underlying56 em_LInt_22_StepR1 rfl rfl hS240o14x2 (hS240o14x2.rdS 1 rfl) (fun _ h => h) (by have hb : GoT.bytes (List Int) = 24 := rfl; simp [hb]; omega) (by decide) (fun v240o14 H240o14 hS240o14x3 hxx => ?_)
      replace hS240o14x3 : St H0 NoB (fun b => S b ∧ b < H0.size) [rowE 22 v240o14 (c9 ++ ([[((n * q.Facts) + (nth q.Goal i2)) + 1]]) : List (List Int)), rdE v240o13 ([[((n * q.Facts) + (nth q.Goal i2)) + 1]] : List (List Int)), rdE v240o12 ([((n * q.Facts) + (nth q.Goal i2)) + 1] : List Int), blkE g1 (.cells #[I (q.Facts), vf, vg, va] 25), rdE vf q.First, rdE vg q.Goal, rdE va q.Acts] H240o14 := hS240o14x3
      refine ⟨Ext.mono hxx (labS_of 0 rfl (fun _ _ => trivial)), ?_⟩
      refine wpR_q 15 (by kernel_rfl) rfl (quietAt rfl rfl (q_assign (v := v240o14) rfl rfl)) ?_
      refine wpR_end (by kernel_rfl) ?_
      exact ⟨v240o14, a238_1, a238_2, rfl, a238_27, (hS240o14x3.drop (sk (sn (sn (sk (sk (sk (sk (List.Sublist.slnil)))))))))⟩
    rintro f241 H241 ⟨v240o14, a241_1, a241_2, a241_5, a241_27, hS241⟩
    clear a238_1 a238_2 a238_27 a238_315 a238_5
    refine wpF_cut (fun f H => f 1 = I (n) ∧ f 2 = PT g1 0 ∧ f 5 = v240o14 ∧ f 27 = I ((i2 : Int) + 1) ∧ H241 = H) ?_ ?_
    · refine wpF_region ?_
      refine wpL_q (U := NoB) rfl (q_move (v := I ((i2 : Int))) rfl a241_27) ?_
      refine wpL_q (U := NoB) rfl (q_add rfl rfl rfl (by constructor <;> omega)) ?_
      refine wpL_q (U := NoB) rfl (q_assign (v := I ((i2 : Int) + 1)) rfl rfl) ?_
      exact ⟨a241_1, a241_2, a241_5, rfl, rfl⟩
    rintro f242 _ ⟨a242_1, a242_2, a242_5, a242_27, rfl⟩
    clear a241_1 a241_2 a241_27 a241_5
    refine ⟨_, ?_, i2 + 1, c9 ++ ([[((n * q.Facts) + (nth q.Goal i2)) + 1]]), v240o14, rfl, (by omega), (by rw [e2, cGoal_next (by omega), List.append_assoc]; first | done | rfl), (by rw [List.length_append, List.length_singleton]; omega), a242_1, a242_2, a242_5, (Eq.trans a242_27 (congrArg I (by omega))), (show St H0 NoB (fun b => S b ∧ b < H0.size) [rowE 22 v240o14 ((c9 ++ ([[((n * q.Facts) + (nth q.Goal i2)) + 1]])) : List (List Int)), blkE g1 (.cells #[I (q.Facts), vf, vg, va] 25), rdE vf q.First, rdE vg q.Goal, rdE va q.Acts] H241 from hS241)⟩
    omega
  have har0 := act_rng hQ (a := 0) hn (by omega) (show 0 ≤ (u : Int) ∧ (u : Int) ≤ 21 by omega)
  have hf1 := fact_rng hQ (f := 0) (t := (u : Int)) (by omega) (by omega)
  have hf2 := fact_rng hQ (f := 0) (t := (u : Int) + 1) (by omega) (by omega)
  have htl := timeC_len (n := n) (t := (u : Int)) hQ
  refine wpF_skip ?_
  refine wpF_seq ?_
  refine wpF_block ?_
  refine wpF_seq ?_
  refine wpF_cut (fun f H => f 1 = I (n) ∧ f 2 = PT g1 0 ∧ f 5 = vu ∧ f 6 = I ((q.Acts.length : Int)) ∧ f 7 = I ((n + 1) * q.Facts) ∧ f 9 = I ((u : Int)) ∧ f 10 = (Value.slice none 0 0) ∧ H48 = H) ?_ ?_
  · refine wpF_region ?_
    refine wpL_q (U := NoB) rfl (q_assign (v := (Value.slice none 0 0)) rfl rfl) ?_
    exact ⟨a49_1, a49_2, a49_5, a49_6, a49_7, a49_9, rfl, rfl⟩
  rintro f51 _ ⟨a51_1, a51_2, a51_5, a51_6, a51_7, a51_9, a51_10, rfl⟩
  clear a49_1 a49_2 a49_5 a49_6 a49_61 a49_7 a49_9
  have hS52 : St H0 NoB (fun b => S b ∧ b < H0.size) [rowE 3 (Value.slice none 0 0) ([] : List Int), rowE 22 vu (cu : List (List Int)), blkE g1 (.cells #[I (q.Facts), vf, vg, va] 25), rdE vf q.First, rdE vg q.Goal, rdE va q.Acts] H48 := hS48.row0 3
  refine wpF_seq ?_
  refine wpF_seq ?_
  refine wpF_cut (fun f H => f 1 = I (n) ∧ f 2 = PT g1 0 ∧ f 5 = vu ∧ f 6 = I ((q.Acts.length : Int)) ∧ f 7 = I ((n + 1) * q.Facts) ∧ f 9 = I ((u : Int)) ∧ f 10 = (Value.slice none 0 0) ∧ f 11 = I (0) ∧ H48 = H) ?_ ?_
  · refine wpF_region ?_
    refine wpL_q (U := NoB) rfl (q_assign (v := I (0)) rfl rfl) ?_
    exact ⟨a51_1, a51_2, a51_5, a51_6, a51_7, a51_9, a51_10, rfl, rfl⟩
  rintro f53 _ ⟨a53_1, a53_2, a53_5, a53_6, a53_7, a53_9, a53_10, a53_11, rfl⟩
  clear a51_1 a51_10 a51_2 a51_5 a51_6 a51_7 a51_9
  refine wpF_block ?_
  refine wpF_loop (fun mz f H => ∃ (kk : Nat), ∃ (vr : Value), mz = q.Acts.length - kk ∧ (kk ≤ q.Acts.length) ∧ f 1 = I (n) ∧ f 2 = PT g1 0 ∧ f 5 = vu ∧ f 6 = I ((q.Acts.length : Int)) ∧ f 7 = I ((n + 1) * q.Facts) ∧ f 9 = I ((u : Int)) ∧ f 10 = vr ∧ f 11 = I ((kk : Int)) ∧ St H0 NoB (fun b => S b ∧ b < H0.size) [rowE 3 vr (tAll q n (u : Int) kk : List Int), rowE 22 vu (cu : List (List Int)), blkE g1 (.cells #[I (q.Facts), vf, vg, va] 25), rdE vf q.First, rdE vg q.Goal, rdE va q.Acts] H) (q.Acts.length - 0) ?_ ?_
  · exact ⟨0, (Value.slice none 0 0), rfl, Nat.zero_le _, a53_1, a53_2, a53_5, a53_6, a53_7, a53_9, a53_10, (Eq.trans a53_11 (congrArg I (by omega))), (show St H0 NoB (fun b => S b ∧ b < H0.size) [rowE 3 (Value.slice none 0 0) (tAll q n (u : Int) 0 : List Int), rowE 22 vu (cu : List (List Int)), blkE g1 (.cells #[I (q.Facts), vf, vg, va] 25), rdE vf q.First, rdE vg q.Goal, rdE va q.Acts] H48 from hS52)⟩
  intro m54 f54 H54 hI54
  obtain ⟨kk, vr, hm54, hkk, a54_1, a54_2, a54_5, a54_6, a54_7, a54_9, a54_10, a54_11, hS54⟩ := hI54
  clear a53_1 a53_10 a53_11 a53_2 a53_5 a53_6 a53_7 a53_9
  refine wpF_seq ?_
  refine wpF_seq ?_
  refine wpF_cut (fun f H => f 1 = I (n) ∧ f 2 = PT g1 0 ∧ f 5 = vu ∧ f 6 = I ((q.Acts.length : Int)) ∧ f 7 = I ((n + 1) * q.Facts) ∧ f 9 = I ((u : Int)) ∧ f 10 = vr ∧ f 11 = I ((kk : Int)) ∧ f 66 = B (decide ((kk : Int) < (q.Acts.length : Int))) ∧ H54 = H) ?_ ?_
  · refine wpF_region ?_
    refine wpL_q (U := NoB) rfl (q_move (v := I ((kk : Int))) rfl a54_11) ?_
    refine wpL_q (U := NoB) rfl (q_move (v := I ((q.Acts.length : Int))) rfl a54_6) ?_
    refine wpL_q (U := NoB) rfl (q_lss rfl rfl rfl) ?_
    exact ⟨a54_1, a54_2, a54_5, a54_6, a54_7, a54_9, a54_10, a54_11, rfl, rfl⟩
  rintro f55 _ ⟨a55_1, a55_2, a55_5, a55_6, a55_7, a55_9, a55_10, a55_11, a55_66, rfl⟩
  clear a54_1 a54_10 a54_11 a54_2 a54_5 a54_6 a54_7 a54_9
  refine wpF_condP a55_66 (fun c66 => ?t235) (fun c66 => ?e235)
  case t235 =>
    have hal := tAll_len (q := q) (n := n) (t := (u : Int)) (k := kk)
    refine wpF_skip ?_
    refine wpF_seq ?_
    refine wpF_block ?_
    refine wpF_cut (fun f H => ∃ (v62 : Value), f 1 = I (n) ∧ f 2 = PT g1 0 ∧ f 5 = vu ∧ f 6 = I ((q.Acts.length : Int)) ∧ f 7 = I ((n + 1) * q.Facts) ∧ f 9 = I ((u : Int)) ∧ f 10 = v62 ∧ f 11 = I ((kk : Int)) ∧ St H0 NoB (fun b => S b ∧ b < H0.size) [rowE 3 v62 (tAll q n (u : Int) (kk + 1) : List Int), rowE 22 vu (cu : List (List Int)), blkE g1 (.cells #[I (q.Facts), vf, vg, va] 25), rdE vf q.First, rdE vg q.Goal, rdE va q.Acts] H) ?_ ?_
    · refine wpF_region ?_
      refine wpL_q (U := NoB) rfl (q_move (v := vr) rfl a55_10) ?_
      refine wpL_q (U := NoB) rfl (q_move (v := I ((n + 1) * q.Facts)) rfl a55_7) ?_
      refine wpL_q (U := NoB) rfl (q_move (v := I ((u : Int))) rfl a55_9) ?_
      refine wpL_q (U := NoB) rfl (q_move (v := I ((q.Acts.length : Int))) rfl a55_6) ?_
      refine wpL_q (U := NoB) rfl (q_mul rfl rfl rfl (by constructor <;> omega)) ?_
      refine wpL_q (U := NoB) rfl (q_add rfl rfl rfl (by constructor <;> omega)) ?_
      refine wpL_q (U := NoB) rfl (q_move (v := I ((kk : Int))) rfl a55_11) ?_
      refine wpL_q (U := NoB) rfl (q_add rfl rfl rfl (by constructor <;> omega)) ?_
      refine wpL_q (U := NoB) rfl (q_add rfl rfl rfl (by constructor <;> omega)) ?_
      refine wpL_o rfl ?_
      refine e_buildSlice (vs := [I (((((n + 1) * q.Facts) + ((u : Int) * (q.Acts.length : Int))) + (kk : Int)) + 1)]) (xs := ([((((n + 1) * q.Facts) + ((u : Int) * (q.Acts.length : Int))) + (kk : Int)) + 1] : List Int)) rfl Try.underlying22 Try.zeroValue3 rfl Try.sizeOf3 (par1 (v0 := I (((((n + 1) * q.Facts) + ((u : Int) * (q.Acts.length : Int))) + (kk : Int)) + 1)) rfl) rfl hS54 (RdVs.cons (Rd.int.2 ⟨rfl, by first | assumption | (constructor <;> omega)⟩) (RdVs.nil)) (by decide) (by decide) (fun v57 H58 hS59 hxx hvv57 => ?_)
      replace hS59 : St H0 NoB (fun b => S b ∧ b < H0.size) [rowE 3 v57 ([((((n + 1) * q.Facts) + ((u : Int) * (q.Acts.length : Int))) + (kk : Int)) + 1] : List Int), rowE 3 vr (tAll q n (u : Int) kk : List Int), rowE 22 vu (cu : List (List Int)), blkE g1 (.cells #[I (q.Facts), vf, vg, va] 25), rdE vf q.First, rdE vg q.Goal, rdE va q.Acts] H58 := hS59
      have hS60 : St H0 NoB (fun b => S b ∧ b < H0.size) [rdE v57 ([((((n + 1) * q.Facts) + ((u : Int) * (q.Acts.length : Int))) + (kk : Int)) + 1] : List Int), rowE 3 vr (tAll q n (u : Int) kk : List Int), rowE 22 vu (cu : List (List Int)), blkE g1 (.cells #[I (q.Facts), vf, vg, va] 25), rdE vf q.First, rdE vg q.Goal, rdE va q.Acts] H58 := St.fin hS59
      have hS61 : St H0 NoB (fun b => S b ∧ b < H0.size) [rowE 3 vr (tAll q n (u : Int) kk : List Int), rdE v57 ([((((n + 1) * q.Facts) + ((u : Int) * (q.Acts.length : Int))) + (kk : Int)) + 1] : List Int), rowE 22 vu (cu : List (List Int)), blkE g1 (.cells #[I (q.Facts), vf, vg, va] 25), rdE vf q.First, rdE vg q.Goal, rdE va q.Acts] H58 := (hS60.front 1 rfl)
      refine wpL_o rfl ?_
      refine e_append rfl Try.underlying22 em_Int_3_StepR1 rfl rfl hS61 (hS61.rdS 1 rfl) (fun _ h => h) (by have hb : GoT.bytes Int = 8 := rfl; simp [hb]; omega) (by decide) (fun v62 H63 hS64 hxx => ?_)
      replace hS64 : St H0 NoB (fun b => S b ∧ b < H0.size) [rowE 3 v62 ((tAll q n (u : Int) kk) ++ ([((((n + 1) * q.Facts) + ((u : Int) * (q.Acts.length : Int))) + (kk : Int)) + 1]) : List Int), rdE v57 ([((((n + 1) * q.Facts) + ((u : Int) * (q.Acts.length : Int))) + (kk : Int)) + 1] : List Int), rowE 22 vu (cu : List (List Int)), blkE g1 (.cells #[I (q.Facts), vf, vg, va] 25), rdE vf q.First, rdE vg q.Goal, rdE va q.Acts] H63 := hS64
      have hS65 : St H0 NoB (fun b => S b ∧ b < H0.size) [rowE 3 v62 (tAll q n (u : Int) (kk + 1) : List Int), rdE v57 ([((((n + 1) * q.Facts) + ((u : Int) * (q.Acts.length : Int))) + (kk : Int)) + 1] : List Int), rowE 22 vu (cu : List (List Int)), blkE g1 (.cells #[I (q.Facts), vf, vg, va] 25), rdE vf q.First, rdE vg q.Goal, rdE va q.Acts] H63 := by rw [show (tAll q n (u : Int) (kk + 1)) = ((tAll q n (u : Int) kk) ++ ([((((n + 1) * q.Facts) + ((u : Int) * (q.Acts.length : Int))) + (kk : Int)) + 1])) from tAll_next]; exact hS64
      refine wpL_q (U := NoB) rfl (q_assign (v := v62) rfl rfl) ?_
      exact ⟨v62, a55_1, a55_2, a55_5, a55_6, a55_7, a55_9, rfl, a55_11, (hS65.drop (sk (sn (sk (sk (sk (sk (sk (List.Sublist.slnil)))))))))⟩
    rintro f66 H66 ⟨v62, a66_1, a66_2, a66_5, a66_6, a66_7, a66_9, a66_10, a66_11, hS66⟩
    clear a55_1 a55_10 a55_11 a55_2 a55_5 a55_6 a55_66 a55_7 a55_9
    refine wpF_cut (fun f H => f 1 = I (n) ∧ f 2 = PT g1 0 ∧ f 5 = vu ∧ f 6 = I ((q.Acts.length : Int)) ∧ f 7 = I ((n + 1) * q.Facts) ∧ f 9 = I ((u : Int)) ∧ f 10 = v62 ∧ f 11 = I ((kk : Int) + 1) ∧ H66 = H) ?_ ?_
    · refine wpF_region ?_
      refine wpL_q (U := NoB) rfl (q_move (v := I ((kk : Int))) rfl a66_11) ?_
      refine wpL_q (U := NoB) rfl (q_add rfl rfl rfl (by constructor <;> omega)) ?_
      refine wpL_q (U := NoB) rfl (q_assign (v := I ((kk : Int) + 1)) rfl rfl) ?_
      exact ⟨a66_1, a66_2, a66_5, a66_6, a66_7, a66_9, a66_10, rfl, rfl⟩
    rintro f67 _ ⟨a67_1, a67_2, a67_5, a67_6, a67_7, a67_9, a67_10, a67_11, rfl⟩
    clear a66_1 a66_10 a66_11 a66_2 a66_5 a66_6 a66_7 a66_9
    refine ⟨_, ?_, kk + 1, v62, rfl, (by omega), a67_1, a67_2, a67_5, a67_6, a67_7, a67_9, a67_10, (Eq.trans a67_11 (congrArg I (by omega))), hS66⟩
    omega
  obtain rfl : kk = q.Acts.length := by omega
  refine wpF_exit ?_
  refine atX_here ?_
  refine wpF_seq ?_
  refine wpF_cut (fun f H => ∃ (v74 : Value), f 1 = I (n) ∧ f 2 = PT g1 0 ∧ f 5 = v74 ∧ f 6 = I ((q.Acts.length : Int)) ∧ f 7 = I ((n + 1) * q.Facts) ∧ f 9 = I ((u : Int)) ∧ St H0 NoB (fun b => S b ∧ b < H0.size) [rowE 22 v74 (cu ++ ([tAll q n (u : Int) q.Acts.length]) : List (List Int)), blkE g1 (.cells #[I (q.Facts), vf, vg, va] 25), rdE vf q.First, rdE vg q.Goal, rdE va q.Acts] H) ?_ ?_
  · refine wpF_region ?_
    refine wpL_q (U := NoB) rfl (q_move (v := vu) rfl a55_5) ?_
    refine wpL_q (U := NoB) rfl (q_move (v := vr) rfl a55_10) ?_
    have hS68 : St H0 NoB (fun b => S b ∧ b < H0.size) [rdE vr (tAll q n (u : Int) q.Acts.length), rowE 22 vu (cu : List (List Int)), blkE g1 (.cells #[I (q.Facts), vf, vg, va] 25), rdE vf q.First, rdE vg q.Goal, rdE va q.Acts] H54 := St.fin hS54
    refine wpL_o rfl ?_
    refine e_buildSlice (vs := [vr]) (xs := ([tAll q n (u : Int) q.Acts.length] : List (List Int))) rfl Try.underlying56 Try.zeroValue22 rfl Try.sizeOf22 (par1 (v0 := vr) rfl) rfl hS68 (RdVs.cons (hS68.rdS 0 rfl) (RdVs.nil)) (by decide) (by decide) (fun v69 H70 hS71 hxx hvv69 => ?_)
    replace hS71 : St H0 NoB (fun b => S b ∧ b < H0.size) [rowE 22 v69 ([tAll q n (u : Int) q.Acts.length] : List (List Int)), rdE vr (tAll q n (u : Int) q.Acts.length), rowE 22 vu (cu : List (List Int)), blkE g1 (.cells #[I (q.Facts), vf, vg, va] 25), rdE vf q.First, rdE vg q.Goal, rdE va q.Acts] H70 := hS71
    have hS72 : St H0 NoB (fun b => S b ∧ b < H0.size) [rdE v69 ([tAll q n (u : Int) q.Acts.length] : List (List Int)), rdE vr (tAll q n (u : Int) q.Acts.length), rowE 22 vu (cu : List (List Int)), blkE g1 (.cells #[I (q.Facts), vf, vg, va] 25), rdE vf q.First, rdE vg q.Goal, rdE va q.Acts] H70 := St.fin hS71
    have hS73 : St H0 NoB (fun b => S b ∧ b < H0.size) [rowE 22 vu (cu : List (List Int)), rdE v69 ([tAll q n (u : Int) q.Acts.length] : List (List Int)), rdE vr (tAll q n (u : Int) q.Acts.length), blkE g1 (.cells #[I (q.Facts), vf, vg, va] 25), rdE vf q.First, rdE vg q.Goal, rdE va q.Acts] H70 := (hS72.front 2 rfl)
    refine wpL_o rfl ?_
    refine e_append rfl Try.underlying56 em_LInt_22_StepR1 rfl rfl hS73 (hS73.rdS 1 rfl) (fun _ h => h) (by have hb : GoT.bytes (List Int) = 24 := rfl; simp [hb]; omega) (by decide) (fun v74 H75 hS76 hxx => ?_)
    replace hS76 : St H0 NoB (fun b => S b ∧ b < H0.size) [rowE 22 v74 (cu ++ ([tAll q n (u : Int) q.Acts.length]) : List (List Int)), rdE v69 ([tAll q n (u : Int) q.Acts.length] : List (List Int)), rdE vr (tAll q n (u : Int) q.Acts.length), blkE g1 (.cells #[I (q.Facts), vf, vg, va] 25), rdE vf q.First, rdE vg q.Goal, rdE va q.Acts] H75 := hS76
    refine wpL_q (U := NoB) rfl (q_assign (v := v74) rfl rfl) ?_
    exact ⟨v74, a55_1, a55_2, rfl, a55_6, a55_7, a55_9, (hS76.drop (sk (sn (sn (sk (sk (sk (sk (List.Sublist.slnil)))))))))⟩
  rintro f77 H77 ⟨v74, a77_1, a77_2, a77_5, a77_6, a77_7, a77_9, hS77⟩
  clear a55_1 a55_10 a55_11 a55_2 a55_5 a55_6 a55_66 a55_7 a55_9
  refine wpF_seq ?_
  refine wpF_seq ?_
  refine wpF_cut (fun f H => f 1 = I (n) ∧ f 2 = PT g1 0 ∧ f 5 = v74 ∧ f 6 = I ((q.Acts.length : Int)) ∧ f 7 = I ((n + 1) * q.Facts) ∧ f 9 = I ((u : Int)) ∧ f 12 = I (0) ∧ H77 = H) ?_ ?_
  · refine wpF_region ?_
    refine wpL_q (U := NoB) rfl (q_assign (v := I (0)) rfl rfl) ?_
    exact ⟨a77_1, a77_2, a77_5, a77_6, a77_7, a77_9, rfl, rfl⟩
  rintro f78 _ ⟨a78_1, a78_2, a78_5, a78_6, a78_7, a78_9, a78_12, rfl⟩
  clear a77_1 a77_2 a77_5 a77_6 a77_7 a77_9
  refine wpF_block ?_
  refine wpF_loop (fun mz f H => ∃ (a : Nat), ∃ (c1 : List (List Int)), ∃ (v1 : Value), mz = q.Acts.length - a ∧ (a ≤ q.Acts.length) ∧ (c1.length ≤ cu.length + 1 + 20 * a) ∧ (c1 = cu ++ [tAll q n (u : Int) q.Acts.length] ++ tPairs q n (u : Int) a) ∧ f 1 = I (n) ∧ f 2 = PT g1 0 ∧ f 5 = v1 ∧ f 6 = I ((q.Acts.length : Int)) ∧ f 7 = I ((n + 1) * q.Facts) ∧ f 9 = I ((u : Int)) ∧ f 12 = I ((a : Int)) ∧ St H0 NoB (fun b => S b ∧ b < H0.size) [rowE 22 v1 (c1 : List (List Int)), blkE g1 (.cells #[I (q.Facts), vf, vg, va] 25), rdE vf q.First, rdE vg q.Goal, rdE va q.Acts] H) (q.Acts.length - 0) ?_ ?_
  · exact ⟨0, cu ++ ([tAll q n (u : Int) q.Acts.length]), v74, rfl, Nat.zero_le _, (by rw [List.length_append]; simp), (by simp [tPairs]), a78_1, a78_2, a78_5, a78_6, a78_7, a78_9, (Eq.trans a78_12 (congrArg I (by omega))), (show St H0 NoB (fun b => S b ∧ b < H0.size) [rowE 22 v74 ((cu ++ ([tAll q n (u : Int) q.Acts.length])) : List (List Int)), blkE g1 (.cells #[I (q.Facts), vf, vg, va] 25), rdE vf q.First, rdE vg q.Goal, rdE va q.Acts] H77 from hS77)⟩
  intro m79 f79 H79 hI79
  obtain ⟨a, c1, v1, hm79, ha, l2, h1, a79_1, a79_2, a79_5, a79_6, a79_7, a79_9, a79_12, hS79⟩ := hI79
  clear a78_1 a78_12 a78_2 a78_5 a78_6 a78_7 a78_9
  refine wpF_seq ?_
  refine wpF_seq ?_
  refine wpF_cut (fun f H => f 1 = I (n) ∧ f 2 = PT g1 0 ∧ f 5 = v1 ∧ f 6 = I ((q.Acts.length : Int)) ∧ f 7 = I ((n + 1) * q.Facts) ∧ f 9 = I ((u : Int)) ∧ f 12 = I ((a : Int)) ∧ f 86 = B (decide ((a : Int) < (q.Acts.length : Int))) ∧ H79 = H) ?_ ?_
  · refine wpF_region ?_
    refine wpL_q (U := NoB) rfl (q_move (v := I ((a : Int))) rfl a79_12) ?_
    refine wpL_q (U := NoB) rfl (q_move (v := I ((q.Acts.length : Int))) rfl a79_6) ?_
    refine wpL_q (U := NoB) rfl (q_lss rfl rfl rfl) ?_
    exact ⟨a79_1, a79_2, a79_5, a79_6, a79_7, a79_9, a79_12, rfl, rfl⟩
  rintro f80 _ ⟨a80_1, a80_2, a80_5, a80_6, a80_7, a80_9, a80_12, a80_86, rfl⟩
  clear a79_1 a79_12 a79_2 a79_5 a79_6 a79_7 a79_9
  refine wpF_condP a80_86 (fun c86 => ?t234) (fun c86 => ?e234)
  case t234 =>
    refine wpF_skip ?_
    refine wpF_seq ?_
    refine wpF_block ?_
    refine wpF_seq ?_
    refine wpF_cut (fun f H => f 1 = I (n) ∧ f 2 = PT g1 0 ∧ f 5 = v1 ∧ f 6 = I ((q.Acts.length : Int)) ∧ f 7 = I ((n + 1) * q.Facts) ∧ f 9 = I ((u : Int)) ∧ f 12 = I ((a : Int)) ∧ f 13 = I (0) ∧ H79 = H) ?_ ?_
    · refine wpF_region ?_
      refine wpL_q (U := NoB) rfl (q_assign (v := I (0)) rfl rfl) ?_
      exact ⟨a80_1, a80_2, a80_5, a80_6, a80_7, a80_9, a80_12, rfl, rfl⟩
    rintro f82 _ ⟨a82_1, a82_2, a82_5, a82_6, a82_7, a82_9, a82_12, a82_13, rfl⟩
    clear a80_1 a80_12 a80_2 a80_5 a80_6 a80_7 a80_86 a80_9
    refine wpF_block ?_
    refine wpF_loop (fun mz f H => ∃ (bb : Nat), ∃ (c2 : List (List Int)), ∃ (v2 : Value), mz = a - bb ∧ (bb ≤ a) ∧ (c2.length ≤ c1.length + bb) ∧ (c2 = c1 ++ tPair q n (u : Int) a bb) ∧ f 1 = I (n) ∧ f 2 = PT g1 0 ∧ f 5 = v2 ∧ f 6 = I ((q.Acts.length : Int)) ∧ f 7 = I ((n + 1) * q.Facts) ∧ f 9 = I ((u : Int)) ∧ f 12 = I ((a : Int)) ∧ f 13 = I ((bb : Int)) ∧ St H0 NoB (fun b => S b ∧ b < H0.size) [rowE 22 v2 (c2 : List (List Int)), blkE g1 (.cells #[I (q.Facts), vf, vg, va] 25), rdE vf q.First, rdE vg q.Goal, rdE va q.Acts] H) (a - 0) ?_ ?_
    · exact ⟨0, c1, v1, rfl, Nat.zero_le _, (Nat.le_refl _), (by simp [tPair]), a82_1, a82_2, a82_5, a82_6, a82_7, a82_9, a82_12, (Eq.trans a82_13 (congrArg I (by omega))), hS79⟩
    intro m83 f83 H83 hI83
    obtain ⟨bb, c2, v2, hm83, hb, l3, h2, a83_1, a83_2, a83_5, a83_6, a83_7, a83_9, a83_12, a83_13, hS83⟩ := hI83
    clear a82_1 a82_12 a82_13 a82_2 a82_5 a82_6 a82_7 a82_9
    refine wpF_seq ?_
    refine wpF_seq ?_
    refine wpF_cut (fun f H => f 1 = I (n) ∧ f 2 = PT g1 0 ∧ f 5 = v2 ∧ f 6 = I ((q.Acts.length : Int)) ∧ f 7 = I ((n + 1) * q.Facts) ∧ f 9 = I ((u : Int)) ∧ f 12 = I ((a : Int)) ∧ f 13 = I ((bb : Int)) ∧ f 91 = B (decide ((bb : Int) < (a : Int))) ∧ H83 = H) ?_ ?_
    · refine wpF_region ?_
      refine wpL_q (U := NoB) rfl (q_move (v := I ((bb : Int))) rfl a83_13) ?_
      refine wpL_q (U := NoB) rfl (q_move (v := I ((a : Int))) rfl a83_12) ?_
      refine wpL_q (U := NoB) rfl (q_lss rfl rfl rfl) ?_
      exact ⟨a83_1, a83_2, a83_5, a83_6, a83_7, a83_9, a83_12, a83_13, rfl, rfl⟩
    rintro f84 _ ⟨a84_1, a84_2, a84_5, a84_6, a84_7, a84_9, a84_12, a84_13, a84_91, rfl⟩
    clear a83_1 a83_12 a83_13 a83_2 a83_5 a83_6 a83_7 a83_9
    refine wpF_condP a84_91 (fun c91 => ?t101) (fun c91 => ?e101)
    case e101 =>
      have hba : bb = a := by omega
      rw [hba] at h2
      refine wpF_exit ?_
      refine atX_here ?_
      refine wpF_cut (fun f H => f 1 = I (n) ∧ f 2 = PT g1 0 ∧ f 5 = v2 ∧ f 6 = I ((q.Acts.length : Int)) ∧ f 7 = I ((n + 1) * q.Facts) ∧ f 9 = I ((u : Int)) ∧ f 12 = I ((a : Int) + 1) ∧ H83 = H) ?_ ?_
      · refine wpF_region ?_
        refine wpL_q (U := NoB) rfl (q_move (v := I ((a : Int))) rfl a84_12) ?_
        refine wpL_q (U := NoB) rfl (q_add rfl rfl rfl (by constructor <;> omega)) ?_
        refine wpL_q (U := NoB) rfl (q_assign (v := I ((a : Int) + 1)) rfl rfl) ?_
        exact ⟨a84_1, a84_2, a84_5, a84_6, a84_7, a84_9, rfl, rfl⟩
      rintro f100 _ ⟨a100_1, a100_2, a100_5, a100_6, a100_7, a100_9, a100_12, rfl⟩
      clear a84_1 a84_12 a84_13 a84_2 a84_5 a84_6 a84_7 a84_9 a84_91
      refine ⟨_, ?_, a + 1, c2, v2, rfl, (by omega), (by omega), (by rw [h2, h1, tPairs_next, List.append_assoc]), a100_1, a100_2, a100_5, a100_6, a100_7, a100_9, (Eq.trans a100_12 (congrArg I (by omega))), hS83⟩
      omega
    refine wpF_skip ?_
    refine wpF_seq ?_
    refine wpF_block ?_
    refine wpF_cut (fun f H => ∃ (v95 : Value), f 1 = I (n) ∧ f 2 = PT g1 0 ∧ f 5 = v95 ∧ f 6 = I ((q.Acts.length : Int)) ∧ f 7 = I ((n + 1) * q.Facts) ∧ f 9 = I ((u : Int)) ∧ f 12 = I ((a : Int)) ∧ f 13 = I ((bb : Int)) ∧ St H0 NoB (fun b => S b ∧ b < H0.size) [rowE 22 v95 (c2 ++ ([[-(((((n + 1) * q.Facts) + ((u : Int) * (q.Acts.length : Int))) + (bb : Int)) + 1), -(((((n + 1) * q.Facts) + ((u : Int) * (q.Acts.length : Int))) + (a : Int)) + 1)]]) : List (List Int)), blkE g1 (.cells #[I (q.Facts), vf, vg, va] 25), rdE vf q.First, rdE vg q.Goal, rdE va q.Acts] H) ?_ ?_
    · refine wpF_region ?_
      refine wpL_q (U := NoB) rfl (q_move (v := v2) rfl a84_5) ?_
      refine wpL_q (U := NoB) rfl (q_move (v := I ((n + 1) * q.Facts)) rfl a84_7) ?_
      refine wpL_q (U := NoB) rfl (q_move (v := I ((u : Int))) rfl a84_9) ?_
      refine wpL_q (U := NoB) rfl (q_move (v := I ((q.Acts.length : Int))) rfl a84_6) ?_
      refine wpL_q (U := NoB) rfl (q_mul rfl rfl rfl (by constructor <;> omega)) ?_
      refine wpL_q (U := NoB) rfl (q_add rfl rfl rfl (by constructor <;> omega)) ?_
      refine wpL_q (U := NoB) rfl (q_move (v := I ((bb : Int))) rfl a84_13) ?_
      refine wpL_q (U := NoB) rfl (q_add rfl rfl rfl (by constructor <;> omega)) ?_
      refine wpL_q (U := NoB) rfl (q_add rfl rfl rfl (by constructor <;> omega)) ?_
      refine wpL_q (U := NoB) rfl (q_neg rfl rfl (by constructor <;> omega)) ?_
      refine wpL_q (U := NoB) rfl (q_move (v := I ((n + 1) * q.Facts)) rfl a84_7) ?_
      refine wpL_q (U := NoB) rfl (q_move (v := I ((u : Int))) rfl a84_9) ?_
      refine wpL_q (U := NoB) rfl (q_move (v := I ((q.Acts.length : Int))) rfl a84_6) ?_
      refine wpL_q (U := NoB) rfl (q_mul rfl rfl rfl (by constructor <;> omega)) ?_
      refine wpL_q (U := NoB) rfl (q_add rfl rfl rfl (by constructor <;> omega)) ?_
      refine wpL_q (U := NoB) rfl (q_move (v := I ((a : Int))) rfl a84_12) ?_
      refine wpL_q (U := NoB) rfl (q_add rfl rfl rfl (by constructor <;> omega)) ?_
      refine wpL_q (U := NoB) rfl (q_add rfl rfl rfl (by constructor <;> omega)) ?_
      refine wpL_q (U := NoB) rfl (q_neg rfl rfl (by constructor <;> omega)) ?_
      refine wpL_o rfl ?_
      refine e_buildSlice (vs := [I (-(((((n + 1) * q.Facts) + ((u : Int) * (q.Acts.length : Int))) + (bb : Int)) + 1)), I (-(((((n + 1) * q.Facts) + ((u : Int) * (q.Acts.length : Int))) + (a : Int)) + 1))]) (xs := ([-(((((n + 1) * q.Facts) + ((u : Int) * (q.Acts.length : Int))) + (bb : Int)) + 1), -(((((n + 1) * q.Facts) + ((u : Int) * (q.Acts.length : Int))) + (a : Int)) + 1)] : List Int)) rfl Try.underlying22 Try.zeroValue3 rfl Try.sizeOf3 (par2 (v0 := I (-(((((n + 1) * q.Facts) + ((u : Int) * (q.Acts.length : Int))) + (bb : Int)) + 1))) (v1 := I (-(((((n + 1) * q.Facts) + ((u : Int) * (q.Acts.length : Int))) + (a : Int)) + 1))) rfl rfl) rfl hS83 (RdVs.cons (Rd.int.2 ⟨rfl, by first | assumption | (constructor <;> omega)⟩) (RdVs.cons (Rd.int.2 ⟨rfl, by first | assumption | (constructor <;> omega)⟩) (RdVs.nil))) (by decide) (by decide) (fun v86 H87 hS88 hxx hvv86 => ?_)
      replace hS88 : St H0 NoB (fun b => S b ∧ b < H0.size) [rowE 3 v86 ([-(((((n + 1) * q.Facts) + ((u : Int) * (q.Acts.length : Int))) + (bb : Int)) + 1), -(((((n + 1) * q.Facts) + ((u : Int) * (q.Acts.length : Int))) + (a : Int)) + 1)] : List Int), rowE 22 v2 (c2 : List (List Int)), blkE g1 (.cells #[I (q.Facts), vf, vg, va] 25), rdE vf q.First, rdE vg q.Goal, rdE va q.Acts] H87 := hS88
      have hS89 : St H0 NoB (fun b => S b ∧ b < H0.size) [rdE v86 ([-(((((n + 1) * q.Facts) + ((u : Int) * (q.Acts.length : Int))) + (bb : Int)) + 1), -(((((n + 1) * q.Facts) + ((u : Int) * (q.Acts.length : Int))) + (a : Int)) + 1)] : List Int), rowE 22 v2 (c2 : List (List Int)), blkE g1 (.cells #[I (q.Facts), vf, vg, va] 25), rdE vf q.First, rdE vg q.Goal, rdE va q.Acts] H87 := St.fin hS88
      refine wpL_o rfl ?_
      refine e_buildSlice (vs := [v86]) (xs := ([[-(((((n + 1) * q.Facts) + ((u : Int) * (q.Acts.length : Int))) + (bb : Int)) + 1), -(((((n + 1) * q.Facts) + ((u : Int) * (q.Acts.length : Int))) + (a : Int)) + 1)]] : List (List Int))) rfl Try.underlying56 Try.zeroValue22 rfl Try.sizeOf22 (par1 (v0 := v86) rfl) rfl hS89 (RdVs.cons (hS89.rdS 0 rfl) (RdVs.nil)) (by decide) (by decide) (fun v90 H91 hS92 hxx hvv90 => ?_)
      replace hS92 : St H0 NoB (fun b => S b ∧ b < H0.size) [rowE 22 v90 ([[-(((((n + 1) * q.Facts) + ((u : Int) * (q.Acts.length : Int))) + (bb : Int)) + 1), -(((((n + 1) * q.Facts) + ((u : Int) * (q.Acts.length : Int))) + (a : Int)) + 1)]] : List (List Int)), rdE v86 ([-(((((n + 1) * q.Facts) + ((u : Int) * (q.Acts.length : Int))) + (bb : Int)) + 1), -(((((n + 1) * q.Facts) + ((u : Int) * (q.Acts.length : Int))) + (a : Int)) + 1)] : List Int), rowE 22 v2 (c2 : List (List Int)), blkE g1 (.cells #[I (q.Facts), vf, vg, va] 25), rdE vf q.First, rdE vg q.Goal, rdE va q.Acts] H91 := hS92
      have hS93 : St H0 NoB (fun b => S b ∧ b < H0.size) [rdE v90 ([[-(((((n + 1) * q.Facts) + ((u : Int) * (q.Acts.length : Int))) + (bb : Int)) + 1), -(((((n + 1) * q.Facts) + ((u : Int) * (q.Acts.length : Int))) + (a : Int)) + 1)]] : List (List Int)), rdE v86 ([-(((((n + 1) * q.Facts) + ((u : Int) * (q.Acts.length : Int))) + (bb : Int)) + 1), -(((((n + 1) * q.Facts) + ((u : Int) * (q.Acts.length : Int))) + (a : Int)) + 1)] : List Int), rowE 22 v2 (c2 : List (List Int)), blkE g1 (.cells #[I (q.Facts), vf, vg, va] 25), rdE vf q.First, rdE vg q.Goal, rdE va q.Acts] H91 := St.fin hS92
      have hS94 : St H0 NoB (fun b => S b ∧ b < H0.size) [rowE 22 v2 (c2 : List (List Int)), rdE v90 ([[-(((((n + 1) * q.Facts) + ((u : Int) * (q.Acts.length : Int))) + (bb : Int)) + 1), -(((((n + 1) * q.Facts) + ((u : Int) * (q.Acts.length : Int))) + (a : Int)) + 1)]] : List (List Int)), rdE v86 ([-(((((n + 1) * q.Facts) + ((u : Int) * (q.Acts.length : Int))) + (bb : Int)) + 1), -(((((n + 1) * q.Facts) + ((u : Int) * (q.Acts.length : Int))) + (a : Int)) + 1)] : List Int), blkE g1 (.cells #[I (q.Facts), vf, vg, va] 25), rdE vf q.First, rdE vg q.Goal, rdE va q.Acts] H91 := (hS93.front 2 rfl)
      refine wpL_o rfl ?_
      refine e_append rfl Try.underlying56 em_LInt_22_StepR1 rfl rfl hS94 (hS94.rdS 1 rfl) (fun _ h => h) (by have hb : GoT.bytes (List Int) = 24 := rfl; simp [hb]; omega) (by decide) (fun v95 H96 hS97 hxx => ?_)
      replace hS97 : St H0 NoB (fun b => S b ∧ b < H0.size) [rowE 22 v95 (c2 ++ ([[-(((((n + 1) * q.Facts) + ((u : Int) * (q.Acts.length : Int))) + (bb : Int)) + 1), -(((((n + 1) * q.Facts) + ((u : Int) * (q.Acts.length : Int))) + (a : Int)) + 1)]]) : List (List Int)), rdE v90 ([[-(((((n + 1) * q.Facts) + ((u : Int) * (q.Acts.length : Int))) + (bb : Int)) + 1), -(((((n + 1) * q.Facts) + ((u : Int) * (q.Acts.length : Int))) + (a : Int)) + 1)]] : List (List Int)), rdE v86 ([-(((((n + 1) * q.Facts) + ((u : Int) * (q.Acts.length : Int))) + (bb : Int)) + 1), -(((((n + 1) * q.Facts) + ((u : Int) * (q.Acts.length : Int))) + (a : Int)) + 1)] : List Int), blkE g1 (.cells #[I (q.Facts), vf, vg, va] 25), rdE vf q.First, rdE vg q.Goal, rdE va q.Acts] H96 := hS97
      refine wpL_q (U := NoB) rfl (q_assign (v := v95) rfl rfl) ?_
      exact ⟨v95, a84_1, a84_2, rfl, a84_6, a84_7, a84_9, a84_12, a84_13, (hS97.drop (sk (sn (sn (sk (sk (sk (sk (List.Sublist.slnil)))))))))⟩
    rintro f98 H98 ⟨v95, a98_1, a98_2, a98_5, a98_6, a98_7, a98_9, a98_12, a98_13, hS98⟩
    clear a84_1 a84_12 a84_13 a84_2 a84_5 a84_6 a84_7 a84_9 a84_91
    refine wpF_cut (fun f H => f 1 = I (n) ∧ f 2 = PT g1 0 ∧ f 5 = v95 ∧ f 6 = I ((q.Acts.length : Int)) ∧ f 7 = I ((n + 1) * q.Facts) ∧ f 9 = I ((u : Int)) ∧ f 12 = I ((a : Int)) ∧ f 13 = I ((bb : Int) + 1) ∧ H98 = H) ?_ ?_
    · refine wpF_region ?_
      refine wpL_q (U := NoB) rfl (q_move (v := I ((bb : Int))) rfl a98_13) ?_
      refine wpL_q (U := NoB) rfl (q_add rfl rfl rfl (by constructor <;> omega)) ?_
      refine wpL_q (U := NoB) rfl (q_assign (v := I ((bb : Int) + 1)) rfl rfl) ?_
      exact ⟨a98_1, a98_2, a98_5, a98_6, a98_7, a98_9, a98_12, rfl, rfl⟩
    rintro f99 _ ⟨a99_1, a99_2, a99_5, a99_6, a99_7, a99_9, a99_12, a99_13, rfl⟩
    clear a98_1 a98_12 a98_13 a98_2 a98_5 a98_6 a98_7 a98_9
    refine ⟨_, ?_, bb + 1, c2 ++ ([[-(((((n + 1) * q.Facts) + ((u : Int) * (q.Acts.length : Int))) + (bb : Int)) + 1), -(((((n + 1) * q.Facts) + ((u : Int) * (q.Acts.length : Int))) + (a : Int)) + 1)]]), v95, rfl, (by omega), (by rw [List.length_append, List.length_singleton]; omega), (by rw [h2, tPair_next, List.append_assoc]; first | done | rfl), a99_1, a99_2, a99_5, a99_6, a99_7, a99_9, a99_12, (Eq.trans a99_13 (congrArg I (by omega))), (show St H0 NoB (fun b => S b ∧ b < H0.size) [rowE 22 v95 ((c2 ++ ([[-(((((n + 1) * q.Facts) + ((u : Int) * (q.Acts.length : Int))) + (bb : Int)) + 1), -(((((n + 1) * q.Facts) + ((u : Int) * (q.Acts.length : Int))) + (a : Int)) + 1)]])) : List (List Int)), blkE g1 (.cells #[I (q.Facts), vf, vg, va] 25), rdE vf q.First, rdE vg q.Goal, rdE va q.Acts] H98 from hS98)⟩
    omega
  have haK : a = q.Acts.length := by omega
  rw [haK] at h1
  refine wpF_exit ?_
  refine atX_here ?_
  refine wpF_seq ?_
  refine wpF_seq ?_
  refine wpF_cut (fun f H => f 1 = I (n) ∧ f 2 = PT g1 0 ∧ f 5 = v1 ∧ f 6 = I ((q.Acts.length : Int)) ∧ f 7 = I ((n + 1) * q.Facts) ∧ f 9 = I ((u : Int)) ∧ f 14 = I (0) ∧ H79 = H) ?_ ?_
  · refine wpF_region ?_
    refine wpL_q (U := NoB) rfl (q_assign (v := I (0)) rfl rfl) ?_
    exact ⟨a80_1, a80_2, a80_5, a80_6, a80_7, a80_9, rfl, rfl⟩
  rintro f102 _ ⟨a102_1, a102_2, a102_5, a102_6, a102_7, a102_9, a102_14, rfl⟩
  clear a80_1 a80_12 a80_2 a80_5 a80_6 a80_7 a80_86 a80_9
  refine wpF_block ?_
  refine wpF_loop (fun mz f H => ∃ (x : Nat), ∃ (c3 : List (List Int)), ∃ (v3 : Value), mz = q.Acts.length - x ∧ (x ≤ q.Acts.length) ∧ (c3.length ≤ c1.length + 100 * x) ∧ (c3 = c1 ++ tActs q n (u : Int) x) ∧ f 1 = I (n) ∧ f 2 = PT g1 0 ∧ f 5 = v3 ∧ f 6 = I ((q.Acts.length : Int)) ∧ f 7 = I ((n + 1) * q.Facts) ∧ f 9 = I ((u : Int)) ∧ f 14 = I ((x : Int)) ∧ St H0 NoB (fun b => S b ∧ b < H0.size) [rowE 22 v3 (c3 : List (List Int)), blkE g1 (.cells #[I (q.Facts), vf, vg, va] 25), rdE vf q.First, rdE vg q.Goal, rdE va q.Acts] H) (q.Acts.length - 0) ?_ ?_
  · exact ⟨0, c1, v1, rfl, Nat.zero_le _, (Nat.le_refl _), (by simp [tActs]), a102_1, a102_2, a102_5, a102_6, a102_7, a102_9, (Eq.trans a102_14 (congrArg I (by omega))), hS79⟩
  intro m103 f103 H103 hI103
  obtain ⟨x, c3, v3, hm103, hx, l4, h3, a103_1, a103_2, a103_5, a103_6, a103_7, a103_9, a103_14, hS103⟩ := hI103
  clear a102_1 a102_14 a102_2 a102_5 a102_6 a102_7 a102_9
  refine wpF_seq ?_
  refine wpF_seq ?_
  refine wpF_cut (fun f H => f 1 = I (n) ∧ f 2 = PT g1 0 ∧ f 5 = v3 ∧ f 6 = I ((q.Acts.length : Int)) ∧ f 7 = I ((n + 1) * q.Facts) ∧ f 9 = I ((u : Int)) ∧ f 14 = I ((x : Int)) ∧ f 118 = B (decide ((x : Int) < (q.Acts.length : Int))) ∧ H103 = H) ?_ ?_
  · refine wpF_region ?_
    refine wpL_q (U := NoB) rfl (q_move (v := I ((x : Int))) rfl a103_14) ?_
    refine wpL_q (U := NoB) rfl (q_move (v := I ((q.Acts.length : Int))) rfl a103_6) ?_
    refine wpL_q (U := NoB) rfl (q_lss rfl rfl rfl) ?_
    exact ⟨a103_1, a103_2, a103_5, a103_6, a103_7, a103_9, a103_14, rfl, rfl⟩
  rintro f104 _ ⟨a104_1, a104_2, a104_5, a104_6, a104_7, a104_9, a104_14, a104_118, rfl⟩
  clear a103_1 a103_14 a103_2 a103_5 a103_6 a103_7 a103_9
  refine wpF_condP a104_118 (fun c118 => ?t233) (fun c118 => ?e233)
  case e233 =>
    have hxK : x = q.Acts.length := by omega
    rw [hxK] at h3
    refine wpF_exit ?_
    refine atX_here ?_
    refine wpF_seq ?_
    refine wpF_cut (fun f H => f 1 = I (n) ∧ f 2 = PT g1 0 ∧ f 5 = v3 ∧ f 6 = I ((q.Acts.length : Int)) ∧ f 7 = I ((n + 1) * q.Facts) ∧ f 9 = I ((u : Int)) ∧ f 21 = I (0) ∧ H103 = H) ?_ ?_
    · refine wpF_region ?_
      refine wpL_q (U := NoB) rfl (q_assign (v := I (0)) rfl rfl) ?_
      exact ⟨a104_1, a104_2, a104_5, a104_6, a104_7, a104_9, rfl, rfl⟩
    rintro f152 _ ⟨a152_1, a152_2, a152_5, a152_6, a152_7, a152_9, a152_21, rfl⟩
    clear a104_1 a104_118 a104_14 a104_2 a104_5 a104_6 a104_7 a104_9
    refine wpF_block ?_
    refine wpF_loop (fun mz f H => ∃ (y : Nat), ∃ (c8 : List (List Int)), ∃ (v8 : Value), mz = q.Facts.toNat - y ∧ (y ≤ q.Facts.toNat) ∧ (c8.length ≤ c3.length + 2 * y) ∧ (c8 = c3 ++ tFrames q n (u : Int) y) ∧ f 1 = I (n) ∧ f 2 = PT g1 0 ∧ f 5 = v8 ∧ f 6 = I ((q.Acts.length : Int)) ∧ f 7 = I ((n + 1) * q.Facts) ∧ f 9 = I ((u : Int)) ∧ f 21 = I ((y : Int)) ∧ St H0 NoB (fun b => S b ∧ b < H0.size) [rowE 22 v8 (c8 : List (List Int)), blkE g1 (.cells #[I (q.Facts), vf, vg, va] 25), rdE vf q.First, rdE vg q.Goal, rdE va q.Acts] H) (q.Facts.toNat - 0) ?_ ?_
    · exact ⟨0, c3, v3, rfl, Nat.zero_le _, (Nat.le_refl _), (by simp [tFrames]), a152_1, a152_2, a152_5, a152_6, a152_7, a152_9, (Eq.trans a152_21 (congrArg I (by omega))), hS103⟩
    intro m153 f153 H153 hI153
    obtain ⟨y, c8, v8, hm153, hy, l8, h8, a153_1, a153_2, a153_5, a153_6, a153_7, a153_9, a153_21, hS153⟩ := hI153
    clear a152_1 a152_2 a152_21 a152_5 a152_6 a152_7 a152_9
    refine wpF_seq ?_
    refine wpF_seq ?_
    refine wpF_cut (fun f H => f 1 = I (n) ∧ f 2 = PT g1 0 ∧ f 5 = v8 ∧ f 6 = I ((q.Acts.length : Int)) ∧ f 7 = I ((n + 1) * q.Facts) ∧ f 9 = I ((u : Int)) ∧ f 21 = I ((y : Int)) ∧ f 234 = B (decide ((y : Int) < q.Facts)) ∧ H153 = H) ?_ ?_
    · refine wpF_region ?_
      refine wpL_q (U := NoB) rfl (q_move (v := I ((y : Int))) rfl a153_21) ?_
      refine wpL_q (U := NoB) rfl (q_fieldAddr rfl Try.underlying25 rfl Try.sizeOf3 a153_2) ?_
      refine wpL_q (U := NoB) rfl (q_loadBlk rfl rfl Try.isAgg3 (hS153.blk 1 rfl) rfl (fun h => h)) ?_
      refine wpL_q (U := NoB) rfl (q_lss rfl rfl rfl) ?_
      exact ⟨a153_1, a153_2, a153_5, a153_6, a153_7, a153_9, a153_21, rfl, rfl⟩
    rintro f154 _ ⟨a154_1, a154_2, a154_5, a154_6, a154_7, a154_9, a154_21, a154_234, rfl⟩
    clear a153_1 a153_2 a153_21 a153_5 a153_6 a153_7 a153_9
    refine wpF_condP a154_234 (fun c234 => ?t232) (fun c234 => ?e232)
    case e232 =>
      have hyF : y = q.Facts.toNat := by omega
      rw [hyF] at h8
      refine wpF_exit ?_
      refine atX_here ?_
      refine wpF_cut (fun f H => f 1 = I (n) ∧ f 2 = PT g1 0 ∧ f 5 = v8 ∧ f 6 = I ((q.Acts.length : Int)) ∧ f 7 = I ((n + 1) * q.Facts) ∧ f 9 = I ((u : Int) + 1) ∧ H153 = H) ?_ ?_
      · refine wpF_region ?_
        refine wpL_q (U := NoB) rfl (q_move (v := I ((u : Int))) rfl a154_9) ?_
        refine wpL_q (U := NoB) rfl (q_add rfl rfl rfl (by constructor <;> omega)) ?_
        refine wpL_q (U := NoB) rfl (q_assign (v := I ((u : Int) + 1)) rfl rfl) ?_
        exact ⟨a154_1, a154_2, a154_5, a154_6, a154_7, rfl, rfl⟩
      rintro f231 _ ⟨a231_1, a231_2, a231_5, a231_6, a231_7, a231_9, rfl⟩
      clear a154_1 a154_2 a154_21 a154_234 a154_5 a154_6 a154_7 a154_9
      refine ⟨_, ?_, u + 1, c8, v8, rfl, (by omega), (by rw [h8, h3, h1, e1, cTimes_next, timeC]; simp [List.append_assoc]), (by omega), a231_1, a231_2, a231_5, a231_6, a231_7, (Eq.trans a231_9 (congrArg I (by omega))), hS153⟩
      omega
    refine wpF_skip ?_
    refine wpF_seq ?_
    refine wpF_block ?_
    refine wpF_seq ?_
    refine wpF_cut (fun f H => f 1 = I (n) ∧ f 2 = PT g1 0 ∧ f 5 = v8 ∧ f 6 = I ((q.Acts.length : Int)) ∧ f 7 = I ((n + 1) * q.Facts) ∧ f 9 = I ((u : Int)) ∧ f 21 = I ((y : Int)) ∧ f 22 = I ((((u : Int) * q.Facts) + (y : Int)) + 1) ∧ H153 = H) ?_ ?_
    · refine wpF_region ?_
      refine wpL_q (U := NoB) rfl (q_move (v := I ((u : Int))) rfl a154_9) ?_
      refine wpL_q (U := NoB) rfl (q_fieldAddr rfl Try.underlying25 rfl Try.sizeOf3 a154_2) ?_
      refine wpL_q (U := NoB) rfl (q_loadBlk rfl rfl Try.isAgg3 (hS153.blk 1 rfl) rfl (fun h => h)) ?_
      refine wpL_q (U := NoB) rfl (q_mul rfl rfl rfl (by constructor <;> omega)) ?_
      refine wpL_q (U := NoB) rfl (q_move (v := I ((y : Int))) rfl a154_21) ?_
      refine wpL_q (U := NoB) rfl (q_add rfl rfl rfl (by constructor <;> omega)) ?_
      refine wpL_q (U := NoB) rfl (q_add rfl rfl rfl (by constructor <;> omega)) ?_
      refine wpL_q (U := NoB) rfl (q_assign (v := I ((((u : Int) * q.Facts) + (y : Int)) + 1)) rfl rfl) ?_
      exact ⟨a154_1, a154_2, a154_5, a154_6, a154_7, a154_9, a154_21, rfl, rfl⟩
    rintro f156 _ ⟨a156_1, a156_2, a156_5, a156_6, a156_7, a156_9, a156_21, a156_22, rfl⟩
    clear a154_1 a154_2 a154_21 a154_234 a154_5 a154_6 a154_7 a154_9
    refine wpF_seq ?_
    refine wpF_cut (fun f H => f 1 = I (n) ∧ f 2 = PT g1 0 ∧ f 5 = v8 ∧ f 6 = I ((q.Acts.length : Int)) ∧ f 7 = I ((n + 1) * q.Facts) ∧ f 9 = I ((u : Int)) ∧ f 21 = I ((y : Int)) ∧ f 22 = I ((((u : Int) * q.Facts) + (y : Int)) + 1) ∧ f 23 = I (((((u : Int) + 1) * q.Facts) + (y : Int)) + 1) ∧ H153 = H) ?_ ?_
    · refine wpF_region ?_
      refine wpL_q (U := NoB) rfl (q_move (v := I ((u : Int))) rfl a156_9) ?_
      refine wpL_q (U := NoB) rfl (q_add rfl rfl rfl (by constructor <;> omega)) ?_
      refine wpL_q (U := NoB) rfl (q_fieldAddr rfl Try.underlying25 rfl Try.sizeOf3 a156_2) ?_
      refine wpL_q (U := NoB) rfl (q_loadBlk rfl rfl Try.isAgg3 (hS153.blk 1 rfl) rfl (fun h => h)) ?_
      refine wpL_q (U := NoB) rfl (q_mul rfl rfl rfl (by constructor <;> omega)) ?_
      refine wpL_q (U := NoB) rfl (q_move (v := I ((y : Int))) rfl a156_21) ?_
      refine wpL_q (U := NoB) rfl (q_add rfl rfl rfl (by constructor <;> omega)) ?_
      refine wpL_q (U := NoB) rfl (q_add rfl rfl rfl (by constructor <;> omega)) ?_
      refine wpL_q (U := NoB) rfl (q_assign (v := I (((((u : Int) + 1) * q.Facts) + (y : Int)) + 1)) rfl rfl) ?_
      exact ⟨a156_1, a156_2, a156_5, a156_6, a156_7, a156_9, a156_21, a156_22, rfl, rfl⟩
    rintro f157 _ ⟨a157_1, a157_2, a157_5, a157_6, a157_7, a157_9, a157_21, a157_22, a157_23, rfl⟩
    clear a156_1 a156_2 a156_21 a156_22 a156_5 a156_6 a156_7 a156_9
    refine wpF_seq ?_
    refine wpF_cut (fun f H => ∃ (v158 : Value), f 1 = I (n) ∧ f 2 = PT g1 0 ∧ f 5 = v8 ∧ f 6 = I ((q.Acts.length : Int)) ∧ f 7 = I ((n + 1) * q.Facts) ∧ f 9 = I ((u : Int)) ∧ f 21 = I ((y : Int)) ∧ f 22 = I ((((u : Int) * q.Facts) + (y : Int)) + 1) ∧ f 23 = I (((((u : Int) + 1) * q.Facts) + (y : Int)) + 1) ∧ f 24 = v158 ∧ St H0 NoB (fun b => S b ∧ b < H0.size) [rowE 3 v158 ([(((u : Int) * q.Facts) + (y : Int)) + 1, -(((((u : Int) + 1) * q.Facts) + (y : Int)) + 1)] : List Int), rowE 22 v8 (c8 : List (List Int)), blkE g1 (.cells #[I (q.Facts), vf, vg, va] 25), rdE vf q.First, rdE vg q.Goal, rdE va q.Acts] H) ?_ ?_
    · refine wpF_region ?_
      refine wpL_q (U := NoB) rfl (q_move (v := I ((((u : Int) * q.Facts) + (y : Int)) + 1)) rfl a157_22) ?_
      refine wpL_q (U := NoB) rfl (q_move (v := I (((((u : Int) + 1) * q.Facts) + (y : Int)) + 1)) rfl a157_23) ?_
      refine wpL_q (U := NoB) rfl (q_neg rfl rfl (by constructor <;> omega)) ?_
      refine wpL_o rfl ?_
      refine e_buildSlice (vs := [I ((((u : Int) * q.Facts) + (y : Int)) + 1), I (-(((((u : Int) + 1) * q.Facts) + (y : Int)) + 1))]) (xs := ([(((u : Int) * q.Facts) + (y : Int)) + 1, -(((((u : Int) + 1) * q.Facts) + (y : Int)) + 1)] : List Int)) rfl Try.underlying22 Try.zeroValue3 rfl Try.sizeOf3 (par2 (v0 := I ((((u : Int) * q.Facts) + (y : Int)) + 1)) (v1 := I (-(((((u : Int) + 1) * q.Facts) + (y : Int)) + 1))) rfl rfl) rfl hS153 (RdVs.cons (Rd.int.2 ⟨rfl, by first | assumption | (constructor <;> omega)⟩) (RdVs.cons (Rd.int.2 ⟨rfl, by first | assumption | (constructor <;> omega)⟩) (RdVs.nil))) (by decide) (by decide) (fun v158 H159 hS160 hxx hvv158 => ?_)
      replace hS160 : St H0 NoB (fun b => S b ∧ b < H0.size) [rowE 3 v158 ([(((u : Int) * q.Facts) + (y : Int)) + 1, -(((((u : Int) + 1) * q.Facts) + (y : Int)) + 1)] : List Int), rowE 22 v8 (c8 : List (List Int)), blkE g1 (.cells #[I (q.Facts), vf, vg, va] 25), rdE vf q.First, rdE vg q.Goal, rdE va q.Acts] H159 := hS160
      refine wpL_q (U := NoB) rfl (q_assign (v := v158) rfl rfl) ?_
      exact ⟨v158, a157_1, a157_2, a157_5, a157_6, a157_7, a157_9, a157_21, a157_22, a157_23, rfl, hS160⟩
    rintro f161 H161 ⟨v158, a161_1, a161_2, a161_5, a161_6, a161_7, a161_9, a161_21, a161_22, a161_23, a161_24, hS161⟩
    clear a157_1 a157_2 a157_21 a157_22 a157_23 a157_5 a157_6 a157_7 a157_9
    refine wpF_seq ?_
    refine wpF_cut (fun f H => ∃ (v162 : Value), f 1 = I (n) ∧ f 2 = PT g1 0 ∧ f 5 = v8 ∧ f 6 = I ((q.Acts.length : Int)) ∧ f 7 = I ((n + 1) * q.Facts) ∧ f 9 = I ((u : Int)) ∧ f 21 = I ((y : Int)) ∧ f 24 = v158 ∧ f 25 = v162 ∧ St H0 NoB (fun b => S b ∧ b < H0.size) [rowE 3 v162 ([-((((u : Int) * q.Facts) + (y : Int)) + 1), ((((u : Int) + 1) * q.Facts) + (y : Int)) + 1] : List Int), rowE 3 v158 ([(((u : Int) * q.Facts) + (y : Int)) + 1, -(((((u : Int) + 1) * q.Facts) + (y : Int)) + 1)] : List Int), rowE 22 v8 (c8 : List (List Int)), blkE g1 (.cells #[I (q.Facts), vf, vg, va] 25), rdE vf q.First, rdE vg q.Goal, rdE va q.Acts] H) ?_ ?_
    · refine wpF_region ?_
      refine wpL_q (U := NoB) rfl (q_move (v := I ((((u : Int) * q.Facts) + (y : Int)) + 1)) rfl a161_22) ?_
      refine wpL_q (U := NoB) rfl (q_neg rfl rfl (by constructor <;> omega)) ?_
      refine wpL_q (U := NoB) rfl (q_move (v := I (((((u : Int) + 1) * q.Facts) + (y : Int)) + 1)) rfl a161_23) ?_
      refine wpL_o rfl ?_
      refine e_buildSlice (vs := [I (-((((u : Int) * q.Facts) + (y : Int)) + 1)), I (((((u : Int) + 1) * q.Facts) + (y : Int)) + 1)]) (xs := ([-((((u : Int) * q.Facts) + (y : Int)) + 1), ((((u : Int) + 1) * q.Facts) + (y : Int)) + 1] : List Int)) rfl Try.underlying22 Try.zeroValue3 rfl Try.sizeOf3 (par2 (v0 := I (-((((u : Int) * q.Facts) + (y : Int)) + 1))) (v1 := I (((((u : Int) + 1) * q.Facts) + (y : Int)) + 1)) rfl rfl) rfl hS161 (RdVs.cons (Rd.int.2 ⟨rfl, by first | assumption | (constructor <;> omega)⟩) (RdVs.cons (Rd.int.2 ⟨rfl, by first | assumption | (constructor <;> omega)⟩) (RdVs.nil))) (by decide) (by decide) (fun v162 H163 hS164 hxx hvv162 => ?_)
      replace hS164 : St H0 NoB (fun b => S b ∧ b < H0.size) [rowE 3 v162 ([-((((u : Int) * q.Facts) + (y : Int)) + 1), ((((u : Int) + 1) * q.Facts) + (y : Int)) + 1] : List Int), rowE 3 v158 ([(((u : Int) * q.Facts) + (y : Int)) + 1, -(((((u : Int) + 1) * q.Facts) + (y : Int)) + 1)] : List Int), rowE 22 v8 (c8 : List (List Int)), blkE g1 (.cells #[I (q.Facts), vf, vg, va] 25), rdE vf q.First, rdE vg q.Goal, rdE va q.Acts] H163 := hS164
      refine wpL_q (U := NoB) rfl (q_assign (v := v162) rfl rfl) ?_
      exact ⟨v162, a161_1, a161_2, a161_5, a161_6, a161_7, a161_9, a161_21, a161_24, rfl, hS164⟩
    rintro f165 H165 ⟨v162, a165_1, a165_2, a165_5, a165_6, a165_7, a165_9, a165_21, a165_24, a165_25, hS165⟩
    clear a161_1 a161_2 a161_21 a161_22 a161_23 a161_24 a161_5 a161_6 a161_7 a161_9
    refine wpF_seq ?_
    refine wpF_seq ?_
    refine wpF_cut (fun f H => f 1 = I (n) ∧ f 2 = PT g1 0 ∧ f 5 = v8 ∧ f 6 = I ((q.Acts.length : Int)) ∧ f 7 = I ((n + 1) * q.Facts) ∧ f 9 = I ((u : Int)) ∧ f 21 = I ((y : Int)) ∧ f 24 = v158 ∧ f 25 = v162 ∧ f 26 = I (0) ∧ H165 = H) ?_ ?_
    · refine wpF_region ?_
      refine wpL_q (U := NoB) rfl (q_assign (v := I (0)) rfl rfl) ?_
      exact ⟨a165_1, a165_2, a165_5, a165_6, a165_7, a165_9, a165_21, a165_24, a165_25, rfl, rfl⟩
    rintro f166 _ ⟨a166_1, a166_2, a166_5, a166_6, a166_7, a166_9, a166_21, a166_24, a166_25, a166_26, rfl⟩
    clear a165_1 a165_2 a165_21 a165_24 a165_25 a165_5 a165_6 a165_7 a165_9
    refine wpF_block ?_
    refine wpF_loop (fun mz f H => ∃ (z : Nat), ∃ (vR : Value), ∃ (vF : Value), mz = q.Acts.length - z ∧ (z ≤ q.Acts.length) ∧ f 1 = I (n) ∧ f 2 = PT g1 0 ∧ f 5 = v8 ∧ f 6 = I ((q.Acts.length : Int)) ∧ f 7 = I ((n + 1) * q.Facts) ∧ f 9 = I ((u : Int)) ∧ f 21 = I ((y : Int)) ∧ f 24 = vR ∧ f 25 = vF ∧ f 26 = I ((z : Int)) ∧ St H0 NoB (fun b => S b ∧ b < H0.size) [rowE 3 vR (tRise q n (u : Int) y z : List Int), rowE 3 vF (tFall q n (u : Int) y z : List Int), rowE 22 v8 (c8 : List (List Int)), blkE g1 (.cells #[I (q.Facts), vf, vg, va] 25), rdE vf q.First, rdE vg q.Goal, rdE va q.Acts] H) (q.Acts.length - 0) ?_ ?_
    · exact ⟨0, v158, v162, rfl, Nat.zero_le _, a166_1, a166_2, a166_5, a166_6, a166_7, a166_9, a166_21, a166_24, a166_25, (Eq.trans a166_26 (congrArg I (by omega))), (show St H0 NoB (fun b => S b ∧ b < H0.size) [rowE 3 v158 (tRise q n (u : Int) y 0 : List Int), rowE 3 v162 (tFall q n (u : Int) y 0 : List Int), rowE 22 v8 (c8 : List (List Int)), blkE g1 (.cells #[I (q.Facts), vf, vg, va] 25), rdE vf q.First, rdE vg q.Goal, rdE va q.Acts] H165 from (St.drop (show St H0 NoB (fun b => S b ∧ b < H0.size) [rowE 3 v158 ([(((u : Int) * q.Facts) + (y : Int)) + 1, -(((((u : Int) + 1) * q.Facts) + (y : Int)) + 1)] : List Int), rowE 3 v162 ([-((((u : Int) * q.Facts) + (y : Int)) + 1), ((((u : Int) + 1) * q.Facts) + (y : Int)) + 1] : List Int), rowE 22 v8 (c8 : List (List Int)), blkE g1 (.cells #[I (q.Facts), vf, vg, va] 25), rdE vf q.First, rdE vg q.Goal, rdE va q.Acts] H165 from (hS165.front 1 rfl)) (sk (sk (sk (sk (sk (sk (sk (List.Sublist.slnil))))))))))⟩
    intro m167 f167 H167 hI167
    obtain ⟨z, vR, vF, hm167, hz, a167_1, a167_2, a167_5, a167_6, a167_7, a167_9, a167_21, a167_24, a167_25, a167_26, hS167⟩ := hI167
    clear a166_1 a166_2 a166_21 a166_24 a166_25 a166_26 a166_5 a166_6 a166_7 a166_9
    refine wpF_seq ?_
    refine wpF_seq ?_
    refine wpF_cut (fun f H => f 1 = I (n) ∧ f 2 = PT g1 0 ∧ f 5 = v8 ∧ f 6 = I ((q.Acts.length : Int)) ∧ f 7 = I ((n + 1) * q.Facts) ∧ f 9 = I ((u : Int)) ∧ f 21 = I ((y : Int)) ∧ f 24 = vR ∧ f 25 = vF ∧ f 26 = I ((z : Int)) ∧ f 262 = B (decide ((z : Int) < (q.Acts.length : Int))) ∧ H167 = H) ?_ ?_
    · refine wpF_region ?_
      refine wpL_q (U := NoB) rfl (q_move (v := I ((z : Int))) rfl a167_26) ?_
      refine wpL_q (U := NoB) rfl (q_move (v := I ((q.Acts.length : Int))) rfl a167_6) ?_
      refine wpL_q (U := NoB) rfl (q_lss rfl rfl rfl) ?_
      exact ⟨a167_1, a167_2, a167_5, a167_6, a167_7, a167_9, a167_21, a167_24, a167_25, a167_26, rfl, rfl⟩
    rintro f168 _ ⟨a168_1, a168_2, a168_5, a168_6, a168_7, a168_9, a168_21, a168_24, a168_25, a168_26, a168_262, rfl⟩
    clear a167_1 a167_2 a167_21 a167_24 a167_25 a167_26 a167_5 a167_6 a167_7 a167_9
    refine wpF_condP a168_262 (fun c262 => ?t230) (fun c262 => ?e230)
    case e230 =>
      obtain rfl : z = q.Acts.length := by omega
      refine wpF_exit ?_
      refine atX_here ?_
      refine wpF_seq ?_
      refine wpF_cut (fun f H => ∃ (v215 : Value), f 1 = I (n) ∧ f 2 = PT g1 0 ∧ f 5 = v215 ∧ f 6 = I ((q.Acts.length : Int)) ∧ f 7 = I ((n + 1) * q.Facts) ∧ f 9 = I ((u : Int)) ∧ f 21 = I ((y : Int)) ∧ f 25 = vF ∧ St H0 NoB (fun b => S b ∧ b < H0.size) [rowE 22 v215 (c8 ++ ([tRise q n (u : Int) y q.Acts.length]) : List (List Int)), rowE 3 vF (tFall q n (u : Int) y q.Acts.length : List Int), blkE g1 (.cells #[I (q.Facts), vf, vg, va] 25), rdE vf q.First, rdE vg q.Goal, rdE va q.Acts] H) ?_ ?_
      · refine wpF_region ?_
        refine wpL_q (U := NoB) rfl (q_move (v := v8) rfl a168_5) ?_
        refine wpL_q (U := NoB) rfl (q_move (v := vR) rfl a168_24) ?_
        have hS209 : St H0 NoB (fun b => S b ∧ b < H0.size) [rdE vR (tRise q n (u : Int) y q.Acts.length), rowE 3 vF (tFall q n (u : Int) y q.Acts.length : List Int), rowE 22 v8 (c8 : List (List Int)), blkE g1 (.cells #[I (q.Facts), vf, vg, va] 25), rdE vf q.First, rdE vg q.Goal, rdE va q.Acts] H167 := St.fin hS167
        refine wpL_o rfl ?_
        refine e_buildSlice (vs := [vR]) (xs := ([tRise q n (u : Int) y q.Acts.length] : List (List Int))) rfl Try.underlying56 Try.zeroValue22 rfl Try.sizeOf22 (par1 (v0 := vR) rfl) rfl hS209 (RdVs.cons (hS209.rdS 0 rfl) (RdVs.nil)) (by decide) (by decide) (fun v210 H211 hS212 hxx hvv210 => ?_)
        replace hS212 : St H0 NoB (fun b => S b ∧ b < H0.size) [rowE 22 v210 ([tRise q n (u : Int) y q.Acts.length] : List (List Int)), rdE vR (tRise q n (u : Int) y q.Acts.length), rowE 3 vF (tFall q n (u : Int) y q.Acts.length : List Int), rowE 22 v8 (c8 : List (List Int)), blkE g1 (.cells #[I (q.Facts), vf, vg, va] 25), rdE vf q.First, rdE vg q.Goal, rdE va q.Acts] H211 := hS212
        have hS213 : St H0 NoB (fun b => S b ∧ b < H0.size) [rdE v210 ([tRise q n (u : Int) y q.Acts.length] : List (List Int)), rdE vR (tRise q n (u : Int) y q.Acts.length), rowE 3 vF (tFall q n (u : Int) y q.Acts.length : List Int), rowE 22 v8 (c8 : List (List Int)), blkE g1 (.cells #[I (q.Facts), vf, vg, va] 25), rdE vf q.First, rdE vg q.Goal, rdE va q.Acts] H211 := St.fin hS212
        have hS214 : St H0 NoB (fun b => S b ∧ b < H0.size) [rowE 22 v8 (c8 : List (List Int)), rdE v210 ([tRise q n (u : Int) y q.Acts.length] : List (List Int)), rdE vR (tRise q n (u : Int) y q.Acts.length), rowE 3 vF (tFall q n (u : Int) y q.Acts.length : List Int), blkE g1 (.cells #[I (q.Facts), vf, vg, va] 25), rdE vf q.First, rdE vg q.Goal, rdE va q.Acts] H211 := (hS213.front 3 rfl)
        refine wpL_o rfl ?_
        refine e_append rfl Try.underlying56 em_LInt_22_StepR1 rfl rfl hS214 (hS214.rdS 1 rfl) (fun _ h => h) (by have hb : GoT.bytes (List Int) = 24 := rfl; simp [hb]; omega) (by decide) (fun v215 H216 hS217 hxx => ?_)
        replace hS217 : St H0 NoB (fun b => S b ∧ b < H0.size) [rowE 22 v215 (c8 ++ ([tRise q n (u : Int) y q.Acts.length]) : List (List Int)), rdE v210 ([tRise q n (u : Int) y q.Acts.length] : List (List Int)), rdE vR (tRise q n (u : Int) y q.Acts.length), rowE 3 vF (tFall q n (u : Int) y q.Acts.length : List Int), blkE g1 (.cells #[I (q.Facts), vf, vg, va] 25), rdE vf q.First, rdE vg q.Goal, rdE va q.Acts] H216 := hS217
        refine wpL_q (U := NoB) rfl (q_assign (v := v215) rfl rfl) ?_
        exact ⟨v215, a168_1, a168_2, rfl, a168_6, a168_7, a168_9, a168_21, a168_25, (hS217.drop (sk (sn (sn (sk (sk (sk (sk (sk (List.Sublist.slnil))))))))))⟩
      rintro f218 H218 ⟨v215, a218_1, a218_2, a218_5, a218_6, a218_7, a218_9, a218_21, a218_25, hS218⟩
      clear a168_1 a168_2 a168_21 a168_24 a168_25 a168_26 a168_262 a168_5 a168_6 a168_7 a168_9
      refine wpF_cut (fun f H => ∃ (v225 : Value), f 1 = I (n) ∧ f 2 = PT g1 0 ∧ f 5 = v225 ∧ f 6 = I ((q.Acts.length : Int)) ∧ f 7 = I ((n + 1) * q.Facts) ∧ f 9 = I ((u : Int)) ∧ f 21 = I ((y : Int)) ∧ St H0 NoB (fun b => S b ∧ b < H0.size) [rowE 22 v225 ((c8 ++ ([tRise q n (u : Int) y q.Acts.length])) ++ ([tFall q n (u : Int) y q.Acts.length]) : List (List Int)), blkE g1 (.cells #[I (q.Facts), vf, vg, va] 25), rdE vf q.First, rdE vg q.Goal, rdE va q.Acts] H) ?_ ?_
      · refine wpF_region ?_
        refine wpL_q (U := NoB) rfl (q_move (v := v215) rfl a218_5) ?_
        refine wpL_q (U := NoB) rfl (q_move (v := vF) rfl a218_25) ?_
        have hS219 : St H0 NoB (fun b => S b ∧ b < H0.size) [rdE vF (tFall q n (u : Int) y q.Acts.length), rowE 22 v215 (c8 ++ ([tRise q n (u : Int) y q.Acts.length]) : List (List Int)), blkE g1 (.cells #[I (q.Facts), vf, vg, va] 25), rdE vf q.First, rdE vg q.Goal, rdE va q.Acts] H218 := St.fin (hS218.front 1 rfl)
        refine wpL_o rfl ?_
        refine e_buildSlice (vs := [vF]) (xs := ([tFall q n (u : Int) y q.Acts.length] : List (List Int))) rfl Try.underlying56 Try.zeroValue22 rfl Try.sizeOf22 (par1 (v0 := vF) rfl) rfl hS219 (RdVs.cons (hS219.rdS 0 rfl) (RdVs.nil)) (by decide) (by decide) (fun v220 H221 hS222 hxx hvv220 => ?_)
        replace hS222 : St H0 NoB (fun b => S b ∧ b < H0.size) [rowE 22 v220 ([tFall q n (u : Int) y q.Acts.length] : List (List Int)), rdE vF (tFall q n (u : Int) y q.Acts.length), rowE 22 v215 (c8 ++ ([tRise q n (u : Int) y q.Acts.length]) : List (List Int)), blkE g1 (.cells #[I (q.Facts), vf, vg, va] 25), rdE vf q.First, rdE vg q.Goal, rdE va q.Acts] H221 := hS222
        have hS223 : St H0 NoB (fun b => S b ∧ b < H0.size) [rdE v220 ([tFall q n (u : Int) y q.Acts.length] : List (List Int)), rdE vF (tFall q n (u : Int) y q.Acts.length), rowE 22 v215 (c8 ++ ([tRise q n (u : Int) y q.Acts.length]) : List (List Int)), blkE g1 (.cells #[I (q.Facts), vf, vg, va] 25), rdE vf q.First, rdE vg q.Goal, rdE va q.Acts] H221 := St.fin hS222
        have hS224 : St H0 NoB (fun b => S b ∧ b < H0.size) [rowE 22 v215 (c8 ++ ([tRise q n (u : Int) y q.Acts.length]) : List (List Int)), rdE v220 ([tFall q n (u : Int) y q.Acts.length] : List (List Int)), rdE vF (tFall q n (u : Int) y q.Acts.length), blkE g1 (.cells #[I (q.Facts), vf, vg, va] 25), rdE vf q.First, rdE vg q.Goal, rdE va q.Acts] H221 := (hS223.front 2 rfl)
        refine wpL_o rfl ?_
        refine e_append rfl Try.underlying56 em_LInt_22_StepR1 rfl rfl hS224 (hS224.rdS 1 rfl) (fun _ h => h) (by have hb : GoT.bytes (List Int) = 24 := rfl; rw [hb]; simp only [List.length_append, List.length_singleton]; omega) (by decide) (fun v225 H226 hS227 hxx => ?_)
        replace hS227 : St H0 NoB (fun b => S b ∧ b < H0.size) [rowE 22 v225 ((c8 ++ ([tRise q n (u : Int) y q.Acts.length])) ++ ([tFall q n (u : Int) y q.Acts.length]) : List (List Int)), rdE v220 ([tFall q n (u : Int) y q.Acts.length] : List (List Int)), rdE vF (tFall q n (u : Int) y q.Acts.length), blkE g1 (.cells #[I (q.Facts), vf, vg, va] 25), rdE vf q.First, rdE vg q.Goal, rdE va q.Acts] H226 := hS227
        refine wpL_q (U := NoB) rfl (q_assign (v := v225) rfl rfl) ?_
        exact ⟨v225, a218_1, a218_2, rfl, a218_6, a218_7, a218_9, a218_21, (hS227.drop (sk (sn (sn (sk (sk (sk (sk (List.Sublist.slnil)))))))))⟩
      rintro f228 H228 ⟨v225, a228_1, a228_2, a228_5, a228_6, a228_7, a228_9, a228_21, hS228⟩
      clear a218_1 a218_2 a218_21 a218_25 a218_5 a218_6 a218_7 a218_9
      refine wpF_cut (fun f H => f 1 = I (n) ∧ f 2 = PT g1 0 ∧ f 5 = v225 ∧ f 6 = I ((q.Acts.length : Int)) ∧ f 7 = I ((n + 1) * q.Facts) ∧ f 9 = I ((u : Int)) ∧ f 21 = I ((y : Int) + 1) ∧ H228 = H) ?_ ?_
      · refine wpF_region ?_
        refine wpL_q (U := NoB) rfl (q_move (v := I ((y : Int))) rfl a228_21) ?_
        refine wpL_q (U := NoB) rfl (q_add rfl rfl rfl (by constructor <;> omega)) ?_
        refine wpL_q (U := NoB) rfl (q_assign (v := I ((y : Int) + 1)) rfl rfl) ?_
        exact ⟨a228_1, a228_2, a228_5, a228_6, a228_7, a228_9, rfl, rfl⟩
      rintro f229 _ ⟨a229_1, a229_2, a229_5, a229_6, a229_7, a229_9, a229_21, rfl⟩
      clear a228_1 a228_2 a228_21 a228_5 a228_6 a228_7 a228_9
      refine ⟨_, ?_, y + 1, (c8 ++ ([tRise q n (u : Int) y q.Acts.length])) ++ ([tFall q n (u : Int) y q.Acts.length]), v225, rfl, (by omega), (by rw [List.length_append, List.length_append, List.length_singleton, List.length_singleton]; omega), (by rw [h8, tFrames_next]; simp [List.append_assoc]), a229_1, a229_2, a229_5, a229_6, a229_7, a229_9, (Eq.trans a229_21 (congrArg I (by omega))), (show St H0 NoB (fun b => S b ∧ b < H0.size) [rowE 22 v225 (((c8 ++ ([tRise q n (u : Int) y q.Acts.length])) ++ ([tFall q n (u : Int) y q.Acts.length])) : List (List Int)), blkE g1 (.cells #[I (q.Facts), vf, vg, va] 25), rdE vf q.First, rdE vg q.Goal, rdE va q.Acts] H228 from hS228)⟩
      omega
    have hrl := tRise_len (q := q) (n := n) (t := (u : Int)) (f := y) (k := z)
    have hfl := tFall_len (q := q) (n := n) (t := (u : Int)) (f := y) (k := z)
    refine wpF_skip ?_
    refine wpF_seq ?_
    refine wpF_block ?_
    refine wpF_seq ?_
    refine wpF_seq ?_
    refine wpF_cut (fun f H => f 1 = I (n) ∧ f 2 = PT g1 0 ∧ f 5 = v8 ∧ f 6 = I ((q.Acts.length : Int)) ∧ f 7 = I ((n + 1) * q.Facts) ∧ f 9 = I ((u : Int)) ∧ f 21 = I ((y : Int)) ∧ f 24 = vR ∧ f 25 = vF ∧ f 26 = I ((z : Int)) ∧ f 272 = B (hasB ((nth q.Acts z).Add) (y : Int)) ∧ St H0 NoB (fun b => S b ∧ b < H0.size) [rowE 3 vR (tRise q n (u : Int) y z : List Int), rowE 3 vF (tFall q n (u : Int) y z : List Int), rowE 22 v8 (c8 : List (List Int)), blkE g1 (.cells #[I (q.Facts), vf, vg, va] 25), rdE vf q.First, rdE vg q.Goal, rdE va q.Acts] H) ?_ ?_
    · refine wpF_region ?_
      refine wpL_q (U := NoB) rfl (q_fieldAddr rfl Try.underlying25 rfl Try.sizeOf23 a168_2) ?_
      refine wpL_q (U := NoB) rfl (q_loadBlk rfl rfl Try.isAgg23 (hS167.blk 3 rfl) rfl (fun h => h)) ?_
      refine wpL_q (U := NoB) rfl (q_move (v := I ((z : Int))) rfl a168_26) ?_
      refine wpL_q (U := NoB) rfl (q_indexRd (k := z) rfl Try.underlying23 el_Act_37_StepR1 rfl rfl (hS167.rdl 6 rfl) (by omega) (by omega)) ?_
      refine wpL_q (U := NoB) rfl (q_fieldE (k := z) rfl Try.underlying37 rfl Try.sizeOf22 rfl rfl (hS167.rdl 6 rfl) (by omega)) ?_
      obtain ⟨_, hcu170, hFu170⟩ := (Rd.list.1 (hS167.rdS 6 rfl)).cellF z (by omega)
      obtain ⟨u170n0, u170n1, u170n2, u170n3, rfl, hu1700, hu1701, hu1702, hu1703⟩ := hcu170
      have hS171 : St H0 NoB (fun b => S b ∧ b < H0.size) [rdE u170n2 ((nth q.Acts z).Add), rowE 3 vR (tRise q n (u : Int) y z : List Int), rowE 3 vF (tFall q n (u : Int) y z : List Int), rowE 22 v8 (c8 : List (List Int)), blkE g1 (.cells #[I (q.Facts), vf, vg, va] 25), rdE vf q.First, rdE vg q.Goal, rdE va q.Acts] H167 := hS167.rd (Rd.list.2 hu1702)
      refine wpL_q (U := NoB) rfl (q_loadF rfl rfl (hFu170 2 _ Try.prog 22 _ rfl Try.isAgg22 (fun _ h => False.elim h))) ?_
      refine wpL_q (U := NoB) rfl (q_move (v := I ((y : Int))) rfl a168_21) ?_
      refine wpL_o rfl ?_
      refine e_call rfl Try.call41 (arr2 (v0 := u170n2) (v1 := I ((y : Int))) rfl rfl) (Has_R u170n2 ((nth q.Acts z).Add) (y : Int) (hS171.rdN 0 rfl) ) ?_
      rintro _ H172 ⟨hxx, rfl⟩
      have hS173 : St H0 NoB (fun b => S b ∧ b < H0.size) [rdE u170n2 ((nth q.Acts z).Add), rowE 3 vR (tRise q n (u : Int) y z : List Int), rowE 3 vF (tFall q n (u : Int) y z : List Int), rowE 22 v8 (c8 : List (List Int)), blkE g1 (.cells #[I (q.Facts), vf, vg, va] 25), rdE vf q.First, rdE vg q.Goal, rdE va q.Acts] H172 := hS171.ext hxx
      exact ⟨a168_1, a168_2, a168_5, a168_6, a168_7, a168_9, a168_21, a168_24, a168_25, a168_26, rfl, (hS173.drop (sn (sk (sk (sk (sk (sk (sk (sk (List.Sublist.slnil))))))))))⟩
    rintro f175 H175 ⟨a175_1, a175_2, a175_5, a175_6, a175_7, a175_9, a175_21, a175_24, a175_25, a175_26, a175_272, hS175⟩
    clear a168_1 a168_2 a168_21 a168_24 a168_25 a168_26 a168_262 a168_5 a168_6 a168_7 a168_9
    refine wpF_cut (fun f H => ∃ (vN24 : Value), f 1 = I (n) ∧ f 2 = PT g1 0 ∧ f 5 = v8 ∧ f 6 = I ((q.Acts.length : Int)) ∧ f 7 = I ((n + 1) * q.Facts) ∧ f 9 = I ((u : Int)) ∧ f 21 = I ((y : Int)) ∧ f 24 = vN24 ∧ f 25 = vF ∧ f 26 = I ((z : Int)) ∧ St H0 NoB (fun b => S b ∧ b < H0.size) [rowE 3 vN24 (tRise q n (u : Int) y (z + 1) : List Int), rowE 3 vF (tFall q n (u : Int) y z : List Int), rowE 22 v8 (c8 : List (List Int)), blkE g1 (.cells #[I (q.Facts), vf, vg, va] 25), rdE vf q.First, rdE vg q.Goal, rdE va q.Acts] H) ?_ ?_
    · refine wpF_cond a175_272 (fun h272 => ?t188) (fun h272 => ?e188)
      case e188 =>
        refine wpF_skip ?_
        exact ⟨vR, a175_1, a175_2, a175_5, a175_6, a175_7, a175_9, a175_21, a175_24, a175_25, a175_26, (show St H0 NoB (fun b => S b ∧ b < H0.size) [rowE 3 vR (tRise q n (u : Int) y (z + 1) : List Int), rowE 3 vF (tFall q n (u : Int) y z : List Int), rowE 22 v8 (c8 : List (List Int)), blkE g1 (.cells #[I (q.Facts), vf, vg, va] 25), rdE vf q.First, rdE vg q.Goal, rdE va q.Acts] H175 from (by have h__ := hS175; rw [← tRise_no (by simp [h272])] at h__; exact h__))⟩
      refine wpF_cut (fun f H => ∃ (v183 : Value), f 1 = I (n) ∧ f 2 = PT g1 0 ∧ f 5 = v8 ∧ f 6 = I ((q.Acts.length : Int)) ∧ f 7 = I ((n + 1) * q.Facts) ∧ f 9 = I ((u : Int)) ∧ f 21 = I ((y : Int)) ∧ f 24 = v183 ∧ f 25 = vF ∧ f 26 = I ((z : Int)) ∧ St H0 NoB (fun b => S b ∧ b < H0.size) [rowE 3 v183 (tRise q n (u : Int) y (z + 1) : List Int), rowE 3 vF (tFall q n (u : Int) y z : List Int), rowE 22 v8 (c8 : List (List Int)), blkE g1 (.cells #[I (q.Facts), vf, vg, va] 25), rdE vf q.First, rdE vg q.Goal, rdE va q.Acts] H) ?_ ?_
      · refine wpF_region ?_
        refine wpL_q (U := NoB) rfl (q_move (v := vR) rfl a175_24) ?_
        refine wpL_q (U := NoB) rfl (q_move (v := I ((n + 1) * q.Facts)) rfl a175_7) ?_
        refine wpL_q (U := NoB) rfl (q_move (v := I ((u : Int))) rfl a175_9) ?_
        refine wpL_q (U := NoB) rfl (q_move (v := I ((q.Acts.length : Int))) rfl a175_6) ?_
        refine wpL_q (U := NoB) rfl (q_mul rfl rfl rfl (by constructor <;> omega)) ?_
        refine wpL_q (U := NoB) rfl (q_add rfl rfl rfl (by constructor <;> omega)) ?_
        refine wpL_q (U := NoB) rfl (q_move (v := I ((z : Int))) rfl a175_26) ?_
        refine wpL_q (U := NoB) rfl (q_add rfl rfl rfl (by constructor <;> omega)) ?_
        refine wpL_q (U := NoB) rfl (q_add rfl rfl rfl (by constructor <;> omega)) ?_
        refine wpL_o rfl ?_
        refine e_buildSlice (vs := [I (((((n + 1) * q.Facts) + ((u : Int) * (q.Acts.length : Int))) + (z : Int)) + 1)]) (xs := ([((((n + 1) * q.Facts) + ((u : Int) * (q.Acts.length : Int))) + (z : Int)) + 1] : List Int)) rfl Try.underlying22 Try.zeroValue3 rfl Try.sizeOf3 (par1 (v0 := I (((((n + 1) * q.Facts) + ((u : Int) * (q.Acts.length : Int))) + (z : Int)) + 1)) rfl) rfl hS175 (RdVs.cons (Rd.int.2 ⟨rfl, by first | assumption | (constructor <;> omega)⟩) (RdVs.nil)) (by decide) (by decide) (fun v178 H179 hS180 hxx hvv178 => ?_)
        replace hS180 : St H0 NoB (fun b => S b ∧ b < H0.size) [rowE 3 v178 ([((((n + 1) * q.Facts) + ((u : Int) * (q.Acts.length : Int))) + (z : Int)) + 1] : List Int), rowE 3 vR (tRise q n (u : Int) y z : List Int), rowE 3 vF (tFall q n (u : Int) y z : List Int), rowE 22 v8 (c8 : List (List Int)), blkE g1 (.cells #[I (q.Facts), vf, vg, va] 25), rdE vf q.First, rdE vg q.Goal, rdE va q.Acts] H179 := hS180
        have hS181 : St H0 NoB (fun b => S b ∧ b < H0.size) [rdE v178 ([((((n + 1) * q.Facts) + ((u : Int) * (q.Acts.length : Int))) + (z : Int)) + 1] : List Int), rowE 3 vR (tRise q n (u : Int) y z : List Int), rowE 3 vF (tFall q n (u : Int) y z : List Int), rowE 22 v8 (c8 : List (List Int)), blkE g1 (.cells #[I (q.Facts), vf, vg, va] 25), rdE vf q.First, rdE vg q.Goal, rdE va q.Acts] H179 := St.fin hS180
        have hS182 : St H0 NoB (fun b => S b ∧ b < H0.size) [rowE 3 vR (tRise q n (u : Int) y z : List Int), rdE v178 ([((((n + 1) * q.Facts) + ((u : Int) * (q.Acts.length : Int))) + (z : Int)) + 1] : List Int), rowE 3 vF (tFall q n (u : Int) y z : List Int), rowE 22 v8 (c8 : List (List Int)), blkE g1 (.cells #[I (q.Facts), vf, vg, va] 25), rdE vf q.First, rdE vg q.Goal, rdE va q.Acts] H179 := (hS181.front 1 rfl)
        refine wpL_o rfl ?_
        refine e_append rfl Try.underlying22 em_Int_3_StepR1 rfl rfl hS182 (hS182.rdS 1 rfl) (fun _ h => h) (by have hb : GoT.bytes Int = 8 := rfl; simp [hb]; omega) (by decide) (fun v183 H184 hS185 hxx => ?_)
        replace hS185 : St H0 NoB (fun b => S b ∧ b < H0.size) [rowE 3 v183 ((tRise q n (u : Int) y z) ++ ([((((n + 1) * q.Facts) + ((u : Int) * (q.Acts.length : Int))) + (z : Int)) + 1]) : List Int), rdE v178 ([((((n + 1) * q.Facts) + ((u : Int) * (q.Acts.length : Int))) + (z : Int)) + 1] : List Int), rowE 3 vF (tFall q n (u : Int) y z : List Int), rowE 22 v8 (c8 : List (List Int)), blkE g1 (.cells #[I (q.Facts), vf, vg, va] 25), rdE vf q.First, rdE vg q.Goal, rdE va q.Acts] H184 := hS185
        have hS186 : St H0 NoB (fun b => S b ∧ b < H0.size) [rowE 3 v183 (tRise q n (u : Int) y (z + 1) : List Int), rdE v178 ([((((n + 1) * q.Facts) + ((u : Int) * (q.Acts.length : Int))) + (z : Int)) + 1] : List Int), rowE 3 vF (tFall q n (u : Int) y z : List Int), rowE 22 v8 (c8 : List (List Int)), blkE g1 (.cells #[I (q.Facts), vf, vg, va] 25), rdE vf q.First, rdE vg q.Goal, rdE va q.Acts] H184 := by rw [show (tRise q n (u : Int) y (z + 1)) = ((tRise q n (u : Int) y z) ++ ([((((n + 1) * q.Facts) + ((u : Int) * (q.Acts.length : Int))) + (z : Int)) + 1])) from (tRise_yes h272)]; exact hS185
        refine wpL_q (U := NoB) rfl (q_assign (v := v183) rfl rfl) ?_
        exact ⟨v183, a175_1, a175_2, a175_5, a175_6, a175_7, a175_9, a175_21, rfl, a175_25, a175_26, (hS186.drop (sk (sn (sk (sk (sk (sk (sk (sk (List.Sublist.slnil))))))))))⟩
      rintro f187 H187 ⟨v183, a187_1, a187_2, a187_5, a187_6, a187_7, a187_9, a187_21, a187_24, a187_25, a187_26, hS187⟩
      clear a175_1 a175_2 a175_21 a175_24 a175_25 a175_26 a175_272 a175_5 a175_6 a175_7 a175_9
      exact ⟨v183, a187_1, a187_2, a187_5, a187_6, a187_7, a187_9, a187_21, a187_24, a187_25, a187_26, hS187⟩
    rintro f176 H176 ⟨vN24, a176_1, a176_2, a176_5, a176_6, a176_7, a176_9, a176_21, a176_24, a176_25, a176_26, hS176⟩
    clear a175_1 a175_2 a175_21 a175_24 a175_25 a175_26 a175_272 a175_5 a175_6 a175_7 a175_9
    refine wpF_seq ?_
    refine wpF_cut (fun f H => f 1 = I (n) ∧ f 2 = PT g1 0 ∧ f 5 = v8 ∧ f 6 = I ((q.Acts.length : Int)) ∧ f 7 = I ((n + 1) * q.Facts) ∧ f 9 = I ((u : Int)) ∧ f 21 = I ((y : Int)) ∧ f 24 = vN24 ∧ f 25 = vF ∧ f 26 = I ((z : Int)) ∧ f 291 = B (hasB ((nth q.Acts z).Drop) (y : Int)) ∧ St H0 NoB (fun b => S b ∧ b < H0.size) [rowE 3 vN24 (tRise q n (u : Int) y (z + 1) : List Int), rowE 3 vF (tFall q n (u : Int) y z : List Int), rowE 22 v8 (c8 : List (List Int)), blkE g1 (.cells #[I (q.Facts), vf, vg, va] 25), rdE vf q.First, rdE vg q.Goal, rdE va q.Acts] H) ?_ ?_
    · refine wpF_region ?_
      refine wpL_q (U := NoB) rfl (q_fieldAddr rfl Try.underlying25 rfl Try.sizeOf23 a176_2) ?_
      refine wpL_q (U := NoB) rfl (q_loadBlk rfl rfl Try.isAgg23 (hS176.blk 3 rfl) rfl (fun h => h)) ?_
      refine wpL_q (U := NoB) rfl (q_move (v := I ((z : Int))) rfl a176_26) ?_
      refine wpL_q (U := NoB) rfl (q_indexRd (k := z) rfl Try.underlying23 el_Act_37_StepR1 rfl rfl (hS176.rdl 6 rfl) (by omega) (by omega)) ?_
      refine wpL_q (U := NoB) rfl (q_fieldE (k := z) rfl Try.underlying37 rfl Try.sizeOf22 rfl rfl (hS176.rdl 6 rfl) (by omega)) ?_
      obtain ⟨_, hcu189, hFu189⟩ := (Rd.list.1 (hS176.rdS 6 rfl)).cellF z (by omega)
      obtain ⟨u189n0, u189n1, u189n2, u189n3, rfl, hu1890, hu1891, hu1892, hu1893⟩ := hcu189
      have hS190 : St H0 NoB (fun b => S b ∧ b < H0.size) [rdE u189n3 ((nth q.Acts z).Drop), rowE 3 vN24 (tRise q n (u : Int) y (z + 1) : List Int), rowE 3 vF (tFall q n (u : Int) y z : List Int), rowE 22 v8 (c8 : List (List Int)), blkE g1 (.cells #[I (q.Facts), vf, vg, va] 25), rdE vf q.First, rdE vg q.Goal, rdE va q.Acts] H176 := hS176.rd (Rd.list.2 hu1893)
      refine wpL_q (U := NoB) rfl (q_loadF rfl rfl (hFu189 3 _ Try.prog 22 _ rfl Try.isAgg22 (fun _ h => False.elim h))) ?_
      refine wpL_q (U := NoB) rfl (q_move (v := I ((y : Int))) rfl a176_21) ?_
      refine wpL_o rfl ?_
      refine e_call rfl Try.call41 (arr2 (v0 := u189n3) (v1 := I ((y : Int))) rfl rfl) (Has_R u189n3 ((nth q.Acts z).Drop) (y : Int) (hS190.rdN 0 rfl) ) ?_
      rintro _ H191 ⟨hxx, rfl⟩
      have hS192 : St H0 NoB (fun b => S b ∧ b < H0.size) [rdE u189n3 ((nth q.Acts z).Drop), rowE 3 vN24 (tRise q n (u : Int) y (z + 1) : List Int), rowE 3 vF (tFall q n (u : Int) y z : List Int), rowE 22 v8 (c8 : List (List Int)), blkE g1 (.cells #[I (q.Facts), vf, vg, va] 25), rdE vf q.First, rdE vg q.Goal, rdE va q.Acts] H191 := hS190.ext hxx
      exact ⟨a176_1, a176_2, a176_5, a176_6, a176_7, a176_9, a176_21, a176_24, a176_25, a176_26, rfl, (hS192.drop (sn (sk (sk (sk (sk (sk (sk (sk (List.Sublist.slnil))))))))))⟩
    rintro f194 H194 ⟨a194_1, a194_2, a194_5, a194_6, a194_7, a194_9, a194_21, a194_24, a194_25, a194_26, a194_291, hS194⟩
    clear a176_1 a176_2 a176_21 a176_24 a176_25 a176_26 a176_5 a176_6 a176_7 a176_9
    refine wpF_cut (fun f H => ∃ (vN25 : Value), f 1 = I (n) ∧ f 2 = PT g1 0 ∧ f 5 = v8 ∧ f 6 = I ((q.Acts.length : Int)) ∧ f 7 = I ((n + 1) * q.Facts) ∧ f 9 = I ((u : Int)) ∧ f 21 = I ((y : Int)) ∧ f 24 = vN24 ∧ f 25 = vN25 ∧ f 26 = I ((z : Int)) ∧ St H0 NoB (fun b => S b ∧ b < H0.size) [rowE 3 vN25 (tFall q n (u : Int) y (z + 1) : List Int), rowE 3 vN24 (tRise q n (u : Int) y (z + 1) : List Int), rowE 22 v8 (c8 : List (List Int)), blkE g1 (.cells #[I (q.Facts), vf, vg, va] 25), rdE vf q.First, rdE vg q.Goal, rdE va q.Acts] H) ?_ ?_
    · refine wpF_cond a194_291 (fun h291 => ?t207) (fun h291 => ?e207)
      case e207 =>
        refine wpF_skip ?_
        exact ⟨vF, a194_1, a194_2, a194_5, a194_6, a194_7, a194_9, a194_21, a194_24, a194_25, a194_26, (show St H0 NoB (fun b => S b ∧ b < H0.size) [rowE 3 vF (tFall q n (u : Int) y (z + 1) : List Int), rowE 3 vN24 (tRise q n (u : Int) y (z + 1) : List Int), rowE 22 v8 (c8 : List (List Int)), blkE g1 (.cells #[I (q.Facts), vf, vg, va] 25), rdE vf q.First, rdE vg q.Goal, rdE va q.Acts] H194 from (by have h__ := (St.drop (show St H0 NoB (fun b => S b ∧ b < H0.size) [rowE 3 vF (tFall q n (u : Int) y z : List Int), rowE 3 vN24 (tRise q n (u : Int) y (z + 1) : List Int), rowE 22 v8 (c8 : List (List Int)), blkE g1 (.cells #[I (q.Facts), vf, vg, va] 25), rdE vf q.First, rdE vg q.Goal, rdE va q.Acts] H194 from (hS194.front 1 rfl)) (sk (sk (sk (sk (sk (sk (sk (List.Sublist.slnil))))))))); rw [← tFall_no (by simp [h291])] at h__; exact h__))⟩
      refine wpF_cut (fun f H => ∃ (v202 : Value), f 1 = I (n) ∧ f 2 = PT g1 0 ∧ f 5 = v8 ∧ f 6 = I ((q.Acts.length : Int)) ∧ f 7 = I ((n + 1) * q.Facts) ∧ f 9 = I ((u : Int)) ∧ f 21 = I ((y : Int)) ∧ f 24 = vN24 ∧ f 25 = v202 ∧ f 26 = I ((z : Int)) ∧ St H0 NoB (fun b => S b ∧ b < H0.size) [rowE 3 v202 (tFall q n (u : Int) y (z + 1) : List Int), rowE 3 vN24 (tRise q n (u : Int) y (z + 1) : List Int), rowE 22 v8 (c8 : List (List Int)), blkE g1 (.cells #[I (q.Facts), vf, vg, va] 25), rdE vf q.First, rdE vg q.Goal, rdE va q.Acts] H) ?_ ?_
      · refine wpF_region ?_
        refine wpL_q (U := NoB) rfl (q_move (v := vF) rfl a194_25) ?_
        refine wpL_q (U := NoB) rfl (q_move (v := I ((n + 1) * q.Facts)) rfl a194_7) ?_
        refine wpL_q (U := NoB) rfl (q_move (v := I ((u : Int))) rfl a194_9) ?_
        refine wpL_q (U := NoB) rfl (q_move (v := I ((q.Acts.length : Int))) rfl a194_6) ?_
        refine wpL_q (U := NoB) rfl (q_mul rfl rfl rfl (by constructor <;> omega)) ?_
        refine wpL_q (U := NoB) rfl (q_add rfl rfl rfl (by constructor <;> omega)) ?_
        refine wpL_q (U := NoB) rfl (q_move (v := I ((z : Int))) rfl a194_26) ?_
        refine wpL_q (U := NoB) rfl (q_add rfl rfl rfl (by constructor <;> omega)) ?_
        refine wpL_q (U := NoB) rfl (q_add rfl rfl rfl (by constructor <;> omega)) ?_
        refine wpL_o rfl ?_
        refine e_buildSlice (vs := [I (((((n + 1) * q.Facts) + ((u : Int) * (q.Acts.length : Int))) + (z : Int)) + 1)]) (xs := ([((((n + 1) * q.Facts) + ((u : Int) * (q.Acts.length : Int))) + (z : Int)) + 1] : List Int)) rfl Try.underlying22 Try.zeroValue3 rfl Try.sizeOf3 (par1 (v0 := I (((((n + 1) * q.Facts) + ((u : Int) * (q.Acts.length : Int))) + (z : Int)) + 1)) rfl) rfl hS194 (RdVs.cons (Rd.int.2 ⟨rfl, by first | assumption | (constructor <;> omega)⟩) (RdVs.nil)) (by decide) (by decide) (fun v197 H198 hS199 hxx hvv197 => ?_)
        replace hS199 : St H0 NoB (fun b => S b ∧ b < H0.size) [rowE 3 v197 ([((((n + 1) * q.Facts) + ((u : Int) * (q.Acts.length : Int))) + (z : Int)) + 1] : List Int), rowE 3 vN24 (tRise q n (u : Int) y (z + 1) : List Int), rowE 3 vF (tFall q n (u : Int) y z : List Int), rowE 22 v8 (c8 : List (List Int)), blkE g1 (.cells #[I (q.Facts), vf, vg, va] 25), rdE vf q.First, rdE vg q.Goal, rdE va q.Acts] H198 := hS199
        have hS200 : St H0 NoB (fun b => S b ∧ b < H0.size) [rdE v197 ([((((n + 1) * q.Facts) + ((u : Int) * (q.Acts.length : Int))) + (z : Int)) + 1] : List Int), rowE 3 vN24 (tRise q n (u : Int) y (z + 1) : List Int), rowE 3 vF (tFall q n (u : Int) y z : List Int), rowE 22 v8 (c8 : List (List Int)), blkE g1 (.cells #[I (q.Facts), vf, vg, va] 25), rdE vf q.First, rdE vg q.Goal, rdE va q.Acts] H198 := St.fin hS199
        have hS201 : St H0 NoB (fun b => S b ∧ b < H0.size) [rowE 3 vF (tFall q n (u : Int) y z : List Int), rdE v197 ([((((n + 1) * q.Facts) + ((u : Int) * (q.Acts.length : Int))) + (z : Int)) + 1] : List Int), rowE 3 vN24 (tRise q n (u : Int) y (z + 1) : List Int), rowE 22 v8 (c8 : List (List Int)), blkE g1 (.cells #[I (q.Facts), vf, vg, va] 25), rdE vf q.First, rdE vg q.Goal, rdE va q.Acts] H198 := (hS200.front 2 rfl)
        refine wpL_o rfl ?_
        refine e_append rfl Try.underlying22 em_Int_3_StepR1 rfl rfl hS201 (hS201.rdS 1 rfl) (fun _ h => h) (by have hb : GoT.bytes Int = 8 := rfl; simp [hb]; omega) (by decide) (fun v202 H203 hS204 hxx => ?_)
        replace hS204 : St H0 NoB (fun b => S b ∧ b < H0.size) [rowE 3 v202 ((tFall q n (u : Int) y z) ++ ([((((n + 1) * q.Facts) + ((u : Int) * (q.Acts.length : Int))) + (z : Int)) + 1]) : List Int), rdE v197 ([((((n + 1) * q.Facts) + ((u : Int) * (q.Acts.length : Int))) + (z : Int)) + 1] : List Int), rowE 3 vN24 (tRise q n (u : Int) y (z + 1) : List Int), rowE 22 v8 (c8 : List (List Int)), blkE g1 (.cells #[I (q.Facts), vf, vg, va] 25), rdE vf q.First, rdE vg q.Goal, rdE va q.Acts] H203 := hS204
        have hS205 : St H0 NoB (fun b => S b ∧ b < H0.size) [rowE 3 v202 (tFall q n (u : Int) y (z + 1) : List Int), rdE v197 ([((((n + 1) * q.Facts) + ((u : Int) * (q.Acts.length : Int))) + (z : Int)) + 1] : List Int), rowE 3 vN24 (tRise q n (u : Int) y (z + 1) : List Int), rowE 22 v8 (c8 : List (List Int)), blkE g1 (.cells #[I (q.Facts), vf, vg, va] 25), rdE vf q.First, rdE vg q.Goal, rdE va q.Acts] H203 := by rw [show (tFall q n (u : Int) y (z + 1)) = ((tFall q n (u : Int) y z) ++ ([((((n + 1) * q.Facts) + ((u : Int) * (q.Acts.length : Int))) + (z : Int)) + 1])) from (tFall_yes h291)]; exact hS204
        refine wpL_q (U := NoB) rfl (q_assign (v := v202) rfl rfl) ?_
        exact ⟨v202, a194_1, a194_2, a194_5, a194_6, a194_7, a194_9, a194_21, a194_24, rfl, a194_26, (hS205.drop (sk (sn (sk (sk (sk (sk (sk (sk (List.Sublist.slnil))))))))))⟩
      rintro f206 H206 ⟨v202, a206_1, a206_2, a206_5, a206_6, a206_7, a206_9, a206_21, a206_24, a206_25, a206_26, hS206⟩
      clear a194_1 a194_2 a194_21 a194_24 a194_25 a194_26 a194_291 a194_5 a194_6 a194_7 a194_9
      exact ⟨v202, a206_1, a206_2, a206_5, a206_6, a206_7, a206_9, a206_21, a206_24, a206_25, a206_26, hS206⟩
    rintro f195 H195 ⟨vN25, a195_1, a195_2, a195_5, a195_6, a195_7, a195_9, a195_21, a195_24, a195_25, a195_26, hS195⟩
    clear a194_1 a194_2 a194_21 a194_24 a194_25 a194_26 a194_291 a194_5 a194_6 a194_7 a194_9
    refine wpF_cut (fun f H => f 1 = I (n) ∧ f 2 = PT g1 0 ∧ f 5 = v8 ∧ f 6 = I ((q.Acts.length : Int)) ∧ f 7 = I ((n + 1) * q.Facts) ∧ f 9 = I ((u : Int)) ∧ f 21 = I ((y : Int)) ∧ f 24 = vN24 ∧ f 25 = vN25 ∧ f 26 = I ((z : Int) + 1) ∧ H195 = H) ?_ ?_
    · refine wpF_region ?_
      refine wpL_q (U := NoB) rfl (q_move (v := I ((z : Int))) rfl a195_26) ?_
      refine wpL_q (U := NoB) rfl (q_add rfl rfl rfl (by constructor <;> omega)) ?_
      refine wpL_q (U := NoB) rfl (q_assign (v := I ((z : Int) + 1)) rfl rfl) ?_
      exact ⟨a195_1, a195_2, a195_5, a195_6, a195_7, a195_9, a195_21, a195_24, a195_25, rfl, rfl⟩
    rintro f208 _ ⟨a208_1, a208_2, a208_5, a208_6, a208_7, a208_9, a208_21, a208_24, a208_25, a208_26, rfl⟩
    clear a195_1 a195_2 a195_21 a195_24 a195_25 a195_26 a195_5 a195_6 a195_7 a195_9
    refine ⟨_, ?_, z + 1, vN24, vN25, rfl, (by omega), a208_1, a208_2, a208_5, a208_6, a208_7, a208_9, a208_21, a208_24, a208_25, (Eq.trans a208_26 (congrArg I (by omega))), (St.drop (show St H0 NoB (fun b => S b ∧ b < H0.size) [rowE 3 vN24 (tRise q n (u : Int) y (z + 1) : List Int), rowE 3 vN25 (tFall q n (u : Int) y (z + 1) : List Int), rowE 22 v8 (c8 : List (List Int)), blkE g1 (.cells #[I (q.Facts), vf, vg, va] 25), rdE vf q.First, rdE vg q.Goal, rdE va q.Acts] H195 from (hS195.front 1 rfl)) (sk (sk (sk (sk (sk (sk (sk (List.Sublist.slnil)))))))))⟩
    omega
  have hfm := hQ.form x (by omega)
  have hF0 : 0 ≤ q.Facts := by omega
  have hn1 := hfm.1.1.1.len hF0
  have hn2 := hfm.1.1.2.len hF0
  have hn3 := hfm.1.2.len hF0
  have hn4 := hfm.2.len hF0
  have hax := act_rng hQ (a := (x : Int)) hn (by omega) (show 0 ≤ (u : Int) ∧ (u : Int) ≤ 21 by omega)
  refine wpF_skip ?_
  refine wpF_seq ?_
  refine wpF_block ?_
  refine wpF_seq ?_
  refine wpF_cut (fun f H => f 1 = I (n) ∧ f 2 = PT g1 0 ∧ f 5 = v3 ∧ f 6 = I ((q.Acts.length : Int)) ∧ f 7 = I ((n + 1) * q.Facts) ∧ f 9 = I ((u : Int)) ∧ f 14 = I ((x : Int)) ∧ f 15 = I (-(((((n + 1) * q.Facts) + ((u : Int) * (q.Acts.length : Int))) + (x : Int)) + 1)) ∧ H103 = H) ?_ ?_
  · refine wpF_region ?_
    refine wpL_q (U := NoB) rfl (q_move (v := I ((n + 1) * q.Facts)) rfl a104_7) ?_
    refine wpL_q (U := NoB) rfl (q_move (v := I ((u : Int))) rfl a104_9) ?_
    refine wpL_q (U := NoB) rfl (q_move (v := I ((q.Acts.length : Int))) rfl a104_6) ?_
    refine wpL_q (U := NoB) rfl (q_mul rfl rfl rfl (by constructor <;> omega)) ?_
    refine wpL_q (U := NoB) rfl (q_add rfl rfl rfl (by constructor <;> omega)) ?_
    refine wpL_q (U := NoB) rfl (q_move (v := I ((x : Int))) rfl a104_14) ?_
    refine wpL_q (U := NoB) rfl (q_add rfl rfl rfl (by constructor <;> omega)) ?_
    refine wpL_q (U := NoB) rfl (q_add rfl rfl rfl (by constructor <;> omega)) ?_
    refine wpL_q (U := NoB) rfl (q_neg rfl rfl (by constructor <;> omega)) ?_
    refine wpL_q (U := NoB) rfl (q_assign (v := I (-(((((n + 1) * q.Facts) + ((u : Int) * (q.Acts.length : Int))) + (x : Int)) + 1))) rfl rfl) ?_
    exact ⟨a104_1, a104_2, a104_5, a104_6, a104_7, a104_9, a104_14, rfl, rfl⟩
  rintro f106 _ ⟨a106_1, a106_2, a106_5, a106_6, a106_7, a106_9, a106_14, a106_15, rfl⟩
  clear a104_1 a104_118 a104_14 a104_2 a104_5 a104_6 a104_7 a104_9
  have b107 := Eq.trans a106_15 (congrArg I (rfl))
  refine wpF_seq ?_
  refine wpF_cut (fun f H => ∃ (u108n0 : Value), ∃ (u108n1 : Value), ∃ (u108n2 : Value), ∃ (u108n3 : Value), ∃ (g113 : Nat), f 1 = I (n) ∧ f 2 = PT g1 0 ∧ f 5 = v3 ∧ f 6 = I ((q.Acts.length : Int)) ∧ f 7 = I ((n + 1) * q.Facts) ∧ f 9 = I ((u : Int)) ∧ f 14 = I ((x : Int)) ∧ f 15 = I (-actV q n x (u : Int)) ∧ f 16 = PT g113 0 ∧ St H0 NoB (fun b => S b ∧ b < H0.size) [blkE g113 (.cells #[u108n0, u108n1, u108n2, u108n3] 37), rdE u108n3 ((nth q.Acts x).Drop), rdE u108n2 ((nth q.Acts x).Add), rdE u108n1 ((nth q.Acts x).Bar), rdE u108n0 ((nth q.Acts x).Need), rowE 22 v3 (c3 : List (List Int)), blkE g1 (.cells #[I (q.Facts), vf, vg, va] 25), rdE vf q.First, rdE vg q.Goal, rdE va q.Acts] H) ?_ ?_
  · refine wpF_region ?_
    refine wpL_q (U := NoB) rfl (q_fieldAddr rfl Try.underlying25 rfl Try.sizeOf23 a106_2) ?_
    refine wpL_q (U := NoB) rfl (q_loadBlk rfl rfl Try.isAgg23 (hS103.blk 1 rfl) rfl (fun h => h)) ?_
    refine wpL_q (U := NoB) rfl (q_move (v := I ((x : Int))) rfl a106_14) ?_
    refine wpL_q (U := NoB) rfl (q_indexRd (k := x) rfl Try.underlying23 el_Act_37_StepR1 rfl rfl (hS103.rdl 4 rfl) (by omega) (by omega)) ?_
    obtain ⟨u108, huu108, hlu108⟩ := (Rd.list.1 (hS103.rdS 4 rfl)).elem x (by omega)
    obtain ⟨u108n0, u108n1, u108n2, u108n3, rfl, hu1080, hu1081, hu1082, hu1083⟩ := Rd.act.1 huu108
    have hS109 : St H0 NoB (fun b => S b ∧ b < H0.size) [rdE u108n0 ((nth q.Acts x).Need), rowE 22 v3 (c3 : List (List Int)), blkE g1 (.cells #[I (q.Facts), vf, vg, va] 25), rdE vf q.First, rdE vg q.Goal, rdE va q.Acts] H103 := hS103.rd hu1080
    have hS110 : St H0 NoB (fun b => S b ∧ b < H0.size) [rdE u108n1 ((nth q.Acts x).Bar), rdE u108n0 ((nth q.Acts x).Need), rowE 22 v3 (c3 : List (List Int)), blkE g1 (.cells #[I (q.Facts), vf, vg, va] 25), rdE vf q.First, rdE vg q.Goal, rdE va q.Acts] H103 := hS109.rd (hu1081.sub fun _ hb => SL_rd hb)
    have hS111 : St H0 NoB (fun b => S b ∧ b < H0.size) [rdE u108n2 ((nth q.Acts x).Add), rdE u108n1 ((nth q.Acts x).Bar), rdE u108n0 ((nth q.Acts x).Need), rowE 22 v3 (c3 : List (List Int)), blkE g1 (.cells #[I (q.Facts), vf, vg, va] 25), rdE vf q.First, rdE vg q.Goal, rdE va q.Acts] H103 := hS110.rd (hu1082.sub fun _ hb => SL_rd (SL_rd (hb)))
    have hS112 : St H0 NoB (fun b => S b ∧ b < H0.size) [rdE u108n3 ((nth q.Acts x).Drop), rdE u108n2 ((nth q.Acts x).Add), rdE u108n1 ((nth q.Acts x).Bar), rdE u108n0 ((nth q.Acts x).Need), rowE 22 v3 (c3 : List (List Int)), blkE g1 (.cells #[I (q.Facts), vf, vg, va] 25), rdE vf q.First, rdE vg q.Goal, rdE va q.Acts] H103 := hS111.rd (hu1083.sub fun _ hb => SL_rd (SL_rd (SL_rd (hb))))
    refine wpL_q (U := NoB) rfl (q_loadE rfl rfl (hlu108 Try.prog 37 _ el_Act_37_StepR1 (fun _ h => False.elim h))) ?_
    refine wpL_o rfl ?_
    refine e_alloc rfl Try.zeroValue37 hS112 (fun g113 H114 hS115 hxx => ?_)
    replace hS115 : St H0 NoB (fun b => S b ∧ b < H0.size) [blkE g113 (.cells #[(Value.slice none 0 0), (Value.slice none 0 0), (Value.slice none 0 0), (Value.slice none 0 0)] 37), rdE u108n3 ((nth q.Acts x).Drop), rdE u108n2 ((nth q.Acts x).Add), rdE u108n1 ((nth q.Acts x).Bar), rdE u108n0 ((nth q.Acts x).Need), rowE 22 v3 (c3 : List (List Int)), blkE g1 (.cells #[I (q.Facts), vf, vg, va] 25), rdE vf q.First, rdE vg q.Goal, rdE va q.Acts] H114 := hS115
    refine wpL_o rfl ?_
    refine e_storeBlkA (cs' := #[u108n0, u108n1, u108n2, u108n3]) rfl rfl rfl Try.sizeOf37 rfl rfl (List.forall_mem_cons.2 ⟨(oneCell_rdL (hS115.rdl 4 rfl)), List.forall_mem_cons.2 ⟨(oneCell_rdL (hS115.rdl 3 rfl)), List.forall_mem_cons.2 ⟨(oneCell_rdL (hS115.rdl 2 rfl)), List.forall_mem_cons.2 ⟨(oneCell_rdL (hS115.rdl 1 rfl)), List.forall_mem_nil _⟩⟩⟩⟩) hS115 (fun H116 hS117 hxx => ?_)
    replace hS117 : St H0 NoB (fun b => S b ∧ b < H0.size) [blkE g113 (.cells #[u108n0, u108n1, u108n2, u108n3] 37), rdE u108n3 ((nth q.Acts x).Drop), rdE u108n2 ((nth q.Acts x).Add), rdE u108n1 ((nth q.Acts x).Bar), rdE u108n0 ((nth q.Acts x).Need), rowE 22 v3 (c3 : List (List Int)), blkE g1 (.cells #[I (q.Facts), vf, vg, va] 25), rdE vf q.First, rdE vg q.Goal, rdE va q.Acts] H116 := hS117
    exact ⟨u108n0, u108n1, u108n2, u108n3, g113, a106_1, a106_2, a106_5, a106_6, a106_7, a106_9, a106_14, b107, rfl, hS117⟩
  rintro f118 H118 ⟨u108n0, u108n1, u108n2, u108n3, g113, a118_1, a118_2, a118_5, a118_6, a118_7, a118_9, a118_14, a118_15, a118_16, hS118⟩
  clear a106_1 a106_14 a106_2 a106_5 a106_6 a106_7 a106_9
  refine wpF_seq ?_
  refine wpF_seq ?_
  refine wpF_cut (fun f H => f 1 = I (n) ∧ f 2 = PT g1 0 ∧ f 5 = v3 ∧ f 6 = I ((q.Acts.length : Int)) ∧ f 7 = I ((n + 1) * q.Facts) ∧ f 9 = I ((u : Int)) ∧ f 14 = I ((x : Int)) ∧ f 15 = I (-actV q n x (u : Int)) ∧ f 16 = PT g113 0 ∧ f 17 = I (0) ∧ H118 = H) ?_ ?_
  · refine wpF_region ?_
    refine wpL_q (U := NoB) rfl (q_assign (v := I (0)) rfl rfl) ?_
    exact ⟨a118_1, a118_2, a118_5, a118_6, a118_7, a118_9, a118_14, a118_15, a118_16, rfl, rfl⟩
  rintro f119 _ ⟨a119_1, a119_2, a119_5, a119_6, a119_7, a119_9, a119_14, a119_15, a119_16, a119_17, rfl⟩
  clear a118_1 a118_14 a118_15 a118_16 a118_2 a118_5 a118_6 a118_7 a118_9
  refine wpF_block ?_
  refine wpF_loop (fun mz f H => ∃ (i : Nat), ∃ (c4 : List (List Int)), ∃ (v4 : Value), mz = (nth q.Acts x).Need.length - i ∧ (i ≤ (nth q.Acts x).Need.length) ∧ (c4.length ≤ c3.length + i) ∧ (c4 = c3 ++ tPos q (u : Int) (-actV q n x (u : Int)) ((nth q.Acts x).Need.take i)) ∧ f 1 = I (n) ∧ f 2 = PT g1 0 ∧ f 5 = v4 ∧ f 6 = I ((q.Acts.length : Int)) ∧ f 7 = I ((n + 1) * q.Facts) ∧ f 9 = I ((u : Int)) ∧ f 14 = I ((x : Int)) ∧ f 15 = I (-actV q n x (u : Int)) ∧ f 16 = PT g113 0 ∧ f 17 = I ((i : Int)) ∧ St H0 NoB (fun b => S b ∧ b < H0.size) [rowE 22 v4 (c4 : List (List Int)), blkE g113 (.cells #[u108n0, u108n1, u108n2, u108n3] 37), rdE u108n3 ((nth q.Acts x).Drop), rdE u108n2 ((nth q.Acts x).Add), rdE u108n1 ((nth q.Acts x).Bar), rdE u108n0 ((nth q.Acts x).Need), blkE g1 (.cells #[I (q.Facts), vf, vg, va] 25), rdE vf q.First, rdE vg q.Goal, rdE va q.Acts] H) ((nth q.Acts x).Need.length - 0) ?_ ?_
  · exact ⟨0, c3, v3, rfl, Nat.zero_le _, (Nat.le_refl _), (by simp [tPos, tNeg]), a119_1, a119_2, a119_5, a119_6, a119_7, a119_9, a119_14, a119_15, a119_16, (Eq.trans a119_17 (congrArg I (by omega))), (St.drop (show St H0 NoB (fun b => S b ∧ b < H0.size) [rowE 22 v3 (c3 : List (List Int)), blkE g113 (.cells #[u108n0, u108n1, u108n2, u108n3] 37), rdE u108n3 ((nth q.Acts x).Drop), rdE u108n2 ((nth q.Acts x).Add), rdE u108n1 ((nth q.Acts x).Bar), rdE u108n0 ((nth q.Acts x).Need), blkE g1 (.cells #[I (q.Facts), vf, vg, va] 25), rdE vf q.First, rdE vg q.Goal, rdE va q.Acts] H118 from (hS118.front 5 rfl)) (sk (sk (sk (sk (sk (sk (sk (sk (sk (sk (List.Sublist.slnil))))))))))))⟩
  intro m120 f120 H120 hI120
  obtain ⟨i, c4, v4, hm120, hi, li, ei, a120_1, a120_2, a120_5, a120_6, a120_7, a120_9, a120_14, a120_15, a120_16, a120_17, hS120⟩ := hI120
  clear a119_1 a119_14 a119_15 a119_16 a119_17 a119_2 a119_5 a119_6 a119_7 a119_9
  refine wpF_seq ?_
  refine wpF_seq ?_
  refine wpF_cut (fun f H => f 1 = I (n) ∧ f 2 = PT g1 0 ∧ f 5 = v4 ∧ f 6 = I ((q.Acts.length : Int)) ∧ f 7 = I ((n + 1) * q.Facts) ∧ f 9 = I ((u : Int)) ∧ f 14 = I ((x : Int)) ∧ f 15 = I (-actV q n x (u : Int)) ∧ f 16 = PT g113 0 ∧ f 17 = I ((i : Int)) ∧ f 139 = B (decide ((i : Int) < (((nth q.Acts x).Need).length : Int))) ∧ H120 = H) ?_ ?_
  · refine wpF_region ?_
    refine wpL_q (U := NoB) rfl (q_move (v := I ((i : Int))) rfl a120_17) ?_
    refine wpL_q (U := NoB) rfl (q_fieldAddr rfl Try.underlying37 rfl Try.sizeOf22 a120_16) ?_
    refine wpL_q (U := NoB) rfl (q_loadBlk rfl rfl Try.isAgg22 (hS120.blk 1 rfl) rfl (fun h => h)) ?_
    refine wpL_q (U := NoB) rfl (q_lenRd rfl Try.underlying22 rfl (hS120.rdl 5 rfl)) ?_
    refine wpL_q (U := NoB) rfl (q_lss rfl rfl rfl) ?_
    exact ⟨a120_1, a120_2, a120_5, a120_6, a120_7, a120_9, a120_14, a120_15, a120_16, a120_17, rfl, rfl⟩
  rintro f121 _ ⟨a121_1, a121_2, a121_5, a121_6, a121_7, a121_9, a121_14, a121_15, a121_16, a121_17, a121_139, rfl⟩
  clear a120_1 a120_14 a120_15 a120_16 a120_17 a120_2 a120_5 a120_6 a120_7 a120_9
  refine wpF_condP a121_139 (fun c139 => ?t151) (fun c139 => ?e151)
  case t151 =>
    have hfr := hfm.1.1.1.mem (nth_mem (l := (nth q.Acts x).Need) (k := i) (by omega))
    refine wpF_skip ?_
    refine wpF_seq ?_
    refine wpF_block ?_
    refine wpF_cut (fun f H => ∃ (v123o15 : Value), f 1 = I (n) ∧ f 2 = PT g1 0 ∧ f 5 = v123o15 ∧ f 6 = I ((q.Acts.length : Int)) ∧ f 7 = I ((n + 1) * q.Facts) ∧ f 9 = I ((u : Int)) ∧ f 14 = I ((x : Int)) ∧ f 15 = I (-actV q n x (u : Int)) ∧ f 16 = PT g113 0 ∧ f 17 = I ((i : Int)) ∧ St H0 NoB (fun b => S b ∧ b < H0.size) [rowE 22 v123o15 (c4 ++ ([[(((u : Int) * q.Facts) + (nth ((nth q.Acts x).Need) i)) + 1, -actV q n x (u : Int)]]) : List (List Int)), blkE g113 (.cells #[u108n0, u108n1, u108n2, u108n3] 37), rdE u108n3 ((nth q.Acts x).Drop), rdE u108n2 ((nth q.Acts x).Add), rdE u108n1 ((nth q.Acts x).Bar), rdE u108n0 ((nth q.Acts x).Need), blkE g1 (.cells #[I (q.Facts), vf, vg, va] 25), rdE vf q.First, rdE vg q.Goal, rdE va q.Acts] H) ?_ ?_
    · refine wpF_drawn [none, none, none, none, none, none, none, none, none, none, none, none, none, none, none, some 0, none] [[], [], [], [], [], [], [], [], [], [], [], [], [], [], [], [], []] (fun l b => match l with | 0 => True | _ => False) (by kernel_rfl) (by kernel_rfl) ?_
      refine wpR_q 0 (by kernel_rfl) rfl (quietAt rfl rfl (q_move (v := v4) rfl a121_5)) ?_
      refine wpR_q 1 (by kernel_rfl) rfl (quietAt rfl rfl (q_move (v := I ((u : Int))) rfl a121_9)) ?_
      refine wpR_q 2 (by kernel_rfl) rfl (quietAt rfl rfl (q_fieldAddr rfl Try.underlying25 rfl Try.sizeOf3 a121_2)) ?_
      refine wpR_q 3 (by kernel_rfl) rfl (quietAt rfl rfl (q_loadBlk rfl rfl Try.isAgg3 (hS120.blk 6 rfl) rfl (labU_not [] rfl (List.forall_mem_nil _)))) ?_
      refine wpR_q 4 (by kernel_rfl) rfl (quietAt rfl rfl (q_mul rfl rfl rfl (by constructor <;> omega))) ?_
      refine wpR_q 5 (by kernel_rfl) rfl (quietAt rfl rfl (q_fieldAddr rfl Try.underlying37 rfl Try.sizeOf22 a121_16)) ?_
      refine wpR_q 6 (by kernel_rfl) rfl (quietAt rfl rfl (q_loadBlk rfl rfl Try.isAgg22 (hS120.blk 1 rfl) rfl (labU_not [] rfl (List.forall_mem_nil _)))) ?_
      refine wpR_q 7 (by kernel_rfl) rfl (quietAt rfl rfl (q_move (v := I ((i : Int))) rfl a121_17)) ?_
      refine wpR_q 8 (by kernel_rfl) rfl (quietAt rfl rfl (q_indexRd (k := i) rfl Try.underlying22 el_Int_3_StepR1 rfl rfl (hS120.rdl 5 rfl) (by omega) (by omega))) ?_
      refine wpR_q 9 (by kernel_rfl) rfl (quietAt rfl rfl (q_loadInt (k := i) rfl rfl el_Int_3_StepR1 (hS120.rdl 5 rfl) (by omega) (labU_sub [] rfl (List.forall_mem_nil _)))) ?_
      refine wpR_q 10 (by kernel_rfl) rfl (quietAt rfl rfl (q_add rfl rfl rfl (by constructor <;> omega))) ?_
      refine wpR_q 11 (by kernel_rfl) rfl (quietAt rfl rfl (q_add rfl rfl rfl (by constructor <;> omega))) ?_
      refine wpR_q 12 (by kernel_rfl) rfl (quietAt rfl rfl (q_move (v := I (-actV q n x (u : Int))) rfl a121_15)) ?_
      refine wpR_n [13] (by kernel_rfl) ?_
      refine List.forall_mem_cons.2 ⟨?_, List.forall_mem_nil _⟩
      refine exE rfl rfl ?_
      refine e_buildSlice (vs := [I ((((u : Int) * q.Facts) + (nth ((nth q.Acts x).Need) i)) + 1), I (-actV q n x (u : Int))]) (xs := ([(((u : Int) * q.Facts) + (nth ((nth q.Acts x).Need) i)) + 1, -actV q n x (u : Int)] : List Int)) rfl Try.underlying22 Try.zeroValue3 rfl Try.sizeOf3 (par2 (v0 := I ((((u : Int) * q.Facts) + (nth ((nth q.Acts x).Need) i)) + 1)) (v1 := I (-actV q n x (u : Int))) rfl rfl) rfl hS120 (RdVs.cons (Rd.int.2 ⟨rfl, by first | assumption | (constructor <;> omega)⟩) (RdVs.cons (Rd.int.2 ⟨rfl, by first | assumption | (constructor <;> omega)⟩) (RdVs.nil))) (by decide) (by decide) (fun v123o13 H123o13 hS123o13 hxx hvv123o13 => ?_)
      replace hS123o13 : St H0 NoB (fun b => S b ∧ b < H0.size) [rowE 3 v123o13 ([(((u : Int) * q.Facts) + (nth ((nth q.Acts x).Need) i)) + 1, -actV q n x (u : Int)] : List Int), rowE 22 v4 (c4 : List (List Int)), blkE g113 (.cells #[u108n0, u108n1, u108n2, u108n3] 37), rdE u108n3 ((nth q.Acts x).Drop), rdE u108n2 ((nth q.Acts x).Add), rdE u108n1 ((nth q.Acts x).Bar), rdE u108n0 ((nth q.Acts x).Need), blkE g1 (.cells #[I (q.Facts), vf, vg, va] 25), rdE vf q.First, rdE vg q.Goal, rdE va q.Acts] H123o13 := hS123o13
      refine ⟨Ext.mono hxx (fun _ h => h.elim), ?_⟩
      refine wpR_n [14] (by kernel_rfl) ?_
      refine List.forall_mem_cons.2 ⟨?_, List.forall_mem_nil _⟩
      have hS123o14 : St H0 NoB (fun b => S b ∧ b < H0.size) [rdE v123o13 ([(((u : Int) * q.Facts) + (nth ((nth q.Acts x).Need) i)) + 1, -actV q n x (u : Int)] : List Int), rowE 22 v4 (c4 : List (List Int)), blkE g113 (.cells #[u108n0, u108n1, u108n2, u108n3] 37), rdE u108n3 ((nth q.Acts x).Drop), rdE u108n2 ((nth q.Acts x).Add), rdE u108n1 ((nth q.Acts x).Bar), rdE u108n0 ((nth q.Acts x).Need), blkE g1 (.cells #[I (q.Facts), vf, vg, va] 25), rdE vf q.First, rdE vg q.Goal, rdE va q.Acts] H123o13 := St.fin hS123o13
      refine exE rfl rfl ?_
      refine e_buildSlice (vs := [v123o13]) (xs := ([[(((u : Int) * q.Facts) + (nth ((nth q.Acts x).Need) i)) + 1, -actV q n x (u : Int)]] : List (List Int))) rfl Try.underlying56 Try.zeroValue22 rfl Try.sizeOf22 (par1 (v0 := v123o13) rfl) rfl hS123o14 (RdVs.cons (hS123o14.rdS 0 rfl) (RdVs.nil)) (by decide) (by decide) (fun v123o14 H123o14 hS123o14x2 hxx hvv123o14 => ?_)
      replace hS123o14x2 : St H0 NoB (fun b => S b ∧ b < H0.size) [rowE 22 v123o14 ([[(((u : Int) * q.Facts) + (nth ((nth q.Acts x).Need) i)) + 1, -actV q n x (u : Int)]] : List (List Int)), rdE v123o13 ([(((u : Int) * q.Facts) + (nth ((nth q.Acts x).Need) i)) + 1, -actV q n x (u : Int)] : List Int), rowE 22 v4 (c4 : List (List Int)), blkE g113 (.cells #[u108n0, u108n1, u108n2, u108n3] 37), rdE u108n3 ((nth q.Acts x).Drop), rdE u108n2 ((nth q.Acts x).Add), rdE u108n1 ((nth q.Acts x).Bar), rdE u108n0 ((nth q.Acts x).Need), blkE g1 (.cells #[I (q.Facts), vf, vg, va] 25), rdE vf q.First, rdE vg q.Goal, rdE va q.Acts] H123o14 := hS123o14x2
      refine ⟨Ext.mono hxx (fun _ h => h.elim), ?_⟩
      refine wpR_n [15] (by kernel_rfl) ?_
      refine List.forall_mem_cons.2 ⟨?_, List.forall_mem_nil _⟩
      have hS123o15 : St H0 NoB (fun b => S b ∧ b < H0.size) [rdE v123o14 ([[(((u : Int) * q.Facts) + (nth ((nth q.Acts x).Need) i)) + 1, -actV q n x (u : Int)]] : List (List Int)), rdE v123o13 ([(((u : Int) * q.Facts) + (nth ((nth q.Acts x).Need) i)) + 1, -actV q n x (u : Int)] : List Int), rowE 22 v4 (c4 : List (List Int)), blkE g113 (.cells #[u108n0, u108n1, u108n2, u108n3] 37), rdE u108n3 ((nth q.Acts x).Drop), rdE u108n2 ((nth q.Acts x).Add), rdE u108n1 ((nth q.Acts x).Bar), rdE u108n0 ((nth q.Acts x).Need), blkE g1 (.cells #[I (q.Facts), vf, vg, va] 25), rdE vf q.First, rdE vg q.Goal, rdE va q.Acts] H123o14 := St.fin hS123o14x2
      have hS123o15x2 : St H0 NoB (fun b => S b ∧ b < H0.size) [rowE 22 v4 (c4 : List (List Int)), rdE v123o14 ([[(((u : Int) * q.Facts) + (nth ((nth q.Acts x).Need) i)) + 1, -actV q n x (u : Int)]] : List (List Int)), rdE v123o13 ([(((u : Int) * q.Facts) + (nth ((nth q.Acts x).Need) i)) + 1, -actV q n x (u : Int)] : List Int), blkE g113 (.cells #[u108n0, u108n1, u108n2, u108n3] 37), rdE u108n3 ((nth q.Acts x).Drop), rdE u108n2 ((nth q.Acts x).Add), rdE u108n1 ((nth q.Acts x).Bar), rdE u108n0 ((nth q.Acts x).Need), blkE g1 (.cells #[I (q.Facts), vf, vg, va] 25), rdE vf q.First, rdE vg q.Goal, rdE va q.Acts] H123o14 := (hS123o15.front 2 rfl)
      refine exE rfl rfl ?_
      refine e_append rfl Try.underlying56 em_LInt_22_StepR1 rfl rfl hS123o15x2 (hS123o15x2.rdS 1 rfl) (fun _ h => h) (by have hb : GoT.bytes (List Int) = 24 := rfl; simp [hb]; omega) (by decide) (fun v123o15 H123o15 hS123o15x3 hxx => ?_)
      replace hS123o15x3 : St H0 NoB (fun b => S b ∧ b < H0.size) [rowE 22 v123o15 (c4 ++ ([[(((u : Int) * q.Facts) + (nth ((nth q.Acts x).Need) i)) + 1, -actV q n x (u : Int)]]) : List (List Int)), rdE v123o14 ([[(((u : Int) * q.Facts) + (nth ((nth q.Acts x).Need) i)) + 1, -actV q n x (u : Int)]] : List (List Int)), rdE v123o13 ([(((u : Int) * q.Facts) + (nth ((nth q.Acts x).Need) i)) + 1, -actV q n x (u : Int)] : List Int), blkE g113 (.cells #[u108n0, u108n1, u108n2, u108n3] 37), rdE u108n3 ((nth q.Acts x).Drop), rdE u108n2 ((nth q.Acts x).Add), rdE u108n1 ((nth q.Acts x).Bar), rdE u108n0 ((nth q.Acts x).Need), blkE g1 (.cells #[I (q.Facts), vf, vg, va] 25), rdE vf q.First, rdE vg q.Goal, rdE va q.Acts] H123o15 := hS123o15x3
      refine ⟨Ext.mono hxx (labS_of 0 rfl (fun _ _ => trivial)), ?_⟩
      refine wpR_q 16 (by kernel_rfl) rfl (quietAt rfl rfl (q_assign (v := v123o15) rfl rfl)) ?_
      refine wpR_end (by kernel_rfl) ?_
      exact ⟨v123o15, a121_1, a121_2, rfl, a121_6, a121_7, a121_9, a121_14, a121_15, a121_16, a121_17, (hS123o15x3.drop (sk (sn (sn (sk (sk (sk (sk (sk (sk (sk (sk (sk (List.Sublist.slnil))))))))))))))⟩
    rintro f124 H124 ⟨v123o15, a124_1, a124_2, a124_5, a124_6, a124_7, a124_9, a124_14, a124_15, a124_16, a124_17, hS124⟩
    clear a121_1 a121_139 a121_14 a121_15 a121_16 a121_17 a121_2 a121_5 a121_6 a121_7 a121_9
    refine wpF_cut (fun f H => f 1 = I (n) ∧ f 2 = PT g1 0 ∧ f 5 = v123o15 ∧ f 6 = I ((q.Acts.length : Int)) ∧ f 7 = I ((n + 1) * q.Facts) ∧ f 9 = I ((u : Int)) ∧ f 14 = I ((x : Int)) ∧ f 15 = I (-actV q n x (u : Int)) ∧ f 16 = PT g113 0 ∧ f 17 = I ((i : Int) + 1) ∧ H124 = H) ?_ ?_
    · refine wpF_region ?_
      refine wpL_q (U := NoB) rfl (q_move (v := I ((i : Int))) rfl a124_17) ?_
      refine wpL_q (U := NoB) rfl (q_add rfl rfl rfl (by constructor <;> omega)) ?_
      refine wpL_q (U := NoB) rfl (q_assign (v := I ((i : Int) + 1)) rfl rfl) ?_
      exact ⟨a124_1, a124_2, a124_5, a124_6, a124_7, a124_9, a124_14, a124_15, a124_16, rfl, rfl⟩
    rintro f125 _ ⟨a125_1, a125_2, a125_5, a125_6, a125_7, a125_9, a125_14, a125_15, a125_16, a125_17, rfl⟩
    clear a124_1 a124_14 a124_15 a124_16 a124_17 a124_2 a124_5 a124_6 a124_7 a124_9
    refine ⟨_, ?_, i + 1, c4 ++ ([[(((u : Int) * q.Facts) + (nth ((nth q.Acts x).Need) i)) + 1, -actV q n x (u : Int)]]), v123o15, rfl, (by omega), (by rw [List.length_append, List.length_singleton]; omega), (by rw [ei, tPos_next (by omega), List.append_assoc]; first | done | rfl), a125_1, a125_2, a125_5, a125_6, a125_7, a125_9, a125_14, a125_15, a125_16, (Eq.trans a125_17 (congrArg I (by omega))), (show St H0 NoB (fun b => S b ∧ b < H0.size) [rowE 22 v123o15 ((c4 ++ ([[(((u : Int) * q.Facts) + (nth ((nth q.Acts x).Need) i)) + 1, -actV q n x (u : Int)]])) : List (List Int)), blkE g113 (.cells #[u108n0, u108n1, u108n2, u108n3] 37), rdE u108n3 ((nth q.Acts x).Drop), rdE u108n2 ((nth q.Acts x).Add), rdE u108n1 ((nth q.Acts x).Bar), rdE u108n0 ((nth q.Acts x).Need), blkE g1 (.cells #[I (q.Facts), vf, vg, va] 25), rdE vf q.First, rdE vg q.Goal, rdE va q.Acts] H124 from hS124)⟩
    omega
  rw [List.take_of_length_le (by omega)] at ei
  refine wpF_exit ?_
  refine atX_here ?_
  refine wpF_seq ?_
  refine wpF_seq ?_
  refine wpF_cut (fun f H => f 1 = I (n) ∧ f 2 = PT g1 0 ∧ f 5 = v4 ∧ f 6 = I ((q.Acts.length : Int)) ∧ f 7 = I ((n + 1) * q.Facts) ∧ f 9 = I ((u : Int)) ∧ f 14 = I ((x : Int)) ∧ f 15 = I (-actV q n x (u : Int)) ∧ f 16 = PT g113 0 ∧ f 18 = I (0) ∧ H120 = H) ?_ ?_
  · refine wpF_region ?_
    refine wpL_q (U := NoB) rfl (q_assign (v := I (0)) rfl rfl) ?_
    exact ⟨a121_1, a121_2, a121_5, a121_6, a121_7, a121_9, a121_14, a121_15, a121_16, rfl, rfl⟩
  rintro f126 _ ⟨a126_1, a126_2, a126_5, a126_6, a126_7, a126_9, a126_14, a126_15, a126_16, a126_18, rfl⟩
  clear a121_1 a121_139 a121_14 a121_15 a121_16 a121_17 a121_2 a121_5 a121_6 a121_7 a121_9
  refine wpF_block ?_
  refine wpF_loop (fun mz f H => ∃ (j : Nat), ∃ (c5 : List (List Int)), ∃ (v5 : Value), mz = (nth q.Acts x).Bar.length - j ∧ (j ≤ (nth q.Acts x).Bar.length) ∧ (c5.length ≤ c4.length + j) ∧ (c5 = c4 ++ tNeg q (u : Int) (-actV q n x (u : Int)) ((nth q.Acts x).Bar.take j)) ∧ f 1 = I (n) ∧ f 2 = PT g1 0 ∧ f 5 = v5 ∧ f 6 = I ((q.Acts.length : Int)) ∧ f 7 = I ((n + 1) * q.Facts) ∧ f 9 = I ((u : Int)) ∧ f 14 = I ((x : Int)) ∧ f 15 = I (-actV q n x (u : Int)) ∧ f 16 = PT g113 0 ∧ f 18 = I ((j : Int)) ∧ St H0 NoB (fun b => S b ∧ b < H0.size) [rowE 22 v5 (c5 : List (List Int)), blkE g113 (.cells #[u108n0, u108n1, u108n2, u108n3] 37), rdE u108n3 ((nth q.Acts x).Drop), rdE u108n2 ((nth q.Acts x).Add), rdE u108n1 ((nth q.Acts x).Bar), rdE u108n0 ((nth q.Acts x).Need), blkE g1 (.cells #[I (q.Facts), vf, vg, va] 25), rdE vf q.First, rdE vg q.Goal, rdE va q.Acts] H) ((nth q.Acts x).Bar.length - 0) ?_ ?_
  · exact ⟨0, c4, v4, rfl, Nat.zero_le _, (Nat.le_refl _), (by simp [tPos, tNeg]), a126_1, a126_2, a126_5, a126_6, a126_7, a126_9, a126_14, a126_15, a126_16, (Eq.trans a126_18 (congrArg I (by omega))), hS120⟩
  intro m127 f127 H127 hI127
  obtain ⟨j, c5, v5, hm127, hj, lj, ej, a127_1, a127_2, a127_5, a127_6, a127_7, a127_9, a127_14, a127_15, a127_16, a127_18, hS127⟩ := hI127
  clear a126_1 a126_14 a126_15 a126_16 a126_18 a126_2 a126_5 a126_6 a126_7 a126_9
  refine wpF_seq ?_
  refine wpF_seq ?_
  refine wpF_cut (fun f H => f 1 = I (n) ∧ f 2 = PT g1 0 ∧ f 5 = v5 ∧ f 6 = I ((q.Acts.length : Int)) ∧ f 7 = I ((n + 1) * q.Facts) ∧ f 9 = I ((u : Int)) ∧ f 14 = I ((x : Int)) ∧ f 15 = I (-actV q n x (u : Int)) ∧ f 16 = PT g113 0 ∧ f 18 = I ((j : Int)) ∧ f 162 = B (decide ((j : Int) < (((nth q.Acts x).Bar).length : Int))) ∧ H127 = H) ?_ ?_
  · refine wpF_region ?_
    refine wpL_q (U := NoB) rfl (q_move (v := I ((j : Int))) rfl a127_18) ?_
    refine wpL_q (U := NoB) rfl (q_fieldAddr rfl Try.underlying37 rfl Try.sizeOf22 a127_16) ?_
    refine wpL_q (U := NoB) rfl (q_loadBlk rfl rfl Try.isAgg22 (hS127.blk 1 rfl) rfl (fun h => h)) ?_
    refine wpL_q (U := NoB) rfl (q_lenRd rfl Try.underlying22 rfl (hS127.rdl 4 rfl)) ?_
    refine wpL_q (U := NoB) rfl (q_lss rfl rfl rfl) ?_
    exact ⟨a127_1, a127_2, a127_5, a127_6, a127_7, a127_9, a127_14, a127_15, a127_16, a127_18, rfl, rfl⟩
  rintro f128 _ ⟨a128_1, a128_2, a128_5, a128_6, a128_7, a128_9, a128_14, a128_15, a128_16, a128_18, a128_162, rfl⟩
  clear a127_1 a127_14 a127_15 a127_16 a127_18 a127_2 a127_5 a127_6 a127_7 a127_9
  refine wpF_condP a128_162 (fun c162 => ?t150) (fun c162 => ?e150)
  case t150 =>
    have hfr := hfm.1.1.2.mem (nth_mem (l := (nth q.Acts x).Bar) (k := j) (by omega))
    refine wpF_skip ?_
    refine wpF_seq ?_
    refine wpF_block ?_
    refine wpF_cut (fun f H => ∃ (v130o16 : Value), f 1 = I (n) ∧ f 2 = PT g1 0 ∧ f 5 = v130o16 ∧ f 6 = I ((q.Acts.length : Int)) ∧ f 7 = I ((n + 1) * q.Facts) ∧ f 9 = I ((u : Int)) ∧ f 14 = I ((x : Int)) ∧ f 15 = I (-actV q n x (u : Int)) ∧ f 16 = PT g113 0 ∧ f 18 = I ((j : Int)) ∧ St H0 NoB (fun b => S b ∧ b < H0.size) [rowE 22 v130o16 (c5 ++ ([[-((((u : Int) * q.Facts) + (nth ((nth q.Acts x).Bar) j)) + 1), -actV q n x (u : Int)]]) : List (List Int)), blkE g113 (.cells #[u108n0, u108n1, u108n2, u108n3] 37), rdE u108n3 ((nth q.Acts x).Drop), rdE u108n2 ((nth q.Acts x).Add), rdE u108n1 ((nth q.Acts x).Bar), rdE u108n0 ((nth q.Acts x).Need), blkE g1 (.cells #[I (q.Facts), vf, vg, va] 25), rdE vf q.First, rdE vg q.Goal, rdE va q.Acts] H) ?_ ?_
    · refine wpF_drawn [none, none, none, none, none, none, none, none, none, none, none, none, none, none, none, none, some 0, none] [[], [], [], [], [], [], [], [], [], [], [], [], [], [], [], [], [], []] (fun l b => match l with | 0 => True | _ => False) (by kernel_rfl) (by kernel_rfl) ?_
      refine wpR_q 0 (by kernel_rfl) rfl (quietAt rfl rfl (q_move (v := v5) rfl a128_5)) ?_
      refine wpR_q 1 (by kernel_rfl) rfl (quietAt rfl rfl (q_move (v := I ((u : Int))) rfl a128_9)) ?_
      refine wpR_q 2 (by kernel_rfl) rfl (quietAt rfl rfl (q_fieldAddr rfl Try.underlying25 rfl Try.sizeOf3 a128_2)) ?_
      refine wpR_q 3 (by kernel_rfl) rfl (quietAt rfl rfl (q_loadBlk rfl rfl Try.isAgg3 (hS127.blk 6 rfl) rfl (labU_not [] rfl (List.forall_mem_nil _)))) ?_
      refine wpR_q 4 (by kernel_rfl) rfl (quietAt rfl rfl (q_mul rfl rfl rfl (by constructor <;> omega))) ?_
      refine wpR_q 5 (by kernel_rfl) rfl (quietAt rfl rfl (q_fieldAddr rfl Try.underlying37 rfl Try.sizeOf22 a128_16)) ?_
      refine wpR_q 6 (by kernel_rfl) rfl (quietAt rfl rfl (q_loadBlk rfl rfl Try.isAgg22 (hS127.blk 1 rfl) rfl (labU_not [] rfl (List.forall_mem_nil _)))) ?_
      refine wpR_q 7 (by kernel_rfl) rfl (quietAt rfl rfl (q_move (v := I ((j : Int))) rfl a128_18)) ?_
      refine wpR_q 8 (by kernel_rfl) rfl (quietAt rfl rfl (q_indexRd (k := j) rfl Try.underlying22 el_Int_3_StepR1 rfl rfl (hS127.rdl 4 rfl) (by omega) (by omega))) ?_
      refine wpR_q 9 (by kernel_rfl) rfl (quietAt rfl rfl (q_loadInt (k := j) rfl rfl el_Int_3_StepR1 (hS127.rdl 4 rfl) (by omega) (labU_sub [] rfl (List.forall_mem_nil _)))) ?_
      refine wpR_q 10 (by kernel_rfl) rfl (quietAt rfl rfl (q_add rfl rfl rfl (by constructor <;> omega))) ?_
      refine wpR_q 11 (by kernel_rfl) rfl (quietAt rfl rfl (q_add rfl rfl rfl (by constructor <;> omega))) ?_
      refine wpR_q 12 (by kernel_rfl) rfl (quietAt rfl rfl (q_neg rfl rfl (by constructor <;> omega))) ?_
      refine wpR_q 13 (by kernel_rfl) rfl (quietAt rfl rfl (q_move (v := I (-actV q n x (u : Int))) rfl a128_15)) ?_
      refine wpR_n [14] (by kernel_rfl) ?_
      refine List.forall_mem_cons.2 ⟨?_, List.forall_mem_nil _⟩
      refine exE rfl rfl ?_
      refine e_buildSlice (vs := [I (-((((u : Int) * q.Facts) + (nth ((nth q.Acts x).Bar) j)) + 1)), I (-actV q n x (u : Int))]) (xs := ([-((((u : Int) * q.Facts) + (nth ((nth q.Acts x).Bar) j)) + 1), -actV q n x (u : Int)] : List Int)) rfl Try.underlying22 Try.zeroValue3 rfl Try.sizeOf3 (par2 (v0 := I (-((((u : Int) * q.Facts) + (nth ((nth q.Acts x).Bar) j)) + 1))) (v1 := I (-actV q n x (u : Int))) rfl rfl) rfl hS127 (RdVs.cons (Rd.int.2 ⟨rfl, by first | assumption | (constructor <;> omega)⟩) (RdVs.cons (Rd.int.2 ⟨rfl, by first | assumption | (constructor <;> omega)⟩) (RdVs.nil))) (by decide) (by decide) (fun v130o14 H130o14 hS130o14 hxx hvv130o14 => ?_)
      replace hS130o14 : St H0 NoB (fun b => S b ∧ b < H0.size) [rowE 3 v130o14 ([-((((u : Int) * q.Facts) + (nth ((nth q.Acts x).Bar) j)) + 1), -actV q n x (u : Int)] : List Int), rowE 22 v5 (c5 : List (List Int)), blkE g113 (.cells #[u108n0, u108n1, u108n2, u108n3] 37), rdE u108n3 ((nth q.Acts x).Drop), rdE u108n2 ((nth q.Acts x).Add), rdE u108n1 ((nth q.Acts x).Bar), rdE u108n0 ((nth q.Acts x).Need), blkE g1 (.cells #[I (q.Facts), vf, vg, va] 25), rdE vf q.First, rdE vg q.Goal, rdE va q.Acts] H130o14 := hS130o14
      refine ⟨Ext.mono hxx (fun _ h => h.elim), ?_⟩
      refine wpR_n [15] (by kernel_rfl) ?_
      refine List.forall_mem_cons.2 ⟨?_, List.forall_mem_nil _⟩
      have hS130o15 : St H0 NoB (fun b => S b ∧ b < H0.size) [rdE v130o14 ([-((((u : Int) * q.Facts) + (nth ((nth q.Acts x).Bar) j)) + 1), -actV q n x (u : Int)] : List Int), rowE 22 v5 (c5 : List (List Int)), blkE g113 (.cells #[u108n0, u108n1, u108n2, u108n3] 37), rdE u108n3 ((nth q.Acts x).Drop), rdE u108n2 ((nth q.Acts x).Add), rdE u108n1 ((nth q.Acts x).Bar), rdE u108n0 ((nth q.Acts x).Need), blkE g1 (.cells #[I (q.Facts), vf, vg, va] 25), rdE vf q.First, rdE vg q.Goal, rdE va q.Acts] H130o14 := St.fin hS130o14
      refine exE rfl rfl ?_
      refine e_buildSlice (vs := [v130o14]) (xs := ([[-((((u : Int) * q.Facts) + (nth ((nth q.Acts x).Bar) j)) + 1), -actV q n x (u : Int)]] : List (List Int))) rfl Try.underlying56 Try.zeroValue22 rfl Try.sizeOf22 (par1 (v0 := v130o14) rfl) rfl hS130o15 (RdVs.cons (hS130o15.rdS 0 rfl) (RdVs.nil)) (by decide) (by decide) (fun v130o15 H130o15 hS130o15x2 hxx hvv130o15 => ?_)
      replace hS130o15x2 : St H0 NoB (fun b => S b ∧ b < H0.size) [rowE 22 v130o15 ([[-((((u : Int) * q.Facts) + (nth ((nth q.Acts x).Bar) j)) + 1), -actV q n x (u : Int)]] : List (List Int)), rdE v130o14 ([-((((u : Int) * q.Facts) + (nth ((nth q.Acts x).Bar) j)) + 1), -actV q n x (u : Int)] : List Int), rowE 22 v5 (c5 : List (List Int)), blkE g113 (.cells #[u108n0, u108n1, u108n2, u108n3] 37), rdE u108n3 ((nth q.Acts x).Drop), rdE u108n2 ((nth q.Acts x).Add), rdE u108n1 ((nth q.Acts x).Bar), rdE u108n0 ((nth q.Acts x).Need), blkE g1 (.cells #[I (q.Facts), vf, vg, va] 25), rdE vf q.First, rdE vg q.Goal, rdE va q.Acts] H130o15 := hS130o15x2
      refine ⟨Ext.mono hxx (fun _ h => h.elim), ?_⟩
      refine wpR_n [16] (by kernel_rfl) ?_
      refine List.forall_mem_cons.2 ⟨?_, List.forall_mem_nil _⟩
      have hS130o16 : St H0 NoB (fun b => S b ∧ b < H0.size) [rdE v130o15 ([[-((((u : Int) * q.Facts) + (nth ((nth q.Acts x).Bar) j)) + 1), -actV q n x (u : Int)]] : List (List Int)), rdE v130o14 ([-((((u : Int) * q.Facts) + (nth ((nth q.Acts x).Bar) j)) + 1), -actV q n x (u : Int)] : List Int), rowE 22 v5 (c5 : List (List Int)), blkE g113 (.cells #[u108n0, u108n1, u108n2, u108n3] 37), rdE u108n3 ((nth q.Acts x).Drop), rdE u108n2 ((nth q.Acts x).Add), rdE u108n1 ((nth q.Acts x).Bar), rdE u108n0 ((nth q.Acts x).Need), blkE g1 (.cells #[I (q.Facts), vf, vg, va] 25), rdE vf q.First, rdE vg q.Goal, rdE va q.Acts] H130o15 := St.fin hS130o15x2
      have hS130o16x2 : St H0 NoB (fun b => S b ∧ b < H0.size) [rowE 22 v5 (c5 : List (List Int)), rdE v130o15 ([[-((((u : Int) * q.Facts) + (nth ((nth q.Acts x).Bar) j)) + 1), -actV q n x (u : Int)]] : List (List Int)), rdE v130o14 ([-((((u : Int) * q.Facts) + (nth ((nth q.Acts x).Bar) j)) + 1), -actV q n x (u : Int)] : List Int), blkE g113 (.cells #[u108n0, u108n1, u108n2, u108n3] 37), rdE u108n3 ((nth q.Acts x).Drop), rdE u108n2 ((nth q.Acts x).Add), rdE u108n1 ((nth q.Acts x).Bar), rdE u108n0 ((nth q.Acts x).Need), blkE g1 (.cells #[I (q.Facts), vf, vg, va] 25), rdE vf q.First, rdE vg q.Goal, rdE va q.Acts] H130o15 := (hS130o16.front 2 rfl)
      refine exE rfl rfl ?_
      refine e_append rfl Try.underlying56 em_LInt_22_StepR1 rfl rfl hS130o16x2 (hS130o16x2.rdS 1 rfl) (fun _ h => h) (by have hb : GoT.bytes (List Int) = 24 := rfl; simp [hb]; omega) (by decide) (fun v130o16 H130o16 hS130o16x3 hxx => ?_)
      replace hS130o16x3 : St H0 NoB (fun b => S b ∧ b < H0.size) [rowE 22 v130o16 (c5 ++ ([[-((((u : Int) * q.Facts) + (nth ((nth q.Acts x).Bar) j)) + 1), -actV q n x (u : Int)]]) : List (List Int)), rdE v130o15 ([[-((((u : Int) * q.Facts) + (nth ((nth q.Acts x).Bar) j)) + 1), -actV q n x (u : Int)]] : List (List Int)), rdE v130o14 ([-((((u : Int) * q.Facts) + (nth ((nth q.Acts x).Bar) j)) + 1), -actV q n x (u : Int)] : List Int), blkE g113 (.cells #[u108n0, u108n1, u108n2, u108n3] 37), rdE u108n3 ((nth q.Acts x).Drop), rdE u108n2 ((nth q.Acts x).Add), rdE u108n1 ((nth q.Acts x).Bar), rdE u108n0 ((nth q.Acts x).Need), blkE g1 (.cells #[I (q.Facts), vf, vg, va] 25), rdE vf q.First, rdE vg q.Goal, rdE va q.Acts] H130o16 := hS130o16x3
      refine ⟨Ext.mono hxx (labS_of 0 rfl (fun _ _ => trivial)), ?_⟩
      refine wpR_q 17 (by kernel_rfl) rfl (quietAt rfl rfl (q_assign (v := v130o16) rfl rfl)) ?_
      refine wpR_end (by kernel_rfl) ?_
      exact ⟨v130o16, a128_1, a128_2, rfl, a128_6, a128_7, a128_9, a128_14, a128_15, a128_16, a128_18, (hS130o16x3.drop (sk (sn (sn (sk (sk (sk (sk (sk (sk (sk (sk (sk (List.Sublist.slnil))))))))))))))⟩
    rintro f131 H131 ⟨v130o16, a131_1, a131_2, a131_5, a131_6, a131_7, a131_9, a131_14, a131_15, a131_16, a131_18, hS131⟩
    clear a128_1 a128_14 a128_15 a128_16 a128_162 a128_18 a128_2 a128_5 a128_6 a128_7 a128_9
    refine wpF_cut (fun f H => f 1 = I (n) ∧ f 2 = PT g1 0 ∧ f 5 = v130o16 ∧ f 6 = I ((q.Acts.length : Int)) ∧ f 7 = I ((n + 1) * q.Facts) ∧ f 9 = I ((u : Int)) ∧ f 14 = I ((x : Int)) ∧ f 15 = I (-actV q n x (u : Int)) ∧ f 16 = PT g113 0 ∧ f 18 = I ((j : Int) + 1) ∧ H131 = H) ?_ ?_
    · refine wpF_region ?_
      refine wpL_q (U := NoB) rfl (q_move (v := I ((j : Int))) rfl a131_18) ?_
      refine wpL_q (U := NoB) rfl (q_add rfl rfl rfl (by constructor <;> omega)) ?_
      refine wpL_q (U := NoB) rfl (q_assign (v := I ((j : Int) + 1)) rfl rfl) ?_
      exact ⟨a131_1, a131_2, a131_5, a131_6, a131_7, a131_9, a131_14, a131_15, a131_16, rfl, rfl⟩
    rintro f132 _ ⟨a132_1, a132_2, a132_5, a132_6, a132_7, a132_9, a132_14, a132_15, a132_16, a132_18, rfl⟩
    clear a131_1 a131_14 a131_15 a131_16 a131_18 a131_2 a131_5 a131_6 a131_7 a131_9
    refine ⟨_, ?_, j + 1, c5 ++ ([[-((((u : Int) * q.Facts) + (nth ((nth q.Acts x).Bar) j)) + 1), -actV q n x (u : Int)]]), v130o16, rfl, (by omega), (by rw [List.length_append, List.length_singleton]; omega), (by rw [ej, tNeg_next (by omega), List.append_assoc]; first | done | rfl), a132_1, a132_2, a132_5, a132_6, a132_7, a132_9, a132_14, a132_15, a132_16, (Eq.trans a132_18 (congrArg I (by omega))), (show St H0 NoB (fun b => S b ∧ b < H0.size) [rowE 22 v130o16 ((c5 ++ ([[-((((u : Int) * q.Facts) + (nth ((nth q.Acts x).Bar) j)) + 1), -actV q n x (u : Int)]])) : List (List Int)), blkE g113 (.cells #[u108n0, u108n1, u108n2, u108n3] 37), rdE u108n3 ((nth q.Acts x).Drop), rdE u108n2 ((nth q.Acts x).Add), rdE u108n1 ((nth q.Acts x).Bar), rdE u108n0 ((nth q.Acts x).Need), blkE g1 (.cells #[I (q.Facts), vf, vg, va] 25), rdE vf q.First, rdE vg q.Goal, rdE va q.Acts] H131 from hS131)⟩
    omega
  rw [List.take_of_length_le (by omega)] at ej
  refine wpF_exit ?_
  refine atX_here ?_
  refine wpF_seq ?_
  refine wpF_seq ?_
  refine wpF_cut (fun f H => f 1 = I (n) ∧ f 2 = PT g1 0 ∧ f 5 = v5 ∧ f 6 = I ((q.Acts.length : Int)) ∧ f 7 = I ((n + 1) * q.Facts) ∧ f 9 = I ((u : Int)) ∧ f 14 = I ((x : Int)) ∧ f 15 = I (-actV q n x (u : Int)) ∧ f 16 = PT g113 0 ∧ f 19 = I (0) ∧ H127 = H) ?_ ?_
  · refine wpF_region ?_
    refine wpL_q (U := NoB) rfl (q_assign (v := I (0)) rfl rfl) ?_
    exact ⟨a128_1, a128_2, a128_5, a128_6, a128_7, a128_9, a128_14, a128_15, a128_16, rfl, rfl⟩
  rintro f133 _ ⟨a133_1, a133_2, a133_5, a133_6, a133_7, a133_9, a133_14, a133_15, a133_16, a133_19, rfl⟩
  clear a128_1 a128_14 a128_15 a128_16 a128_162 a128_18 a128_2 a128_5 a128_6 a128_7 a128_9
  refine wpF_block ?_
  refine wpF_loop (fun mz f H => ∃ (r : Nat), ∃ (c6 : List (List Int)), ∃ (v6 : Value), mz = (nth q.Acts x).Add.length - r ∧ (r ≤ (nth q.Acts x).Add.length) ∧ (c6.length ≤ c5.length + r) ∧ (c6 = c5 ++ tPos q ((u : Int) + 1) (-actV q n x (u : Int)) ((nth q.Acts x).Add.take r)) ∧ f 1 = I (n) ∧ f 2 = PT g1 0 ∧ f 5 = v6 ∧ f 6 = I ((q.Acts.length : Int)) ∧ f 7 = I ((n + 1) * q.Facts) ∧ f 9 = I ((u : Int)) ∧ f 14 = I ((x : Int)) ∧ f 15 = I (-actV q n x (u : Int)) ∧ f 16 = PT g113 0 ∧ f 19 = I ((r : Int)) ∧ St H0 NoB (fun b => S b ∧ b < H0.size) [rowE 22 v6 (c6 : List (List Int)), blkE g113 (.cells #[u108n0, u108n1, u108n2, u108n3] 37), rdE u108n3 ((nth q.Acts x).Drop), rdE u108n2 ((nth q.Acts x).Add), rdE u108n1 ((nth q.Acts x).Bar), rdE u108n0 ((nth q.Acts x).Need), blkE g1 (.cells #[I (q.Facts), vf, vg, va] 25), rdE vf q.First, rdE vg q.Goal, rdE va q.Acts] H) ((nth q.Acts x).Add.length - 0) ?_ ?_
  · exact ⟨0, c5, v5, rfl, Nat.zero_le _, (Nat.le_refl _), (by simp [tPos, tNeg]), a133_1, a133_2, a133_5, a133_6, a133_7, a133_9, a133_14, a133_15, a133_16, (Eq.trans a133_19 (congrArg I (by omega))), hS127⟩
  intro m134 f134 H134 hI134
  obtain ⟨r, c6, v6, hm134, hr, lr, er, a134_1, a134_2, a134_5, a134_6, a134_7, a134_9, a134_14, a134_15, a134_16, a134_19, hS134⟩ := hI134
  clear a133_1 a133_14 a133_15 a133_16 a133_19 a133_2 a133_5 a133_6 a133_7 a133_9
  refine wpF_seq ?_
  refine wpF_seq ?_
  refine wpF_cut (fun f H => f 1 = I (n) ∧ f 2 = PT g1 0 ∧ f 5 = v6 ∧ f 6 = I ((q.Acts.length : Int)) ∧ f 7 = I ((n + 1) * q.Facts) ∧ f 9 = I ((u : Int)) ∧ f 14 = I ((x : Int)) ∧ f 15 = I (-actV q n x (u : Int)) ∧ f 16 = PT g113 0 ∧ f 19 = I ((r : Int)) ∧ f 186 = B (decide ((r : Int) < (((nth q.Acts x).Add).length : Int))) ∧ H134 = H) ?_ ?_
  · refine wpF_region ?_
    refine wpL_q (U := NoB) rfl (q_move (v := I ((r : Int))) rfl a134_19) ?_
    refine wpL_q (U := NoB) rfl (q_fieldAddr rfl Try.underlying37 rfl Try.sizeOf22 a134_16) ?_
    refine wpL_q (U := NoB) rfl (q_loadBlk rfl rfl Try.isAgg22 (hS134.blk 1 rfl) rfl (fun h => h)) ?_
    refine wpL_q (U := NoB) rfl (q_lenRd rfl Try.underlying22 rfl (hS134.rdl 3 rfl)) ?_
    refine wpL_q (U := NoB) rfl (q_lss rfl rfl rfl) ?_
    exact ⟨a134_1, a134_2, a134_5, a134_6, a134_7, a134_9, a134_14, a134_15, a134_16, a134_19, rfl, rfl⟩
  rintro f135 _ ⟨a135_1, a135_2, a135_5, a135_6, a135_7, a135_9, a135_14, a135_15, a135_16, a135_19, a135_186, rfl⟩
  clear a134_1 a134_14 a134_15 a134_16 a134_19 a134_2 a134_5 a134_6 a134_7 a134_9
  refine wpF_condP a135_186 (fun c186 => ?t149) (fun c186 => ?e149)
  case t149 =>
    have hfr := hfm.1.2.mem (nth_mem (l := (nth q.Acts x).Add) (k := r) (by omega))
    refine wpF_skip ?_
    refine wpF_seq ?_
    refine wpF_block ?_
    refine wpF_cut (fun f H => ∃ (v137o16 : Value), f 1 = I (n) ∧ f 2 = PT g1 0 ∧ f 5 = v137o16 ∧ f 6 = I ((q.Acts.length : Int)) ∧ f 7 = I ((n + 1) * q.Facts) ∧ f 9 = I ((u : Int)) ∧ f 14 = I ((x : Int)) ∧ f 15 = I (-actV q n x (u : Int)) ∧ f 16 = PT g113 0 ∧ f 19 = I ((r : Int)) ∧ St H0 NoB (fun b => S b ∧ b < H0.size) [rowE 22 v137o16 (c6 ++ ([[((((u : Int) + 1) * q.Facts) + (nth ((nth q.Acts x).Add) r)) + 1, -actV q n x (u : Int)]]) : List (List Int)), blkE g113 (.cells #[u108n0, u108n1, u108n2, u108n3] 37), rdE u108n3 ((nth q.Acts x).Drop), rdE u108n2 ((nth q.Acts x).Add), rdE u108n1 ((nth q.Acts x).Bar), rdE u108n0 ((nth q.Acts x).Need), blkE g1 (.cells #[I (q.Facts), vf, vg, va] 25), rdE vf q.First, rdE vg q.Goal, rdE va q.Acts] H) ?_ ?_
    · refine wpF_drawn [none, none, none, none, none, none, none, none, none, none, none, none, none, none, none, none, some 0, none] [[], [], [], [], [], [], [], [], [], [], [], [], [], [], [], [], [], []] (fun l b => match l with | 0 => True | _ => False) (by kernel_rfl) (by kernel_rfl) ?_
      refine wpR_q 0 (by kernel_rfl) rfl (quietAt rfl rfl (q_move (v := v6) rfl a135_5)) ?_
      refine wpR_q 1 (by kernel_rfl) rfl (quietAt rfl rfl (q_move (v := I ((u : Int))) rfl a135_9)) ?_
      refine wpR_q 2 (by kernel_rfl) rfl (quietAt rfl rfl (q_add rfl rfl rfl (by constructor <;> omega))) ?_
      refine wpR_q 3 (by kernel_rfl) rfl (quietAt rfl rfl (q_fieldAddr rfl Try.underlying25 rfl Try.sizeOf3 a135_2)) ?_
      refine wpR_q 4 (by kernel_rfl) rfl (quietAt rfl rfl (q_loadBlk rfl rfl Try.isAgg3 (hS134.blk 6 rfl) rfl (labU_not [] rfl (List.forall_mem_nil _)))) ?_
      refine wpR_q 5 (by kernel_rfl) rfl (quietAt rfl rfl (q_mul rfl rfl rfl (by constructor <;> omega))) ?_
      refine wpR_q 6 (by kernel_rfl) rfl (quietAt rfl rfl (q_fieldAddr rfl Try.underlying37 rfl Try.sizeOf22 a135_16)) ?_
      refine wpR_q 7 (by kernel_rfl) rfl (quietAt rfl rfl (q_loadBlk rfl rfl Try.isAgg22 (hS134.blk 1 rfl) rfl (labU_not [] rfl (List.forall_mem_nil _)))) ?_
      refine wpR_q 8 (by kernel_rfl) rfl (quietAt rfl rfl (q_move (v := I ((r : Int))) rfl a135_19)) ?_
      refine wpR_q 9 (by kernel_rfl) rfl (quietAt rfl rfl (q_indexRd (k := r) rfl Try.underlying22 el_Int_3_StepR1 rfl rfl (hS134.rdl 3 rfl) (by omega) (by omega))) ?_
      refine wpR_q 10 (by kernel_rfl) rfl (quietAt rfl rfl (q_loadInt (k := r) rfl rfl el_Int_3_StepR1 (hS134.rdl 3 rfl) (by omega) (labU_sub [] rfl (List.forall_mem_nil _)))) ?_
      refine wpR_q 11 (by kernel_rfl) rfl (quietAt rfl rfl (q_add rfl rfl rfl (by constructor <;> omega))) ?_
      refine wpR_q 12 (by kernel_rfl) rfl (quietAt rfl rfl (q_add rfl rfl rfl (by constructor <;> omega))) ?_
      refine wpR_q 13 (by kernel_rfl) rfl (quietAt rfl rfl (q_move (v := I (-actV q n x (u : Int))) rfl a135_15)) ?_
      refine wpR_n [14] (by kernel_rfl) ?_
      refine List.forall_mem_cons.2 ⟨?_, List.forall_mem_nil _⟩
      refine exE rfl rfl ?_
      refine e_buildSlice (vs := [I (((((u : Int) + 1) * q.Facts) + (nth ((nth q.Acts x).Add) r)) + 1), I (-actV q n x (u : Int))]) (xs := ([((((u : Int) + 1) * q.Facts) + (nth ((nth q.Acts x).Add) r)) + 1, -actV q n x (u : Int)] : List Int)) rfl Try.underlying22 Try.zeroValue3 rfl Try.sizeOf3 (par2 (v0 := I (((((u : Int) + 1) * q.Facts) + (nth ((nth q.Acts x).Add) r)) + 1)) (v1 := I (-actV q n x (u : Int))) rfl rfl) rfl hS134 (RdVs.cons (Rd.int.2 ⟨rfl, by first | assumption | (constructor <;> omega)⟩) (RdVs.cons (Rd.int.2 ⟨rfl, by first | assumption | (constructor <;> omega)⟩) (RdVs.nil))) (by decide) (by decide) (fun v137o14 H137o14 hS137o14 hxx hvv137o14 => ?_)
      replace hS137o14 : St H0 NoB (fun b => S b ∧ b < H0.size) [rowE 3 v137o14 ([((((u : Int) + 1) * q.Facts) + (nth ((nth q.Acts x).Add) r)) + 1, -actV q n x (u : Int)] : List Int), rowE 22 v6 (c6 : List (List Int)), blkE g113 (.cells #[u108n0, u108n1, u108n2, u108n3] 37), rdE u108n3 ((nth q.Acts x).Drop), rdE u108n2 ((nth q.Acts x).Add), rdE u108n1 ((nth q.Acts x).Bar), rdE u108n0 ((nth q.Acts x).Need), blkE g1 (.cells #[I (q.Facts), vf, vg, va] 25), rdE vf q.First, rdE vg q.Goal, rdE va q.Acts] H137o14 := hS137o14
      refine ⟨Ext.mono hxx (fun _ h => h.elim), ?_⟩
      refine wpR_n [15] (by kernel_rfl) ?_
      refine List.forall_mem_cons.2 ⟨?_, List.forall_mem_nil _⟩
      have hS137o15 : St H0 NoB (fun b => S b ∧ b < H0.size) [rdE v137o14 ([((((u : Int) + 1) * q.Facts) + (nth ((nth q.Acts x).Add) r)) + 1, -actV q n x (u : Int)] : List Int), rowE 22 v6 (c6 : List (List Int)), blkE g113 (.cells #[u108n0, u108n1, u108n2, u108n3] 37), rdE u108n3 ((nth q.Acts x).Drop), rdE u108n2 ((nth q.Acts x).Add), rdE u108n1 ((nth q.Acts x).Bar), rdE u108n0 ((nth q.Acts x).Need), blkE g1 (.cells #[I (q.Facts), vf, vg, va] 25), rdE vf q.First, rdE vg q.Goal, rdE va q.Acts] H137o14 := St.fin hS137o14
      refine exE rfl rfl ?_
      refine e_buildSlice (vs := [v137o14]) (xs := ([[((((u : Int) + 1) * q.Facts) + (nth ((nth q.Acts x).Add) r)) + 1, -actV q n x (u : Int)]] : List (List Int))) rfl Try.underlying56 Try.zeroValue22 rfl Try.sizeOf22 (par1 (v0 := v137o14) rfl) rfl hS137o15 (RdVs.cons (hS137o15.rdS 0 rfl) (RdVs.nil)) (by decide) (by decide) (fun v137o15 H137o15 hS137o15x2 hxx hvv137o15 => ?_)
      replace hS137o15x2 : St H0 NoB (fun b => S b ∧ b < H0.size) [rowE 22 v137o15 ([[((((u : Int) + 1) * q.Facts) + (nth ((nth q.Acts x).Add) r)) + 1, -actV q n x (u : Int)]] : List (List Int)), rdE v137o14 ([((((u : Int) + 1) * q.Facts) + (nth ((nth q.Acts x).Add) r)) + 1, -actV q n x (u : Int)] : List Int), rowE 22 v6 (c6 : List (List Int)), blkE g113 (.cells #[u108n0, u108n1, u108n2, u108n3] 37), rdE u108n3 ((nth q.Acts x).Drop), rdE u108n2 ((nth q.Acts x).Add), rdE u108n1 ((nth q.Acts x).Bar), rdE u108n0 ((nth q.Acts x).Need), blkE g1 (.cells #[I (q.Facts), vf, vg, va] 25), rdE vf q.First, rdE vg q.Goal, rdE va q.Acts] H137o15 := hS137o15x2
      refine ⟨Ext.mono hxx (fun _ h => h.elim), ?_⟩
      refine wpR_n [16] (by kernel_rfl) ?_
      refine List.forall_mem_cons.2 ⟨?_, List.forall_mem_nil _⟩
      have hS137o16 : St H0 NoB (fun b => S b ∧ b < H0.size) [rdE v137o15 ([[((((u : Int) + 1) * q.Facts) + (nth ((nth q.Acts x).Add) r)) + 1, -actV q n x (u : Int)]] : List (List Int)), rdE v137o14 ([((((u : Int) + 1) * q.Facts) + (nth ((nth q.Acts x).Add) r)) + 1, -actV q n x (u : Int)] : List Int), rowE 22 v6 (c6 : List (List Int)), blkE g113 (.cells #[u108n0, u108n1, u108n2, u108n3] 37), rdE u108n3 ((nth q.Acts x).Drop), rdE u108n2 ((nth q.Acts x).Add), rdE u108n1 ((nth q.Acts x).Bar), rdE u108n0 ((nth q.Acts x).Need), blkE g1 (.cells #[I (q.Facts), vf, vg, va] 25), rdE vf q.First, rdE vg q.Goal, rdE va q.Acts] H137o15 := St.fin hS137o15x2
      have hS137o16x2 : St H0 NoB (fun b => S b ∧ b < H0.size) [rowE 22 v6 (c6 : List (List Int)), rdE v137o15 ([[((((u : Int) + 1) * q.Facts) + (nth ((nth q.Acts x).Add) r)) + 1, -actV q n x (u : Int)]] : List (List Int)), rdE v137o14 ([((((u : Int) + 1) * q.Facts) + (nth ((nth q.Acts x).Add) r)) + 1, -actV q n x (u : Int)] : List Int), blkE g113 (.cells #[u108n0, u108n1, u108n2, u108n3] 37), rdE u108n3 ((nth q.Acts x).Drop), rdE u108n2 ((nth q.Acts x).Add), rdE u108n1 ((nth q.Acts x).Bar), rdE u108n0 ((nth q.Acts x).Need), blkE g1 (.cells #[I (q.Facts), vf, vg, va] 25), rdE vf q.First, rdE vg q.Goal, rdE va q.Acts] H137o15 := (hS137o16.front 2 rfl)
      refine exE rfl rfl ?_
      refine e_append rfl Try.underlying56 em_LInt_22_StepR1 rfl rfl hS137o16x2 (hS137o16x2.rdS 1 rfl) (fun _ h => h) (by have hb : GoT.bytes (List Int) = 24 := rfl; simp [hb]; omega) (by decide) (fun v137o16 H137o16 hS137o16x3 hxx => ?_)
      replace hS137o16x3 : St H0 NoB (fun b => S b ∧ b < H0.size) [rowE 22 v137o16 (c6 ++ ([[((((u : Int) + 1) * q.Facts) + (nth ((nth q.Acts x).Add) r)) + 1, -actV q n x (u : Int)]]) : List (List Int)), rdE v137o15 ([[((((u : Int) + 1) * q.Facts) + (nth ((nth q.Acts x).Add) r)) + 1, -actV q n x (u : Int)]] : List (List Int)), rdE v137o14 ([((((u : Int) + 1) * q.Facts) + (nth ((nth q.Acts x).Add) r)) + 1, -actV q n x (u : Int)] : List Int), blkE g113 (.cells #[u108n0, u108n1, u108n2, u108n3] 37), rdE u108n3 ((nth q.Acts x).Drop), rdE u108n2 ((nth q.Acts x).Add), rdE u108n1 ((nth q.Acts x).Bar), rdE u108n0 ((nth q.Acts x).Need), blkE g1 (.cells #[I (q.Facts), vf, vg, va] 25), rdE vf q.First, rdE vg q.Goal, rdE va q.Acts] H137o16 := hS137o16x3
      refine ⟨Ext.mono hxx (labS_of 0 rfl (fun _ _ => trivial)), ?_⟩
      refine wpR_q 17 (by kernel_rfl) rfl (quietAt rfl rfl (q_assign (v := v137o16) rfl rfl)) ?_
      refine wpR_end (by kernel_rfl) ?_
      exact ⟨v137o16, a135_1, a135_2, rfl, a135_6, a135_7, a135_9, a135_14, a135_15, a135_16, a135_19, (hS137o16x3.drop (sk (sn (sn (sk (sk (sk (sk (sk (sk (sk (sk (sk (List.Sublist.slnil))))))))))))))⟩
    rintro f138 H138 ⟨v137o16, a138_1, a138_2, a138_5, a138_6, a138_7, a138_9, a138_14, a138_15, a138_16, a138_19, hS138⟩
    clear a135_1 a135_14 a135_15 a135_16 a135_186 a135_19 a135_2 a135_5 a135_6 a135_7 a135_9
    refine wpF_cut (fun f H => f 1 = I (n) ∧ f 2 = PT g1 0 ∧ f 5 = v137o16 ∧ f 6 = I ((q.Acts.length : Int)) ∧ f 7 = I ((n + 1) * q.Facts) ∧ f 9 = I ((u : Int)) ∧ f 14 = I ((x : Int)) ∧ f 15 = I (-actV q n x (u : Int)) ∧ f 16 = PT g113 0 ∧ f 19 = I ((r : Int) + 1) ∧ H138 = H) ?_ ?_
    · refine wpF_region ?_
      refine wpL_q (U := NoB) rfl (q_move (v := I ((r : Int))) rfl a138_19) ?_
      refine wpL_q (U := NoB) rfl (q_add rfl rfl rfl (by constructor <;> omega)) ?_
      refine wpL_q (U := NoB) rfl (q_assign (v := I ((r : Int) + 1)) rfl rfl) ?_
      exact ⟨a138_1, a138_2, a138_5, a138_6, a138_7, a138_9, a138_14, a138_15, a138_16, rfl, rfl⟩
    rintro f139 _ ⟨a139_1, a139_2, a139_5, a139_6, a139_7, a139_9, a139_14, a139_15, a139_16, a139_19, rfl⟩
    clear a138_1 a138_14 a138_15 a138_16 a138_19 a138_2 a138_5 a138_6 a138_7 a138_9
    refine ⟨_, ?_, r + 1, c6 ++ ([[((((u : Int) + 1) * q.Facts) + (nth ((nth q.Acts x).Add) r)) + 1, -actV q n x (u : Int)]]), v137o16, rfl, (by omega), (by rw [List.length_append, List.length_singleton]; omega), (by rw [er, tPos_next (by omega), List.append_assoc]; first | done | rfl), a139_1, a139_2, a139_5, a139_6, a139_7, a139_9, a139_14, a139_15, a139_16, (Eq.trans a139_19 (congrArg I (by omega))), (show St H0 NoB (fun b => S b ∧ b < H0.size) [rowE 22 v137o16 ((c6 ++ ([[((((u : Int) + 1) * q.Facts) + (nth ((nth q.Acts x).Add) r)) + 1, -actV q n x (u : Int)]])) : List (List Int)), blkE g113 (.cells #[u108n0, u108n1, u108n2, u108n3] 37), rdE u108n3 ((nth q.Acts x).Drop), rdE u108n2 ((nth q.Acts x).Add), rdE u108n1 ((nth q.Acts x).Bar), rdE u108n0 ((nth q.Acts x).Need), blkE g1 (.cells #[I (q.Facts), vf, vg, va] 25), rdE vf q.First, rdE vg q.Goal, rdE va q.Acts] H138 from hS138)⟩
    omega
  rw [List.take_of_length_le (by omega)] at er
  refine wpF_exit ?_
  refine atX_here ?_
  refine wpF_seq ?_
  refine wpF_cut (fun f H => f 1 = I (n) ∧ f 2 = PT g1 0 ∧ f 5 = v6 ∧ f 6 = I ((q.Acts.length : Int)) ∧ f 7 = I ((n + 1) * q.Facts) ∧ f 9 = I ((u : Int)) ∧ f 14 = I ((x : Int)) ∧ f 15 = I (-actV q n x (u : Int)) ∧ f 16 = PT g113 0 ∧ f 20 = I (0) ∧ H134 = H) ?_ ?_
  · refine wpF_region ?_
    refine wpL_q (U := NoB) rfl (q_assign (v := I (0)) rfl rfl) ?_
    exact ⟨a135_1, a135_2, a135_5, a135_6, a135_7, a135_9, a135_14, a135_15, a135_16, rfl, rfl⟩
  rintro f140 _ ⟨a140_1, a140_2, a140_5, a140_6, a140_7, a140_9, a140_14, a140_15, a140_16, a140_20, rfl⟩
  clear a135_1 a135_14 a135_15 a135_16 a135_186 a135_19 a135_2 a135_5 a135_6 a135_7 a135_9
  refine wpF_block ?_
  refine wpF_loop (fun mz f H => ∃ (v : Nat), ∃ (c7 : List (List Int)), ∃ (v7 : Value), mz = (nth q.Acts x).Drop.length - v ∧ (v ≤ (nth q.Acts x).Drop.length) ∧ (c7.length ≤ c6.length + v) ∧ (c7 = c6 ++ tNeg q ((u : Int) + 1) (-actV q n x (u : Int)) ((nth q.Acts x).Drop.take v)) ∧ f 1 = I (n) ∧ f 2 = PT g1 0 ∧ f 5 = v7 ∧ f 6 = I ((q.Acts.length : Int)) ∧ f 7 = I ((n + 1) * q.Facts) ∧ f 9 = I ((u : Int)) ∧ f 14 = I ((x : Int)) ∧ f 15 = I (-actV q n x (u : Int)) ∧ f 16 = PT g113 0 ∧ f 20 = I ((v : Int)) ∧ St H0 NoB (fun b => S b ∧ b < H0.size) [rowE 22 v7 (c7 : List (List Int)), blkE g113 (.cells #[u108n0, u108n1, u108n2, u108n3] 37), rdE u108n3 ((nth q.Acts x).Drop), rdE u108n2 ((nth q.Acts x).Add), rdE u108n1 ((nth q.Acts x).Bar), rdE u108n0 ((nth q.Acts x).Need), blkE g1 (.cells #[I (q.Facts), vf, vg, va] 25), rdE vf q.First, rdE vg q.Goal, rdE va q.Acts] H) ((nth q.Acts x).Drop.length - 0) ?_ ?_
  · exact ⟨0, c6, v6, rfl, Nat.zero_le _, (Nat.le_refl _), (by simp [tPos, tNeg]), a140_1, a140_2, a140_5, a140_6, a140_7, a140_9, a140_14, a140_15, a140_16, (Eq.trans a140_20 (congrArg I (by omega))), hS134⟩
  intro m141 f141 H141 hI141
  obtain ⟨v, c7, v7, hm141, hv, lv, ev, a141_1, a141_2, a141_5, a141_6, a141_7, a141_9, a141_14, a141_15, a141_16, a141_20, hS141⟩ := hI141
  clear a140_1 a140_14 a140_15 a140_16 a140_2 a140_20 a140_5 a140_6 a140_7 a140_9
  refine wpF_seq ?_
  refine wpF_seq ?_
  refine wpF_cut (fun f H => f 1 = I (n) ∧ f 2 = PT g1 0 ∧ f 5 = v7 ∧ f 6 = I ((q.Acts.length : Int)) ∧ f 7 = I ((n + 1) * q.Facts) ∧ f 9 = I ((u : Int)) ∧ f 14 = I ((x : Int)) ∧ f 15 = I (-actV q n x (u : Int)) ∧ f 16 = PT g113 0 ∧ f 20 = I ((v : Int)) ∧ f 210 = B (decide ((v : Int) < (((nth q.Acts x).Drop).length : Int))) ∧ H141 = H) ?_ ?_
  · refine wpF_region ?_
    refine wpL_q (U := NoB) rfl (q_move (v := I ((v : Int))) rfl a141_20) ?_
    refine wpL_q (U := NoB) rfl (q_fieldAddr rfl Try.underlying37 rfl Try.sizeOf22 a141_16) ?_
    refine wpL_q (U := NoB) rfl (q_loadBlk rfl rfl Try.isAgg22 (hS141.blk 1 rfl) rfl (fun h => h)) ?_
    refine wpL_q (U := NoB) rfl (q_lenRd rfl Try.underlying22 rfl (hS141.rdl 2 rfl)) ?_
    refine wpL_q (U := NoB) rfl (q_lss rfl rfl rfl) ?_
    exact ⟨a141_1, a141_2, a141_5, a141_6, a141_7, a141_9, a141_14, a141_15, a141_16, a141_20, rfl, rfl⟩
  rintro f142 _ ⟨a142_1, a142_2, a142_5, a142_6, a142_7, a142_9, a142_14, a142_15, a142_16, a142_20, a142_210, rfl⟩
  clear a141_1 a141_14 a141_15 a141_16 a141_2 a141_20 a141_5 a141_6 a141_7 a141_9
  refine wpF_condP a142_210 (fun c210 => ?t148) (fun c210 => ?e148)
  case e148 =>
    rw [List.take_of_length_le (by omega)] at ev
    refine wpF_exit ?_
    refine atX_here ?_
    refine wpF_cut (fun f H => f 1 = I (n) ∧ f 2 = PT g1 0 ∧ f 5 = v7 ∧ f 6 = I ((q.Acts.length : Int)) ∧ f 7 = I ((n + 1) * q.Facts) ∧ f 9 = I ((u : Int)) ∧ f 14 = I ((x : Int) + 1) ∧ H141 = H) ?_ ?_
    · refine wpF_region ?_
      refine wpL_q (U := NoB) rfl (q_move (v := I ((x : Int))) rfl a142_14) ?_
      refine wpL_q (U := NoB) rfl (q_add rfl rfl rfl (by constructor <;> omega)) ?_
      refine wpL_q (U := NoB) rfl (q_assign (v := I ((x : Int) + 1)) rfl rfl) ?_
      exact ⟨a142_1, a142_2, a142_5, a142_6, a142_7, a142_9, rfl, rfl⟩
    rintro f147 _ ⟨a147_1, a147_2, a147_5, a147_6, a147_7, a147_9, a147_14, rfl⟩
    clear a142_1 a142_14 a142_15 a142_16 a142_2 a142_20 a142_210 a142_5 a142_6 a142_7 a142_9
    refine ⟨_, ?_, x + 1, c7, v7, rfl, (by omega), (by omega), (by rw [ev, er, ej, ei, h3, tActs_next, tAct]; simp [List.append_assoc]), a147_1, a147_2, a147_5, a147_6, a147_7, a147_9, (Eq.trans a147_14 (congrArg I (by omega))), (hS141.drop (sk (sn (sn (sn (sn (sn (sk (sk (sk (sk (List.Sublist.slnil))))))))))))⟩
    omega
  have hfr := hfm.2.mem (nth_mem (l := (nth q.Acts x).Drop) (k := v) (by omega))
  refine wpF_skip ?_
  refine wpF_seq ?_
  refine wpF_block ?_
  refine wpF_cut (fun f H => ∃ (v144o17 : Value), f 1 = I (n) ∧ f 2 = PT g1 0 ∧ f 5 = v144o17 ∧ f 6 = I ((q.Acts.length : Int)) ∧ f 7 = I ((n + 1) * q.Facts) ∧ f 9 = I ((u : Int)) ∧ f 14 = I ((x : Int)) ∧ f 15 = I (-actV q n x (u : Int)) ∧ f 16 = PT g113 0 ∧ f 20 = I ((v : Int)) ∧ St H0 NoB (fun b => S b ∧ b < H0.size) [rowE 22 v144o17 (c7 ++ ([[-(((((u : Int) + 1) * q.Facts) + (nth ((nth q.Acts x).Drop) v)) + 1), -actV q n x (u : Int)]]) : List (List Int)), blkE g113 (.cells #[u108n0, u108n1, u108n2, u108n3] 37), rdE u108n3 ((nth q.Acts x).Drop), rdE u108n2 ((nth q.Acts x).Add), rdE u108n1 ((nth q.Acts x).Bar), rdE u108n0 ((nth q.Acts x).Need), blkE g1 (.cells #[I (q.Facts), vf, vg, va] 25), rdE vf q.First, rdE vg q.Goal, rdE va q.Acts] H) ?_ ?_
  · refine wpF_drawn [none, none, none, none, none, none, none, none, none, none, none, none, none, none, none, none, none, some 0, none] [[], [], [], [], [], [], [], [], [], [], [], [], [], [], [], [], [], [], []] (fun l b => match l with | 0 => True | _ => False) (by kernel_rfl) (by kernel_rfl) ?_
    refine wpR_q 0 (by kernel_rfl) rfl (quietAt rfl rfl (q_move (v := v7) rfl a142_5)) ?_
    refine wpR_q 1 (by kernel_rfl) rfl (quietAt rfl rfl (q_move (v := I ((u : Int))) rfl a142_9)) ?_
    refine wpR_q 2 (by kernel_rfl) rfl (quietAt rfl rfl (q_add rfl rfl rfl (by constructor <;> omega))) ?_
    refine wpR_q 3 (by kernel_rfl) rfl (quietAt rfl rfl (q_fieldAddr rfl Try.underlying25 rfl Try.sizeOf3 a142_2)) ?_
    refine wpR_q 4 (by kernel_rfl) rfl (quietAt rfl rfl (q_loadBlk rfl rfl Try.isAgg3 (hS141.blk 6 rfl) rfl (labU_not [] rfl (List.forall_mem_nil _)))) ?_
    refine wpR_q 5 (by kernel_rfl) rfl (quietAt rfl rfl (q_mul rfl rfl rfl (by constructor <;> omega))) ?_
    refine wpR_q 6 (by kernel_rfl) rfl (quietAt rfl rfl (q_fieldAddr rfl Try.underlying37 rfl Try.sizeOf22 a142_16)) ?_
    refine wpR_q 7 (by kernel_rfl) rfl (quietAt rfl rfl (q_loadBlk rfl rfl Try.isAgg22 (hS141.blk 1 rfl) rfl (labU_not [] rfl (List.forall_mem_nil _)))) ?_
    refine wpR_q 8 (by kernel_rfl) rfl (quietAt rfl rfl (q_move (v := I ((v : Int))) rfl a142_20)) ?_
    refine wpR_q 9 (by kernel_rfl) rfl (quietAt rfl rfl (q_indexRd (k := v) rfl Try.underlying22 el_Int_3_StepR1 rfl rfl (hS141.rdl 2 rfl) (by omega) (by omega))) ?_
    refine wpR_q 10 (by kernel_rfl) rfl (quietAt rfl rfl (q_loadInt (k := v) rfl rfl el_Int_3_StepR1 (hS141.rdl 2 rfl) (by omega) (labU_sub [] rfl (List.forall_mem_nil _)))) ?_
    refine wpR_q 11 (by kernel_rfl) rfl (quietAt rfl rfl (q_add rfl rfl rfl (by constructor <;> omega))) ?_
    refine wpR_q 12 (by kernel_rfl) rfl (quietAt rfl rfl (q_add rfl rfl rfl (by constructor <;> omega))) ?_
    refine wpR_q 13 (by kernel_rfl) rfl (quietAt rfl rfl (q_neg rfl rfl (by constructor <;> omega))) ?_
    refine wpR_q 14 (by kernel_rfl) rfl (quietAt rfl rfl (q_move (v := I (-actV q n x (u : Int))) rfl a142_15)) ?_
    refine wpR_n [15] (by kernel_rfl) ?_
    refine List.forall_mem_cons.2 ⟨?_, List.forall_mem_nil _⟩
    refine exE rfl rfl ?_
    refine e_buildSlice (vs := [I (-(((((u : Int) + 1) * q.Facts) + (nth ((nth q.Acts x).Drop) v)) + 1)), I (-actV q n x (u : Int))]) (xs := ([-(((((u : Int) + 1) * q.Facts) + (nth ((nth q.Acts x).Drop) v)) + 1), -actV q n x (u : Int)] : List Int)) rfl Try.underlying22 Try.zeroValue3 rfl Try.sizeOf3 (par2 (v0 := I (-(((((u : Int) + 1) * q.Facts) + (nth ((nth q.Acts x).Drop) v)) + 1))) (v1 := I (-actV q n x (u : Int))) rfl rfl) rfl hS141 (RdVs.cons (Rd.int.2 ⟨rfl, by first | assumption | (constructor <;> omega)⟩) (RdVs.cons (Rd.int.2 ⟨rfl, by first | assumption | (constructor <;> omega)⟩) (RdVs.nil))) (by decide) (by decide) (fun v144o15 H144o15 hS144o15 hxx hvv144o15 => ?_)
    replace hS144o15 : St H0 NoB (fun b => S b ∧ b < H0.size) [rowE 3 v144o15 ([-(((((u : Int) + 1) * q.Facts) + (nth ((nth q.Acts x).Drop) v)) + 1), -actV q n x (u : Int)] : List Int), rowE 22 v7 (c7 : List (List Int)), blkE g113 (.cells #[u108n0, u108n1, u108n2, u108n3] 37), rdE u108n3 ((nth q.Acts x).Drop), rdE u108n2 ((nth q.Acts x).Add), rdE u108n1 ((nth q.Acts x).Bar), rdE u108n0 ((nth q.Acts x).Need), blkE g1 (.cells #[I (q.Facts), vf, vg, va] 25), rdE vf q.First, rdE vg q.Goal, rdE va q.Acts] H144o15 := hS144o15
    refine ⟨Ext.mono hxx (fun _ h => h.elim), ?_⟩
    refine wpR_n [16] (by kernel_rfl) ?_
    refine List.forall_mem_cons.2 ⟨?_, List.forall_mem_nil _⟩
    have hS144o16 : St H0 NoB (fun b => S b ∧ b < H0.size) [rdE v144o15 ([-(((((u : Int) + 1) * q.Facts) + (nth ((nth q.Acts x).Drop) v)) + 1), -actV q n x (u : Int)] : List Int), rowE 22 v7 (c7 : List (List Int)), blkE g113 (.cells #[u108n0, u108n1, u108n2, u108n3] 37), rdE u108n3 ((nth q.Acts x).Drop), rdE u108n2 ((nth q.Acts x).Add), rdE u108n1 ((nth q.Acts x).Bar), rdE u108n0 ((nth q.Acts x).Need), blkE g1 (.cells #[I (q.Facts), vf, vg, va] 25), rdE vf q.First, rdE vg q.Goal, rdE va q.Acts] H144o15 := St.fin hS144o15
    refine exE rfl rfl ?_
    refine e_buildSlice (vs := [v144o15]) (xs := ([[-(((((u : Int) + 1) * q.Facts) + (nth ((nth q.Acts x).Drop) v)) + 1), -actV q n x (u : Int)]] : List (List Int))) rfl Try.underlying56 Try.zeroValue22 rfl Try.sizeOf22 (par1 (v0 := v144o15) rfl) rfl hS144o16 (RdVs.cons (hS144o16.rdS 0 rfl) (RdVs.nil)) (by decide) (by decide) (fun v144o16 H144o16 hS144o16x2 hxx hvv144o16 => ?_)
    replace hS144o16x2 : St H0 NoB (fun b => S b ∧ b < H0.size) [rowE 22 v144o16 ([[-(((((u : Int) + 1) * q.Facts) + (nth ((nth q.Acts x).Drop) v)) + 1), -actV q n x (u : Int)]] : List (List Int)), rdE v144o15 ([-(((((u : Int) + 1) * q.Facts) + (nth ((nth q.Acts x).Drop) v)) + 1), -actV q n x (u : Int)] : List Int), rowE 22 v7 (c7 : List (List Int)), blkE g113 (.cells #[u108n0, u108n1, u108n2, u108n3] 37), rdE u108n3 ((nth q.Acts x).Drop), rdE u108n2 ((nth q.Acts x).Add), rdE u108n1 ((nth q.Acts x).Bar), rdE u108n0 ((nth q.Acts x).Need), blkE g1 (.cells #[I (q.Facts), vf, vg, va] 25), rdE vf q.First, rdE vg q.Goal, rdE va q.Acts] H144o16 := hS144o16x2
    refine ⟨Ext.mono hxx (fun _ h => h.elim), ?_⟩
    refine wpR_n [17] (by kernel_rfl) ?_
    refine List.forall_mem_cons.2 ⟨?_, List.forall_mem_nil _⟩
    have hS144o17 : St H0 NoB (fun b => S b ∧ b < H0.size) [rdE v144o16 ([[-(((((u : Int) + 1) * q.Facts) + (nth ((nth q.Acts x).Drop) v)) + 1), -actV q n x (u : Int)]] : List (List Int)), rdE v144o15 ([-(((((u : Int) + 1) * q.Facts) + (nth ((nth q.Acts x).Drop) v)) + 1), -actV q n x (u : Int)] : List Int), rowE 22 v7 (c7 : List (List Int)), blkE g113 (.cells #[u108n0, u108n1, u108n2, u108n3] 37), rdE u108n3 ((nth q.Acts x).Drop), rdE u108n2 ((nth q.Acts x).Add), rdE u108n1 ((nth q.Acts x).Bar), rdE u108n0 ((nth q.Acts x).Need), blkE g1 (.cells #[I (q.Facts), vf, vg, va] 25), rdE vf q.First, rdE vg q.Goal, rdE va q.Acts] H144o16 := St.fin hS144o16x2
    have hS144o17x2 : St H0 NoB (fun b => S b ∧ b < H0.size) [rowE 22 v7 (c7 : List (List Int)), rdE v144o16 ([[-(((((u : Int) + 1) * q.Facts) + (nth ((nth q.Acts x).Drop) v)) + 1), -actV q n x (u : Int)]] : List (List Int)), rdE v144o15 ([-(((((u : Int) + 1) * q.Facts) + (nth ((nth q.Acts x).Drop) v)) + 1), -actV q n x (u : Int)] : List Int), blkE g113 (.cells #[u108n0, u108n1, u108n2, u108n3] 37), rdE u108n3 ((nth q.Acts x).Drop), rdE u108n2 ((nth q.Acts x).Add), rdE u108n1 ((nth q.Acts x).Bar), rdE u108n0 ((nth q.Acts x).Need), blkE g1 (.cells #[I (q.Facts), vf, vg, va] 25), rdE vf q.First, rdE vg q.Goal, rdE va q.Acts] H144o16 := (hS144o17.front 2 rfl)
    refine exE rfl rfl ?_
    refine e_append rfl Try.underlying56 em_LInt_22_StepR1 rfl rfl hS144o17x2 (hS144o17x2.rdS 1 rfl) (fun _ h => h) (by have hb : GoT.bytes (List Int) = 24 := rfl; simp [hb]; omega) (by decide) (fun v144o17 H144o17 hS144o17x3 hxx => ?_)
    replace hS144o17x3 : St H0 NoB (fun b => S b ∧ b < H0.size) [rowE 22 v144o17 (c7 ++ ([[-(((((u : Int) + 1) * q.Facts) + (nth ((nth q.Acts x).Drop) v)) + 1), -actV q n x (u : Int)]]) : List (List Int)), rdE v144o16 ([[-(((((u : Int) + 1) * q.Facts) + (nth ((nth q.Acts x).Drop) v)) + 1), -actV q n x (u : Int)]] : List (List Int)), rdE v144o15 ([-(((((u : Int) + 1) * q.Facts) + (nth ((nth q.Acts x).Drop) v)) + 1), -actV q n x (u : Int)] : List Int), blkE g113 (.cells #[u108n0, u108n1, u108n2, u108n3] 37), rdE u108n3 ((nth q.Acts x).Drop), rdE u108n2 ((nth q.Acts x).Add), rdE u108n1 ((nth q.Acts x).Bar), rdE u108n0 ((nth q.Acts x).Need), blkE g1 (.cells #[I (q.Facts), vf, vg, va] 25), rdE vf q.First, rdE vg q.Goal, rdE va q.Acts] H144o17 := hS144o17x3
    refine ⟨Ext.mono hxx (labS_of 0 rfl (fun _ _ => trivial)), ?_⟩
    refine wpR_q 18 (by kernel_rfl) rfl (quietAt rfl rfl (q_assign (v := v144o17) rfl rfl)) ?_
    refine wpR_end (by kernel_rfl) ?_
    exact ⟨v144o17, a142_1, a142_2, rfl, a142_6, a142_7, a142_9, a142_14, a142_15, a142_16, a142_20, (hS144o17x3.drop (sk (sn (sn (sk (sk (sk (sk (sk (sk (sk (sk (sk (List.Sublist.slnil))))))))))))))⟩
  rintro f145 H145 ⟨v144o17, a145_1, a145_2, a145_5, a145_6, a145_7, a145_9, a145_14, a145_15, a145_16, a145_20, hS145⟩
  clear a142_1 a142_14 a142_15 a142_16 a142_2 a142_20 a142_210 a142_5 a142_6 a142_7 a142_9
  refine wpF_cut (fun f H => f 1 = I (n) ∧ f 2 = PT g1 0 ∧ f 5 = v144o17 ∧ f 6 = I ((q.Acts.length : Int)) ∧ f 7 = I ((n + 1) * q.Facts) ∧ f 9 = I ((u : Int)) ∧ f 14 = I ((x : Int)) ∧ f 15 = I (-actV q n x (u : Int)) ∧ f 16 = PT g113 0 ∧ f 20 = I ((v : Int) + 1) ∧ H145 = H) ?_ ?_
  · refine wpF_region ?_
    refine wpL_q (U := NoB) rfl (q_move (v := I ((v : Int))) rfl a145_20) ?_
    refine wpL_q (U := NoB) rfl (q_add rfl rfl rfl (by constructor <;> omega)) ?_
    refine wpL_q (U := NoB) rfl (q_assign (v := I ((v : Int) + 1)) rfl rfl) ?_
    exact ⟨a145_1, a145_2, a145_5, a145_6, a145_7, a145_9, a145_14, a145_15, a145_16, rfl, rfl⟩
  rintro f146 _ ⟨a146_1, a146_2, a146_5, a146_6, a146_7, a146_9, a146_14, a146_15, a146_16, a146_20, rfl⟩
  clear a145_1 a145_14 a145_15 a145_16 a145_2 a145_20 a145_5 a145_6 a145_7 a145_9
  refine ⟨_, ?_, v + 1, c7 ++ ([[-(((((u : Int) + 1) * q.Facts) + (nth ((nth q.Acts x).Drop) v)) + 1), -actV q n x (u : Int)]]), v144o17, rfl, (by omega), (by rw [List.length_append, List.length_singleton]; omega), (by rw [ev, tNeg_next (by omega), List.append_assoc]; first | done | rfl), a146_1, a146_2, a146_5, a146_6, a146_7, a146_9, a146_14, a146_15, a146_16, (Eq.trans a146_20 (congrArg I (by omega))), (show St H0 NoB (fun b => S b ∧ b < H0.size) [rowE 22 v144o17 ((c7 ++ ([[-(((((u : Int) + 1) * q.Facts) + (nth ((nth q.Acts x).Drop) v)) + 1), -actV q n x (u : Int)]])) : List (List Int)), blkE g113 (.cells #[u108n0, u108n1, u108n2, u108n3] 37), rdE u108n3 ((nth q.Acts x).Drop), rdE u108n2 ((nth q.Acts x).Add), rdE u108n1 ((nth q.Acts x).Bar), rdE u108n0 ((nth q.Acts x).Need), blkE g1 (.cells #[I (q.Facts), vf, vg, va] 25), rdE vf q.First, rdE vg q.Goal, rdE va q.Acts] H145 from hS145)⟩
  omega

end Go.Um
