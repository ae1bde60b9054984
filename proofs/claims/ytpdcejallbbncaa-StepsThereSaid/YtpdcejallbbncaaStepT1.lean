import Derived.Test.YtpdcejallbbncaaProg
import Derived.Test.YtpdcejallbbncaaStepC1
import Derived.Test.YtpdcejallbbncaaUmSub
namespace Go.Um
open Go.Proofs
open GoT (sz ag rdc)
open KeyT (kv)

theorem el_Act_37_StepT1 : ElT Try.prog Act 37 := ⟨Try.isAgg37, Try.sizeOf37⟩
theorem el_Int_3_StepT1 : ElT Try.prog Int 3 := ⟨Try.isAgg3, Try.sizeOf3⟩
theorem em_Int_3_StepT1 : ElemOk Try.prog Int 3 := ⟨Try.t3, (.int .i64 0), by kernel_rfl, by kernel_rfl, by kernel_rfl, by kernel_rfl, by kernel_rfl⟩

set_option maxHeartbeats 8000000 in
set_option maxRecDepth 100000 in
theorem time_E {H0 : Heap} (S : Nat → Prop) (g : Nat) (vf vg va vc : Value) (q : Quest) (n w t : Int) (Cl : List (List Int)) (hA : ∀ e ∈ [rowE 22 vc (Cl : List (List Int)), blkE g (.cells #[I (q.Facts), vf, vg, va, I (n), I (w), vc] 84)], e.ok S H0) (hsb : ∀ b, S b → b < H0.size) (hin : ∀ b, own [rowE 22 vc (Cl : List (List Int)), blkE g (.cells #[I (q.Facts), vf, vg, va, I (n), I (w), vc] 84)] b → S b) (hne : ∀ b, rowB vc b → b ≠ g) (ra : Rd S H0 va q.Acts) (hQ : QW q) (hn : 0 ≤ n ∧ n ≤ 20) (ht : 0 ≤ t ∧ t ≤ 20) (hcl : Cl.length ≤ 100000) : CallsH Try.prog 55 #[PT g 0, I (t)] H0 (fun rv_ H' => Ext (own [rowE 22 vc (Cl : List (List Int)), blkE g (.cells #[I (q.Facts), vf, vg, va, I (n), I (w), vc] 84)]) H0 H' ∧ ∃ vc_, rv_ = Value.tuple #[] ∧ Gone S [rowE 22 vc (Cl : List (List Int)), blkE g (.cells #[I (q.Facts), vf, vg, va, I (n), I (w), vc] 84)] [rowE 22 vc_ (Cl ++ timeC q n t : List (List Int)), blkE g (.cells #[I (q.Facts), vf, vg, va, I (n), I (w), vc_] 84)] H0 H') := by
  have hS00 := St.handed hA (pw2 hne) hsb hin
  have hS0 : St H0 (own [rowE 22 vc (Cl : List (List Int)), blkE g (.cells #[I (q.Facts), vf, vg, va, I (n), I (w), vc] 84)]) (fun b => S b ∧ ¬ own [rowE 22 vc (Cl : List (List Int)), blkE g (.cells #[I (q.Facts), vf, vg, va, I (n), I (w), vc] 84)] b) [rdE va q.Acts, rowE 22 vc (Cl : List (List Int)), blkE g (.cells #[I (q.Facts), vf, vg, va, I (n), I (w), vc] 84)] H0 := hS00.rd (ra.sub fun b hb => handed_sub hin hb)
  have hfx := hQ.facts
  have hmy := hQ.many
  have hsa := (Rd.list.1 ra).small
  refine callsH_of_wpF (args := [PT g 0, I (t)]) (rs := []) Try.func55 rfl Try.ntmps55 Try.results55 (by kernel_rfl) (Nat.le_of_ble_eq_true rfl) ?_
  have a0_0 : argF [PT g 0, I (t)] 0 = PT g 0 := rfl
  have a0_1 : argF [PT g 0, I (t)] 1 = I (t) := rfl
  generalize argF [PT g 0, I (t)] = f0 at *
  refine wpF_seq ?_
  refine wpF_cut (fun f H => f 0 = PT g 0 ∧ f 1 = I (t) ∧ f 4 = (Value.slice none 0 0) ∧ H0 = H) ?_ ?_
  · refine wpF_region ?_
    refine wpL_q (U := NoB) rfl (q_assign (v := (Value.slice none 0 0)) rfl rfl) ?_
    exact ⟨a0_0, a0_1, rfl, rfl⟩
  rintro f1 _ ⟨a1_0, a1_1, a1_4, rfl⟩
  clear a0_0 a0_1
  have hS2 : St H0 (own [rowE 22 vc (Cl : List (List Int)), blkE g (.cells #[I (q.Facts), vf, vg, va, I (n), I (w), vc] 84)]) (fun b => S b ∧ ¬ own [rowE 22 vc (Cl : List (List Int)), blkE g (.cells #[I (q.Facts), vf, vg, va, I (n), I (w), vc] 84)] b) [rowE 3 (Value.slice none 0 0) ([] : List Int), rdE va q.Acts, rowE 22 vc (Cl : List (List Int)), blkE g (.cells #[I (q.Facts), vf, vg, va, I (n), I (w), vc] 84)] H0 := hS0.row0 3
  refine wpF_seq ?_
  refine wpF_seq ?_
  refine wpF_cut (fun f H => f 0 = PT g 0 ∧ f 1 = I (t) ∧ f 4 = (Value.slice none 0 0) ∧ f 29 = I ((q.Acts.length : Int)) ∧ f 30 = I (0) ∧ H0 = H) ?_ ?_
  · refine wpF_region ?_
    refine wpL_q (U := NoB) rfl (q_move (v := PT g 0) rfl a1_0) ?_
    refine wpL_q (U := NoB) rfl (q_nilCheck rfl rfl) ?_
    refine wpL_q (U := NoB) rfl (q_fieldAddr rfl Try.underlying84 rfl Try.sizeOf25 rfl) ?_
    refine wpL_q (U := NoB) rfl (q_fieldAddr rfl Try.underlying25 rfl Try.sizeOf23 rfl) ?_
    refine wpL_q (U := NoB) rfl (q_loadBlk rfl rfl Try.isAgg23 (hS2.blk 3 rfl) rfl (fun h => h)) ?_
    refine wpL_q (U := NoB) rfl (q_lenRd rfl Try.underlying23 rfl (hS2.rdl 1 rfl)) ?_
    refine wpL_q (U := NoB) rfl (q_move (v := I (0)) rfl rfl) ?_
    exact ⟨a1_0, a1_1, a1_4, rfl, rfl, rfl⟩
  rintro f3 _ ⟨a3_0, a3_1, a3_4, a3_29, a3_30, rfl⟩
  clear a1_0 a1_1 a1_4
  refine wpF_block ?_
  refine wpF_loop (fun mz f H => ∃ (k : Nat), ∃ (vr : Value), mz = q.Acts.length - k ∧ (k ≤ q.Acts.length) ∧ f 0 = PT g 0 ∧ f 1 = I (t) ∧ f 4 = vr ∧ f 29 = I ((q.Acts.length : Int)) ∧ f 30 = I ((k : Int)) ∧ St H0 (own [rowE 22 vc (Cl : List (List Int)), blkE g (.cells #[I (q.Facts), vf, vg, va, I (n), I (w), vc] 84)]) (fun b => S b ∧ ¬ own [rowE 22 vc (Cl : List (List Int)), blkE g (.cells #[I (q.Facts), vf, vg, va, I (n), I (w), vc] 84)] b) [rowE 3 vr (tAll q n t k : List Int), rdE va q.Acts, rowE 22 vc (Cl : List (List Int)), blkE g (.cells #[I (q.Facts), vf, vg, va, I (n), I (w), vc] 84)] H) (q.Acts.length - 0) ?_ ?_
  · exact ⟨0, (Value.slice none 0 0), rfl, Nat.zero_le _, a3_0, a3_1, a3_4, a3_29, (Eq.trans a3_30 (congrArg I (by omega))), (show St H0 (own [rowE 22 vc (Cl : List (List Int)), blkE g (.cells #[I (q.Facts), vf, vg, va, I (n), I (w), vc] 84)]) (fun b => S b ∧ ¬ own [rowE 22 vc (Cl : List (List Int)), blkE g (.cells #[I (q.Facts), vf, vg, va, I (n), I (w), vc] 84)] b) [rowE 3 (Value.slice none 0 0) (tAll q n t 0 : List Int), rdE va q.Acts, rowE 22 vc (Cl : List (List Int)), blkE g (.cells #[I (q.Facts), vf, vg, va, I (n), I (w), vc] 84)] H0 from hS2)⟩
  intro m4 f4 H4 hI4
  obtain ⟨k, vr, hm4, hk, a4_0, a4_1, a4_4, a4_29, a4_30, hS4⟩ := hI4
  clear a3_0 a3_1 a3_29 a3_30 a3_4
  refine wpF_seq ?_
  refine wpF_cut (fun f H => f 0 = PT g 0 ∧ f 1 = I (t) ∧ f 4 = vr ∧ f 29 = I ((q.Acts.length : Int)) ∧ f 30 = I ((k : Int)) ∧ f 31 = B (decide ((k : Int) < (q.Acts.length : Int))) ∧ H4 = H) ?_ ?_
  · refine wpF_region ?_
    refine wpL_q (U := NoB) rfl (q_lss rfl a4_30 a4_29) ?_
    exact ⟨a4_0, a4_1, a4_4, a4_29, a4_30, rfl, rfl⟩
  rintro f5 _ ⟨a5_0, a5_1, a5_4, a5_29, a5_30, a5_31, rfl⟩
  clear a4_0 a4_1 a4_29 a4_30 a4_4
  refine wpF_seq ?_
  refine wpF_condP a5_31 (fun c31 => ?t257) (fun c31 => ?e257)
  case t257 =>
    have hal := tAll_len (q := q) (n := n) (t := t) (k := k)
    have har := act_rng hQ (a := (k : Int)) hn (by omega) (show 0 ≤ t ∧ t ≤ 21 by omega)
    refine wpF_skip ?_
    refine wpF_seq ?_
    refine wpF_block ?_
    refine wpF_seq ?_
    refine wpF_cut (fun f H => f 0 = PT g 0 ∧ f 1 = I (t) ∧ f 4 = vr ∧ f 5 = I ((k : Int)) ∧ f 29 = I ((q.Acts.length : Int)) ∧ f 30 = I ((k : Int)) ∧ H4 = H) ?_ ?_
    · refine wpF_region ?_
      refine wpL_q (U := NoB) rfl (q_move (v := I ((k : Int))) rfl a5_30) ?_
      refine wpL_q (U := NoB) rfl (q_assign (v := I ((k : Int))) rfl rfl) ?_
      exact ⟨a5_0, a5_1, a5_4, rfl, a5_29, a5_30, rfl⟩
    rintro f7 _ ⟨a7_0, a7_1, a7_4, a7_5, a7_29, a7_30, rfl⟩
    clear a5_0 a5_1 a5_29 a5_30 a5_31 a5_4
    refine wpF_cut (fun f H => ∃ (v16 : Value), f 0 = PT g 0 ∧ f 1 = I (t) ∧ f 4 = v16 ∧ f 29 = I ((q.Acts.length : Int)) ∧ f 30 = I ((k : Int)) ∧ St H0 (own [rowE 22 vc (Cl : List (List Int)), blkE g (.cells #[I (q.Facts), vf, vg, va, I (n), I (w), vc] 84)]) (fun b => S b ∧ ¬ own [rowE 22 vc (Cl : List (List Int)), blkE g (.cells #[I (q.Facts), vf, vg, va, I (n), I (w), vc] 84)] b) [rowE 3 v16 (tAll q n t (k + 1) : List Int), rdE va q.Acts, rowE 22 vc (Cl : List (List Int)), blkE g (.cells #[I (q.Facts), vf, vg, va, I (n), I (w), vc] 84)] H) ?_ ?_
    · refine wpF_region ?_
      refine wpL_q (U := NoB) rfl (q_move (v := vr) rfl a7_4) ?_
      refine wpL_q (U := NoB) rfl (q_move (v := PT g 0) rfl a7_0) ?_
      refine wpL_q (U := NoB) rfl (q_move (v := I ((k : Int))) rfl a7_5) ?_
      refine wpL_q (U := NoB) rfl (q_move (v := I (t)) rfl a7_1) ?_
      refine wpL_o rfl ?_
      refine e_call rfl Try.call56 (arr3 (v0 := PT g 0) (v1 := I ((k : Int))) (v2 := I (t)) rfl rfl rfl) (act_E g vf vg va vc q n w (k : Int) t (hS4.blk 3 rfl) (hS4.rdN 1 rfl) hQ hn (by omega) (by omega)) ?_
      rintro _ H8 ⟨hxx, rfl⟩
      have hS9 : St H0 (own [rowE 22 vc (Cl : List (List Int)), blkE g (.cells #[I (q.Facts), vf, vg, va, I (n), I (w), vc] 84)]) (fun b => S b ∧ ¬ own [rowE 22 vc (Cl : List (List Int)), blkE g (.cells #[I (q.Facts), vf, vg, va, I (n), I (w), vc] 84)] b) [rowE 3 vr (tAll q n t k : List Int), rdE va q.Acts, rowE 22 vc (Cl : List (List Int)), blkE g (.cells #[I (q.Facts), vf, vg, va, I (n), I (w), vc] 84)] H8 := hS4.ext hxx
      refine wpL_o rfl ?_
      refine e_buildSlice (vs := [I (actV q n (k : Int) t)]) (xs := ([actV q n (k : Int) t] : List Int)) rfl Try.underlying22 Try.zeroValue3 rfl Try.sizeOf3 (par1 (v0 := I (actV q n (k : Int) t)) rfl) rfl hS9 (RdVs.cons (Rd.int.2 ⟨rfl, by first | assumption | (constructor <;> omega)⟩) (RdVs.nil)) (by decide) (by decide) (fun v11 H12 hS13 hxx hvv11 => ?_)
      replace hS13 : St H0 (own [rowE 22 vc (Cl : List (List Int)), blkE g (.cells #[I (q.Facts), vf, vg, va, I (n), I (w), vc] 84)]) (fun b => S b ∧ ¬ own [rowE 22 vc (Cl : List (List Int)), blkE g (.cells #[I (q.Facts), vf, vg, va, I (n), I (w), vc] 84)] b) [rowE 3 v11 ([actV q n (k : Int) t] : List Int), rowE 3 vr (tAll q n t k : List Int), rdE va q.Acts, rowE 22 vc (Cl : List (List Int)), blkE g (.cells #[I (q.Facts), vf, vg, va, I (n), I (w), vc] 84)] H12 := hS13
      have hS14 : St H0 (own [rowE 22 vc (Cl : List (List Int)), blkE g (.cells #[I (q.Facts), vf, vg, va, I (n), I (w), vc] 84)]) (fun b => S b ∧ ¬ own [rowE 22 vc (Cl : List (List Int)), blkE g (.cells #[I (q.Facts), vf, vg, va, I (n), I (w), vc] 84)] b) [rdE v11 ([actV q n (k : Int) t] : List Int), rowE 3 vr (tAll q n t k : List Int), rdE va q.Acts, rowE 22 vc (Cl : List (List Int)), blkE g (.cells #[I (q.Facts), vf, vg, va, I (n), I (w), vc] 84)] H12 := St.fin hS13
      have hS15 : St H0 (own [rowE 22 vc (Cl : List (List Int)), blkE g (.cells #[I (q.Facts), vf, vg, va, I (n), I (w), vc] 84)]) (fun b => S b ∧ ¬ own [rowE 22 vc (Cl : List (List Int)), blkE g (.cells #[I (q.Facts), vf, vg, va, I (n), I (w), vc] 84)] b) [rowE 3 vr (tAll q n t k : List Int), rdE v11 ([actV q n (k : Int) t] : List Int), rdE va q.Acts, rowE 22 vc (Cl : List (List Int)), blkE g (.cells #[I (q.Facts), vf, vg, va, I (n), I (w), vc] 84)] H12 := (hS14.front 1 rfl)
      refine wpL_o rfl ?_
      refine e_append rfl Try.underlying22 em_Int_3_StepT1 rfl rfl hS15 (hS15.rdS 1 rfl) (fun _ h => h) (by have hb : GoT.bytes Int = 8 := rfl; simp [hb]; omega) (by decide) (fun v16 H17 hS18 hxx => ?_)
      replace hS18 : St H0 (own [rowE 22 vc (Cl : List (List Int)), blkE g (.cells #[I (q.Facts), vf, vg, va, I (n), I (w), vc] 84)]) (fun b => S b ∧ ¬ own [rowE 22 vc (Cl : List (List Int)), blkE g (.cells #[I (q.Facts), vf, vg, va, I (n), I (w), vc] 84)] b) [rowE 3 v16 ((tAll q n t k) ++ ([actV q n (k : Int) t]) : List Int), rdE v11 ([actV q n (k : Int) t] : List Int), rdE va q.Acts, rowE 22 vc (Cl : List (List Int)), blkE g (.cells #[I (q.Facts), vf, vg, va, I (n), I (w), vc] 84)] H17 := hS18
      have hS19 : St H0 (own [rowE 22 vc (Cl : List (List Int)), blkE g (.cells #[I (q.Facts), vf, vg, va, I (n), I (w), vc] 84)]) (fun b => S b ∧ ¬ own [rowE 22 vc (Cl : List (List Int)), blkE g (.cells #[I (q.Facts), vf, vg, va, I (n), I (w), vc] 84)] b) [rowE 3 v16 (tAll q n t (k + 1) : List Int), rdE v11 ([actV q n (k : Int) t] : List Int), rdE va q.Acts, rowE 22 vc (Cl : List (List Int)), blkE g (.cells #[I (q.Facts), vf, vg, va, I (n), I (w), vc] 84)] H17 := by rw [show (tAll q n t (k + 1)) = ((tAll q n t k) ++ ([actV q n (k : Int) t])) from tAll_next]; exact hS18
      refine wpL_q (U := NoB) rfl (q_assign (v := v16) rfl rfl) ?_
      exact ⟨v16, a7_0, a7_1, rfl, a7_29, a7_30, (hS19.drop (sk (sn (sk (sk (sk (List.Sublist.slnil)))))))⟩
    rintro f20 H20 ⟨v16, a20_0, a20_1, a20_4, a20_29, a20_30, hS20⟩
    clear a7_0 a7_1 a7_29 a7_30 a7_4 a7_5
    refine wpF_cut (fun f H => f 0 = PT g 0 ∧ f 1 = I (t) ∧ f 4 = v16 ∧ f 29 = I ((q.Acts.length : Int)) ∧ f 30 = I ((k : Int) + 1) ∧ H20 = H) ?_ ?_
    · refine wpF_region ?_
      refine wpL_q (U := NoB) rfl (q_add rfl a20_30 rfl (by constructor <;> omega)) ?_
      refine wpL_q (U := NoB) rfl (q_move (v := I ((k : Int) + 1)) rfl rfl) ?_
      exact ⟨a20_0, a20_1, a20_4, a20_29, rfl, rfl⟩
    rintro f21 _ ⟨a21_0, a21_1, a21_4, a21_29, a21_30, rfl⟩
    clear a20_0 a20_1 a20_29 a20_30 a20_4
    refine ⟨_, ?_, k + 1, v16, rfl, (by omega), a21_0, a21_1, a21_4, a21_29, (Eq.trans a21_30 (congrArg I (by omega))), hS20⟩
    omega
  obtain rfl : k = q.Acts.length := by omega
  refine wpF_exit ?_
  refine atX_here ?_
  refine wpF_seq ?_
  refine wpF_cut (fun f H => ∃ (r24 : Value), f 0 = PT g 0 ∧ f 1 = I (t) ∧ St H0 (own [rowE 22 vc (Cl : List (List Int)), blkE g (.cells #[I (q.Facts), vf, vg, va, I (n), I (w), vc] 84)]) (fun b => S b ∧ ¬ own [rowE 22 vc (Cl : List (List Int)), blkE g (.cells #[I (q.Facts), vf, vg, va, I (n), I (w), vc] 84)] b) [rowE 22 r24 (Cl ++ [(tAll q n t q.Acts.length)] : List (List Int)), blkE g (.cells #[I (q.Facts), vf, vg, va, I (n), I (w), r24] 84), rdE va q.Acts] H) ?_ ?_
  · refine wpF_region ?_
    refine wpL_q (U := NoB) rfl (q_move (v := PT g 0) rfl a5_0) ?_
    refine wpL_q (U := NoB) rfl (q_move (v := vr) rfl a5_4) ?_
    have hS22 : St H0 (own [rowE 22 vc (Cl : List (List Int)), blkE g (.cells #[I (q.Facts), vf, vg, va, I (n), I (w), vc] 84)]) (fun b => S b ∧ ¬ own [rowE 22 vc (Cl : List (List Int)), blkE g (.cells #[I (q.Facts), vf, vg, va, I (n), I (w), vc] 84)] b) [rdE vr (tAll q n t q.Acts.length), rdE va q.Acts, rowE 22 vc (Cl : List (List Int)), blkE g (.cells #[I (q.Facts), vf, vg, va, I (n), I (w), vc] 84)] H4 := St.fin hS4
    have hS23 : St H0 (own [rowE 22 vc (Cl : List (List Int)), blkE g (.cells #[I (q.Facts), vf, vg, va, I (n), I (w), vc] 84)]) (fun b => S b ∧ ¬ own [rowE 22 vc (Cl : List (List Int)), blkE g (.cells #[I (q.Facts), vf, vg, va, I (n), I (w), vc] 84)] b) [rowE 22 vc (Cl : List (List Int)), blkE g (.cells #[I (q.Facts), vf, vg, va, I (n), I (w), vc] 84), rdE vr (tAll q n t q.Acts.length), rdE va q.Acts] H4 := (St.drop (show St H0 (own [rowE 22 vc (Cl : List (List Int)), blkE g (.cells #[I (q.Facts), vf, vg, va, I (n), I (w), vc] 84)]) (fun b => S b ∧ ¬ own [rowE 22 vc (Cl : List (List Int)), blkE g (.cells #[I (q.Facts), vf, vg, va, I (n), I (w), vc] 84)] b) [rowE 22 vc (Cl : List (List Int)), blkE g (.cells #[I (q.Facts), vf, vg, va, I (n), I (w), vc] 84), rdE vr (tAll q n t q.Acts.length), rdE va q.Acts] H4 from ((hS22.front 3 rfl).front 3 rfl)) (sk (sk (sk (sk (List.Sublist.slnil))))))
    refine wpL_o rfl ?_
    refine e_call rfl Try.call53 (arr2 (v0 := PT g 0) (v1 := vr) rfl rfl) (add_E _ g vf vg va vc vr q n w Cl (tAll q n t q.Acts.length) (fun e he => hS23.ok e (List.mem_append_left [rdE vr (tAll q n t q.Acts.length), rdE va q.Acts] he)) (fun b hb => SL.lt hS23 hb) (fun b ⟨e, he, hb⟩ => .inr ⟨e, List.mem_append_left [rdE vr (tAll q n t q.Acts.length), rdE va q.Acts] he, hb⟩) (fun b hb e => hS23.dis 0 1 (by decide) rfl rfl b hb e) (hS23.rdS 2 rfl) (by first | omega | (simp only [List.length_append, List.length_singleton]; omega))) ?_
    rintro _ H25 ⟨hxx, r24, rfl, hgo⟩
    have hS26 : St H0 (own [rowE 22 vc (Cl : List (List Int)), blkE g (.cells #[I (q.Facts), vf, vg, va, I (n), I (w), vc] 84)]) (fun b => S b ∧ ¬ own [rowE 22 vc (Cl : List (List Int)), blkE g (.cells #[I (q.Facts), vf, vg, va, I (n), I (w), vc] 84)] b) [rowE 22 r24 (Cl ++ [(tAll q n t q.Acts.length)] : List (List Int)), blkE g (.cells #[I (q.Facts), vf, vg, va, I (n), I (w), r24] 84), rdE vr (tAll q n t q.Acts.length), rdE va q.Acts] H25 := St.back3 (A := [rowE 22 vc (Cl : List (List Int)), blkE g (.cells #[I (q.Facts), vf, vg, va, I (n), I (w), vc] 84)]) (A' := [rowE 22 r24 (Cl ++ [(tAll q n t q.Acts.length)] : List (List Int)), blkE g (.cells #[I (q.Facts), vf, vg, va, I (n), I (w), r24] 84)]) (L := [rdE vr (tAll q n t q.Acts.length), rdE va q.Acts]) hS23 hxx hgo
    exact ⟨r24, a5_0, a5_1, (hS26.drop (sk (sk (sn (sk (List.Sublist.slnil))))))⟩
  rintro f28 H28 ⟨r24, a28_0, a28_1, hS28⟩
  clear a5_0 a5_1 a5_29 a5_30 a5_31 a5_4
  refine wpF_seq ?_
  refine wpF_seq ?_
  refine wpF_cut (fun f H => f 0 = PT g 0 ∧ f 1 = I (t) ∧ f 49 = I ((q.Acts.length : Int)) ∧ f 50 = I (0) ∧ H28 = H) ?_ ?_
  · refine wpF_region ?_
    refine wpL_q (U := NoB) rfl (q_move (v := PT g 0) rfl a28_0) ?_
    refine wpL_q (U := NoB) rfl (q_nilCheck rfl rfl) ?_
    refine wpL_q (U := NoB) rfl (q_fieldAddr rfl Try.underlying84 rfl Try.sizeOf25 rfl) ?_
    refine wpL_q (U := NoB) rfl (q_fieldAddr rfl Try.underlying25 rfl Try.sizeOf23 rfl) ?_
    refine wpL_q (U := NoB) rfl (q_loadBlk rfl rfl Try.isAgg23 (hS28.blk 1 rfl) rfl (fun h => h)) ?_
    refine wpL_q (U := NoB) rfl (q_lenRd rfl Try.underlying23 rfl (hS28.rdl 2 rfl)) ?_
    refine wpL_q (U := NoB) rfl (q_move (v := I (0)) rfl rfl) ?_
    exact ⟨a28_0, a28_1, rfl, rfl, rfl⟩
  rintro f29 _ ⟨a29_0, a29_1, a29_49, a29_50, rfl⟩
  clear a28_0 a28_1
  refine wpF_block ?_
  refine wpF_loop (fun mz f H => ∃ (a : Nat), ∃ (c1 : List (List Int)), ∃ (v1 : Value), mz = q.Acts.length - a ∧ (a ≤ q.Acts.length) ∧ (c1.length ≤ Cl.length + 1 + 20 * a) ∧ (c1 = Cl ++ [tAll q n t q.Acts.length] ++ tPairs q n t a) ∧ f 0 = PT g 0 ∧ f 1 = I (t) ∧ f 49 = I ((q.Acts.length : Int)) ∧ f 50 = I ((a : Int)) ∧ St H0 (own [rowE 22 vc (Cl : List (List Int)), blkE g (.cells #[I (q.Facts), vf, vg, va, I (n), I (w), vc] 84)]) (fun b => S b ∧ ¬ own [rowE 22 vc (Cl : List (List Int)), blkE g (.cells #[I (q.Facts), vf, vg, va, I (n), I (w), vc] 84)] b) [rowE 22 v1 (c1 : List (List Int)), blkE g (.cells #[I (q.Facts), vf, vg, va, I (n), I (w), v1] 84), rdE va q.Acts] H) (q.Acts.length - 0) ?_ ?_
  · exact ⟨0, Cl ++ [(tAll q n t q.Acts.length)], r24, rfl, Nat.zero_le _, (by rw [List.length_append]; simp), (by simp [tPairs]), a29_0, a29_1, a29_49, (Eq.trans a29_50 (congrArg I (by omega))), (show St H0 (own [rowE 22 vc (Cl : List (List Int)), blkE g (.cells #[I (q.Facts), vf, vg, va, I (n), I (w), vc] 84)]) (fun b => S b ∧ ¬ own [rowE 22 vc (Cl : List (List Int)), blkE g (.cells #[I (q.Facts), vf, vg, va, I (n), I (w), vc] 84)] b) [rowE 22 r24 ((Cl ++ [(tAll q n t q.Acts.length)]) : List (List Int)), blkE g (.cells #[I (q.Facts), vf, vg, va, I (n), I (w), r24] 84), rdE va q.Acts] H28 from hS28)⟩
  intro m30 f30 H30 hI30
  obtain ⟨a, c1, v1, hm30, ha, l1, h1, a30_0, a30_1, a30_49, a30_50, hS30⟩ := hI30
  clear a29_0 a29_1 a29_49 a29_50
  refine wpF_seq ?_
  refine wpF_cut (fun f H => f 0 = PT g 0 ∧ f 1 = I (t) ∧ f 49 = I ((q.Acts.length : Int)) ∧ f 50 = I ((a : Int)) ∧ f 51 = B (decide ((a : Int) < (q.Acts.length : Int))) ∧ H30 = H) ?_ ?_
  · refine wpF_region ?_
    refine wpL_q (U := NoB) rfl (q_lss rfl a30_50 a30_49) ?_
    exact ⟨a30_0, a30_1, a30_49, a30_50, rfl, rfl⟩
  rintro f31 _ ⟨a31_0, a31_1, a31_49, a31_50, a31_51, rfl⟩
  clear a30_0 a30_1 a30_49 a30_50
  refine wpF_seq ?_
  refine wpF_condP a31_51 (fun c51 => ?t256) (fun c51 => ?e256)
  case t256 =>
    refine wpF_skip ?_
    refine wpF_seq ?_
    refine wpF_block ?_
    refine wpF_seq ?_
    refine wpF_cut (fun f H => f 0 = PT g 0 ∧ f 1 = I (t) ∧ f 6 = I ((a : Int)) ∧ f 49 = I ((q.Acts.length : Int)) ∧ f 50 = I ((a : Int)) ∧ H30 = H) ?_ ?_
    · refine wpF_region ?_
      refine wpL_q (U := NoB) rfl (q_move (v := I ((a : Int))) rfl a31_50) ?_
      refine wpL_q (U := NoB) rfl (q_assign (v := I ((a : Int))) rfl rfl) ?_
      exact ⟨a31_0, a31_1, rfl, a31_49, a31_50, rfl⟩
    rintro f33 _ ⟨a33_0, a33_1, a33_6, a33_49, a33_50, rfl⟩
    clear a31_0 a31_1 a31_49 a31_50 a31_51
    refine wpF_seq ?_
    refine wpF_cut (fun f H => f 0 = PT g 0 ∧ f 1 = I (t) ∧ f 6 = I ((a : Int)) ∧ f 49 = I ((q.Acts.length : Int)) ∧ f 50 = I ((a : Int)) ∧ f 53 = I ((a : Int)) ∧ f 54 = I (0) ∧ H30 = H) ?_ ?_
    · refine wpF_region ?_
      refine wpL_q (U := NoB) rfl (q_move (v := I ((a : Int))) rfl a33_6) ?_
      refine wpL_q (U := NoB) rfl (q_move (v := I (0)) rfl rfl) ?_
      exact ⟨a33_0, a33_1, a33_6, a33_49, a33_50, rfl, rfl, rfl⟩
    rintro f34 _ ⟨a34_0, a34_1, a34_6, a34_49, a34_50, a34_53, a34_54, rfl⟩
    clear a33_0 a33_1 a33_49 a33_50 a33_6
    refine wpF_block ?_
    refine wpF_loop (fun mz f H => ∃ (bb : Nat), ∃ (c2 : List (List Int)), ∃ (v2 : Value), mz = a - bb ∧ (bb ≤ a) ∧ (c2.length ≤ c1.length + bb) ∧ (c2 = c1 ++ tPair q n t a bb) ∧ f 0 = PT g 0 ∧ f 1 = I (t) ∧ f 6 = I ((a : Int)) ∧ f 49 = I ((q.Acts.length : Int)) ∧ f 50 = I ((a : Int)) ∧ f 53 = I ((a : Int)) ∧ f 54 = I ((bb : Int)) ∧ St H0 (own [rowE 22 vc (Cl : List (List Int)), blkE g (.cells #[I (q.Facts), vf, vg, va, I (n), I (w), vc] 84)]) (fun b => S b ∧ ¬ own [rowE 22 vc (Cl : List (List Int)), blkE g (.cells #[I (q.Facts), vf, vg, va, I (n), I (w), vc] 84)] b) [rowE 22 v2 (c2 : List (List Int)), blkE g (.cells #[I (q.Facts), vf, vg, va, I (n), I (w), v2] 84), rdE va q.Acts] H) (a - 0) ?_ ?_
    · exact ⟨0, c1, v1, rfl, Nat.zero_le _, (Nat.le_refl _), (by simp [tPair]), a34_0, a34_1, a34_6, a34_49, a34_50, a34_53, (Eq.trans a34_54 (congrArg I (by omega))), hS30⟩
    intro m35 f35 H35 hI35
    obtain ⟨bb, c2, v2, hm35, hb, l2, h2, a35_0, a35_1, a35_6, a35_49, a35_50, a35_53, a35_54, hS35⟩ := hI35
    clear a34_0 a34_1 a34_49 a34_50 a34_53 a34_54 a34_6
    refine wpF_seq ?_
    refine wpF_cut (fun f H => f 0 = PT g 0 ∧ f 1 = I (t) ∧ f 6 = I ((a : Int)) ∧ f 49 = I ((q.Acts.length : Int)) ∧ f 50 = I ((a : Int)) ∧ f 53 = I ((a : Int)) ∧ f 54 = I ((bb : Int)) ∧ f 55 = B (decide ((bb : Int) < (a : Int))) ∧ H35 = H) ?_ ?_
    · refine wpF_region ?_
      refine wpL_q (U := NoB) rfl (q_lss rfl a35_54 a35_53) ?_
      exact ⟨a35_0, a35_1, a35_6, a35_49, a35_50, a35_53, a35_54, rfl, rfl⟩
    rintro f36 _ ⟨a36_0, a36_1, a36_6, a36_49, a36_50, a36_53, a36_54, a36_55, rfl⟩
    clear a35_0 a35_1 a35_49 a35_50 a35_53 a35_54 a35_6
    refine wpF_seq ?_
    refine wpF_condP a36_55 (fun c55 => ?t57) (fun c55 => ?e57)
    case e57 =>
      have hba : bb = a := by omega
      rw [hba] at h2
      refine wpF_exit ?_
      refine atX_here ?_
      refine wpF_cut (fun f H => f 0 = PT g 0 ∧ f 1 = I (t) ∧ f 49 = I ((q.Acts.length : Int)) ∧ f 50 = I ((a : Int) + 1) ∧ H35 = H) ?_ ?_
      · refine wpF_region ?_
        refine wpL_q (U := NoB) rfl (q_add rfl a36_50 rfl (by constructor <;> omega)) ?_
        refine wpL_q (U := NoB) rfl (q_move (v := I ((a : Int) + 1)) rfl rfl) ?_
        exact ⟨a36_0, a36_1, a36_49, rfl, rfl⟩
      rintro f56 _ ⟨a56_0, a56_1, a56_49, a56_50, rfl⟩
      clear a36_0 a36_1 a36_49 a36_50 a36_53 a36_54 a36_55 a36_6
      refine ⟨_, ?_, a + 1, c2, v2, rfl, (by omega), (by omega), (by rw [h2, h1, tPairs_next, List.append_assoc]), a56_0, a56_1, a56_49, (Eq.trans a56_50 (congrArg I (by omega))), hS35⟩
      omega
    have har := act_rng hQ (a := (bb : Int)) hn (by omega) (show 0 ≤ t ∧ t ≤ 21 by omega)
    have har2 := act_rng hQ (a := (a : Int)) hn (by omega) (show 0 ≤ t ∧ t ≤ 21 by omega)
    refine wpF_skip ?_
    refine wpF_seq ?_
    refine wpF_block ?_
    refine wpF_seq ?_
    refine wpF_cut (fun f H => f 0 = PT g 0 ∧ f 1 = I (t) ∧ f 6 = I ((a : Int)) ∧ f 7 = I ((bb : Int)) ∧ f 49 = I ((q.Acts.length : Int)) ∧ f 50 = I ((a : Int)) ∧ f 53 = I ((a : Int)) ∧ f 54 = I ((bb : Int)) ∧ H35 = H) ?_ ?_
    · refine wpF_region ?_
      refine wpL_q (U := NoB) rfl (q_move (v := I ((bb : Int))) rfl a36_54) ?_
      refine wpL_q (U := NoB) rfl (q_assign (v := I ((bb : Int))) rfl rfl) ?_
      exact ⟨a36_0, a36_1, a36_6, rfl, a36_49, a36_50, a36_53, a36_54, rfl⟩
    rintro f38 _ ⟨a38_0, a38_1, a38_6, a38_7, a38_49, a38_50, a38_53, a38_54, rfl⟩
    clear a36_0 a36_1 a36_49 a36_50 a36_53 a36_54 a36_55 a36_6
    refine wpF_cut (fun f H => ∃ (r50 : Value), f 0 = PT g 0 ∧ f 1 = I (t) ∧ f 6 = I ((a : Int)) ∧ f 49 = I ((q.Acts.length : Int)) ∧ f 50 = I ((a : Int)) ∧ f 53 = I ((a : Int)) ∧ f 54 = I ((bb : Int)) ∧ St H0 (own [rowE 22 vc (Cl : List (List Int)), blkE g (.cells #[I (q.Facts), vf, vg, va, I (n), I (w), vc] 84)]) (fun b => S b ∧ ¬ own [rowE 22 vc (Cl : List (List Int)), blkE g (.cells #[I (q.Facts), vf, vg, va, I (n), I (w), vc] 84)] b) [rowE 22 r50 (c2 ++ [([-(actV q n (bb : Int) t), -(actV q n (a : Int) t)])] : List (List Int)), blkE g (.cells #[I (q.Facts), vf, vg, va, I (n), I (w), r50] 84), rdE va q.Acts] H) ?_ ?_
    · refine wpF_region ?_
      refine wpL_q (U := NoB) rfl (q_move (v := PT g 0) rfl a38_0) ?_
      refine wpL_q (U := NoB) rfl (q_move (v := PT g 0) rfl a38_0) ?_
      refine wpL_q (U := NoB) rfl (q_move (v := I ((bb : Int))) rfl a38_7) ?_
      refine wpL_q (U := NoB) rfl (q_move (v := I (t)) rfl a38_1) ?_
      refine wpL_o rfl ?_
      refine e_call rfl Try.call56 (arr3 (v0 := PT g 0) (v1 := I ((bb : Int))) (v2 := I (t)) rfl rfl rfl) (act_E g vf vg va v2 q n w (bb : Int) t (hS35.blk 1 rfl) (hS35.rdN 2 rfl) hQ hn (by omega) (by omega)) ?_
      rintro _ H39 ⟨hxx, rfl⟩
      have hS40 : St H0 (own [rowE 22 vc (Cl : List (List Int)), blkE g (.cells #[I (q.Facts), vf, vg, va, I (n), I (w), vc] 84)]) (fun b => S b ∧ ¬ own [rowE 22 vc (Cl : List (List Int)), blkE g (.cells #[I (q.Facts), vf, vg, va, I (n), I (w), vc] 84)] b) [rowE 22 v2 (c2 : List (List Int)), blkE g (.cells #[I (q.Facts), vf, vg, va, I (n), I (w), v2] 84), rdE va q.Acts] H39 := hS35.ext hxx
      refine wpL_q (U := NoB) rfl (q_neg rfl rfl (by constructor <;> omega)) ?_
      refine wpL_q (U := NoB) rfl (q_move (v := PT g 0) rfl a38_0) ?_
      refine wpL_q (U := NoB) rfl (q_move (v := I ((a : Int))) rfl a38_6) ?_
      refine wpL_q (U := NoB) rfl (q_move (v := I (t)) rfl a38_1) ?_
      refine wpL_o rfl ?_
      refine e_call rfl Try.call56 (arr3 (v0 := PT g 0) (v1 := I ((a : Int))) (v2 := I (t)) rfl rfl rfl) (act_E g vf vg va v2 q n w (a : Int) t (hS40.blk 1 rfl) (hS40.rdN 2 rfl) hQ hn (by omega) (by omega)) ?_
      rintro _ H42 ⟨hxx, rfl⟩
      have hS43 : St H0 (own [rowE 22 vc (Cl : List (List Int)), blkE g (.cells #[I (q.Facts), vf, vg, va, I (n), I (w), vc] 84)]) (fun b => S b ∧ ¬ own [rowE 22 vc (Cl : List (List Int)), blkE g (.cells #[I (q.Facts), vf, vg, va, I (n), I (w), vc] 84)] b) [rowE 22 v2 (c2 : List (List Int)), blkE g (.cells #[I (q.Facts), vf, vg, va, I (n), I (w), v2] 84), rdE va q.Acts] H42 := hS40.ext hxx
      refine wpL_q (U := NoB) rfl (q_neg rfl rfl (by constructor <;> omega)) ?_
      refine wpL_o rfl ?_
      refine e_buildSlice (vs := [I (-(actV q n (bb : Int) t)), I (-(actV q n (a : Int) t))]) (xs := ([-(actV q n (bb : Int) t), -(actV q n (a : Int) t)] : List Int)) rfl Try.underlying22 Try.zeroValue3 rfl Try.sizeOf3 (par2 (v0 := I (-(actV q n (bb : Int) t))) (v1 := I (-(actV q n (a : Int) t))) rfl rfl) rfl hS43 (RdVs.cons (Rd.int.2 ⟨rfl, by first | assumption | (constructor <;> omega)⟩) (RdVs.cons (Rd.int.2 ⟨rfl, by first | assumption | (constructor <;> omega)⟩) (RdVs.nil))) (by decide) (by decide) (fun v45 H46 hS47 hxx hvv45 => ?_)
      replace hS47 : St H0 (own [rowE 22 vc (Cl : List (List Int)), blkE g (.cells #[I (q.Facts), vf, vg, va, I (n), I (w), vc] 84)]) (fun b => S b ∧ ¬ own [rowE 22 vc (Cl : List (List Int)), blkE g (.cells #[I (q.Facts), vf, vg, va, I (n), I (w), vc] 84)] b) [rowE 3 v45 ([-(actV q n (bb : Int) t), -(actV q n (a : Int) t)] : List Int), rowE 22 v2 (c2 : List (List Int)), blkE g (.cells #[I (q.Facts), vf, vg, va, I (n), I (w), v2] 84), rdE va q.Acts] H46 := hS47
      have hS48 : St H0 (own [rowE 22 vc (Cl : List (List Int)), blkE g (.cells #[I (q.Facts), vf, vg, va, I (n), I (w), vc] 84)]) (fun b => S b ∧ ¬ own [rowE 22 vc (Cl : List (List Int)), blkE g (.cells #[I (q.Facts), vf, vg, va, I (n), I (w), vc] 84)] b) [rdE v45 ([-(actV q n (bb : Int) t), -(actV q n (a : Int) t)] : List Int), rowE 22 v2 (c2 : List (List Int)), blkE g (.cells #[I (q.Facts), vf, vg, va, I (n), I (w), v2] 84), rdE va q.Acts] H46 := St.fin hS47
      have hS49 : St H0 (own [rowE 22 vc (Cl : List (List Int)), blkE g (.cells #[I (q.Facts), vf, vg, va, I (n), I (w), vc] 84)]) (fun b => S b ∧ ¬ own [rowE 22 vc (Cl : List (List Int)), blkE g (.cells #[I (q.Facts), vf, vg, va, I (n), I (w), vc] 84)] b) [rowE 22 v2 (c2 : List (List Int)), blkE g (.cells #[I (q.Facts), vf, vg, va, I (n), I (w), v2] 84), rdE v45 ([-(actV q n (bb : Int) t), -(actV q n (a : Int) t)] : List Int), rdE va q.Acts] H46 := (St.drop (show St H0 (own [rowE 22 vc (Cl : List (List Int)), blkE g (.cells #[I (q.Facts), vf, vg, va, I (n), I (w), vc] 84)]) (fun b => S b ∧ ¬ own [rowE 22 vc (Cl : List (List Int)), blkE g (.cells #[I (q.Facts), vf, vg, va, I (n), I (w), vc] 84)] b) [rowE 22 v2 (c2 : List (List Int)), blkE g (.cells #[I (q.Facts), vf, vg, va, I (n), I (w), v2] 84), rdE v45 ([-(actV q n (bb : Int) t), -(actV q n (a : Int) t)] : List Int), rdE va q.Acts] H46 from ((hS48.front 2 rfl).front 2 rfl)) (sk (sk (sk (sk (List.Sublist.slnil))))))
      refine wpL_o rfl ?_
      refine e_call rfl Try.call53 (arr2 (v0 := PT g 0) (v1 := v45) rfl rfl) (add_E _ g vf vg va v2 v45 q n w c2 ([-(actV q n (bb : Int) t), -(actV q n (a : Int) t)]) (fun e he => hS49.ok e (List.mem_append_left [rdE v45 ([-(actV q n (bb : Int) t), -(actV q n (a : Int) t)] : List Int), rdE va q.Acts] he)) (fun b hb => SL.lt hS49 hb) (fun b ⟨e, he, hb⟩ => .inr ⟨e, List.mem_append_left [rdE v45 ([-(actV q n (bb : Int) t), -(actV q n (a : Int) t)] : List Int), rdE va q.Acts] he, hb⟩) (fun b hb e => hS49.dis 0 1 (by decide) rfl rfl b hb e) (hS49.rdS 2 rfl) (by first | omega | (simp only [List.length_append, List.length_singleton]; omega))) ?_
      rintro _ H51 ⟨hxx, r50, rfl, hgo⟩
      have hS52 : St H0 (own [rowE 22 vc (Cl : List (List Int)), blkE g (.cells #[I (q.Facts), vf, vg, va, I (n), I (w), vc] 84)]) (fun b => S b ∧ ¬ own [rowE 22 vc (Cl : List (List Int)), blkE g (.cells #[I (q.Facts), vf, vg, va, I (n), I (w), vc] 84)] b) [rowE 22 r50 (c2 ++ [([-(actV q n (bb : Int) t), -(actV q n (a : Int) t)])] : List (List Int)), blkE g (.cells #[I (q.Facts), vf, vg, va, I (n), I (w), r50] 84), rdE v45 ([-(actV q n (bb : Int) t), -(actV q n (a : Int) t)] : List Int), rdE va q.Acts] H51 := St.back3 (A := [rowE 22 v2 (c2 : List (List Int)), blkE g (.cells #[I (q.Facts), vf, vg, va, I (n), I (w), v2] 84)]) (A' := [rowE 22 r50 (c2 ++ [([-(actV q n (bb : Int) t), -(actV q n (a : Int) t)])] : List (List Int)), blkE g (.cells #[I (q.Facts), vf, vg, va, I (n), I (w), r50] 84)]) (L := [rdE v45 ([-(actV q n (bb : Int) t), -(actV q n (a : Int) t)] : List Int), rdE va q.Acts]) hS49 hxx hgo
      exact ⟨r50, a38_0, a38_1, a38_6, a38_49, a38_50, a38_53, a38_54, (hS52.drop (sk (sk (sn (sk (List.Sublist.slnil))))))⟩
    rintro f54 H54 ⟨r50, a54_0, a54_1, a54_6, a54_49, a54_50, a54_53, a54_54, hS54⟩
    clear a38_0 a38_1 a38_49 a38_50 a38_53 a38_54 a38_6 a38_7
    refine wpF_cut (fun f H => f 0 = PT g 0 ∧ f 1 = I (t) ∧ f 6 = I ((a : Int)) ∧ f 49 = I ((q.Acts.length : Int)) ∧ f 50 = I ((a : Int)) ∧ f 53 = I ((a : Int)) ∧ f 54 = I ((bb : Int) + 1) ∧ H54 = H) ?_ ?_
    · refine wpF_region ?_
      refine wpL_q (U := NoB) rfl (q_add rfl a54_54 rfl (by constructor <;> omega)) ?_
      refine wpL_q (U := NoB) rfl (q_move (v := I ((bb : Int) + 1)) rfl rfl) ?_
      exact ⟨a54_0, a54_1, a54_6, a54_49, a54_50, a54_53, rfl, rfl⟩
    rintro f55 _ ⟨a55_0, a55_1, a55_6, a55_49, a55_50, a55_53, a55_54, rfl⟩
    clear a54_0 a54_1 a54_49 a54_50 a54_53 a54_54 a54_6
    refine ⟨_, ?_, bb + 1, c2 ++ [([-(actV q n (bb : Int) t), -(actV q n (a : Int) t)])], r50, rfl, (by omega), (by rw [List.length_append, List.length_singleton]; omega), (by rw [h2, tPair_next, List.append_assoc]), a55_0, a55_1, a55_6, a55_49, a55_50, a55_53, (Eq.trans a55_54 (congrArg I (by omega))), (show St H0 (own [rowE 22 vc (Cl : List (List Int)), blkE g (.cells #[I (q.Facts), vf, vg, va, I (n), I (w), vc] 84)]) (fun b => S b ∧ ¬ own [rowE 22 vc (Cl : List (List Int)), blkE g (.cells #[I (q.Facts), vf, vg, va, I (n), I (w), vc] 84)] b) [rowE 22 r50 ((c2 ++ [([-(actV q n (bb : Int) t), -(actV q n (a : Int) t)])]) : List (List Int)), blkE g (.cells #[I (q.Facts), vf, vg, va, I (n), I (w), r50] 84), rdE va q.Acts] H54 from hS54)⟩
    omega
  have haK : a = q.Acts.length := by omega
  rw [haK] at h1
  refine wpF_exit ?_
  refine atX_here ?_
  refine wpF_seq ?_
  refine wpF_seq ?_
  refine wpF_cut (fun f H => f 0 = PT g 0 ∧ f 1 = I (t) ∧ f 76 = va ∧ f 77 = I ((q.Acts.length : Int)) ∧ f 78 = I (0) ∧ H30 = H) ?_ ?_
  · refine wpF_region ?_
    refine wpL_q (U := NoB) rfl (q_move (v := PT g 0) rfl a31_0) ?_
    refine wpL_q (U := NoB) rfl (q_nilCheck rfl rfl) ?_
    refine wpL_q (U := NoB) rfl (q_fieldAddr rfl Try.underlying84 rfl Try.sizeOf25 rfl) ?_
    refine wpL_q (U := NoB) rfl (q_fieldAddr rfl Try.underlying25 rfl Try.sizeOf23 rfl) ?_
    refine wpL_q (U := NoB) rfl (q_loadBlk rfl rfl Try.isAgg23 (hS30.blk 1 rfl) rfl (fun h => h)) ?_
    refine wpL_q (U := NoB) rfl (q_lenRd rfl Try.underlying23 rfl (hS30.rdl 2 rfl)) ?_
    refine wpL_q (U := NoB) rfl (q_move (v := I (0)) rfl rfl) ?_
    exact ⟨a31_0, a31_1, rfl, rfl, rfl, rfl⟩
  rintro f58 _ ⟨a58_0, a58_1, a58_76, a58_77, a58_78, rfl⟩
  clear a31_0 a31_1 a31_49 a31_50 a31_51
  refine wpF_block ?_
  refine wpF_loop (fun mz f H => ∃ (x : Nat), ∃ (c3 : List (List Int)), ∃ (v3 : Value), mz = q.Acts.length - x ∧ (x ≤ q.Acts.length) ∧ (c3.length ≤ c1.length + 100 * x) ∧ (c3 = c1 ++ tActs q n t x) ∧ f 0 = PT g 0 ∧ f 1 = I (t) ∧ f 76 = va ∧ f 77 = I ((q.Acts.length : Int)) ∧ f 78 = I ((x : Int)) ∧ St H0 (own [rowE 22 vc (Cl : List (List Int)), blkE g (.cells #[I (q.Facts), vf, vg, va, I (n), I (w), vc] 84)]) (fun b => S b ∧ ¬ own [rowE 22 vc (Cl : List (List Int)), blkE g (.cells #[I (q.Facts), vf, vg, va, I (n), I (w), vc] 84)] b) [rowE 22 v3 (c3 : List (List Int)), blkE g (.cells #[I (q.Facts), vf, vg, va, I (n), I (w), v3] 84), rdE va q.Acts] H) (q.Acts.length - 0) ?_ ?_
  · exact ⟨0, c1, v1, rfl, Nat.zero_le _, (Nat.le_refl _), (by simp [tActs]), a58_0, a58_1, a58_76, a58_77, (Eq.trans a58_78 (congrArg I (by omega))), hS30⟩
  intro m59 f59 H59 hI59
  obtain ⟨x, c3, v3, hm59, hx, l3, h3, a59_0, a59_1, a59_76, a59_77, a59_78, hS59⟩ := hI59
  clear a58_0 a58_1 a58_76 a58_77 a58_78
  refine wpF_seq ?_
  refine wpF_cut (fun f H => f 0 = PT g 0 ∧ f 1 = I (t) ∧ f 76 = va ∧ f 77 = I ((q.Acts.length : Int)) ∧ f 78 = I ((x : Int)) ∧ f 79 = B (decide ((x : Int) < (q.Acts.length : Int))) ∧ H59 = H) ?_ ?_
  · refine wpF_region ?_
    refine wpL_q (U := NoB) rfl (q_lss rfl a59_78 a59_77) ?_
    exact ⟨a59_0, a59_1, a59_76, a59_77, a59_78, rfl, rfl⟩
  rintro f60 _ ⟨a60_0, a60_1, a60_76, a60_77, a60_78, a60_79, rfl⟩
  clear a59_0 a59_1 a59_76 a59_77 a59_78
  refine wpF_seq ?_
  refine wpF_condP a60_79 (fun c79 => ?t255) (fun c79 => ?e255)
  case e255 =>
    have hxK : x = q.Acts.length := by omega
    rw [hxK] at h3
    refine wpF_exit ?_
    refine atX_here ?_
    refine wpF_seq ?_
    refine wpF_cut (fun f H => f 0 = PT g 0 ∧ f 1 = I (t) ∧ f 161 = I (q.Facts) ∧ f 162 = I (0) ∧ H59 = H) ?_ ?_
    · refine wpF_region ?_
      refine wpL_q (U := NoB) rfl (q_move (v := PT g 0) rfl a60_0) ?_
      refine wpL_q (U := NoB) rfl (q_nilCheck rfl rfl) ?_
      refine wpL_q (U := NoB) rfl (q_fieldAddr rfl Try.underlying84 rfl Try.sizeOf25 rfl) ?_
      refine wpL_q (U := NoB) rfl (q_fieldAddr rfl Try.underlying25 rfl Try.sizeOf3 rfl) ?_
      refine wpL_q (U := NoB) rfl (q_loadBlk rfl rfl Try.isAgg3 (hS59.blk 1 rfl) rfl (fun h => h)) ?_
      refine wpL_q (U := NoB) rfl (q_move (v := I (0)) rfl rfl) ?_
      exact ⟨a60_0, a60_1, rfl, rfl, rfl⟩
    rintro f158 _ ⟨a158_0, a158_1, a158_161, a158_162, rfl⟩
    clear a60_0 a60_1 a60_76 a60_77 a60_78 a60_79
    refine wpF_block ?_
    refine wpF_loop (fun mz f H => ∃ (y : Nat), ∃ (c8 : List (List Int)), ∃ (v8 : Value), mz = q.Facts.toNat - y ∧ (y ≤ q.Facts.toNat) ∧ (c8.length ≤ c3.length + 2 * y) ∧ (c8 = c3 ++ tFrames q n t y) ∧ f 0 = PT g 0 ∧ f 1 = I (t) ∧ f 161 = I (q.Facts) ∧ f 162 = I ((y : Int)) ∧ St H0 (own [rowE 22 vc (Cl : List (List Int)), blkE g (.cells #[I (q.Facts), vf, vg, va, I (n), I (w), vc] 84)]) (fun b => S b ∧ ¬ own [rowE 22 vc (Cl : List (List Int)), blkE g (.cells #[I (q.Facts), vf, vg, va, I (n), I (w), vc] 84)] b) [rowE 22 v8 (c8 : List (List Int)), blkE g (.cells #[I (q.Facts), vf, vg, va, I (n), I (w), v8] 84), rdE va q.Acts] H) (q.Facts.toNat - 0) ?_ ?_
    · exact ⟨0, c3, v3, rfl, Nat.zero_le _, (Nat.le_refl _), (by simp [tFrames]), a158_0, a158_1, a158_161, (Eq.trans a158_162 (congrArg I (by omega))), hS59⟩
    intro m159 f159 H159 hI159
    obtain ⟨y, c8, v8, hm159, hy, l8, h8, a159_0, a159_1, a159_161, a159_162, hS159⟩ := hI159
    clear a158_0 a158_1 a158_161 a158_162
    refine wpF_seq ?_
    refine wpF_cut (fun f H => f 0 = PT g 0 ∧ f 1 = I (t) ∧ f 161 = I (q.Facts) ∧ f 162 = I ((y : Int)) ∧ f 163 = B (decide ((y : Int) < q.Facts)) ∧ H159 = H) ?_ ?_
    · refine wpF_region ?_
      refine wpL_q (U := NoB) rfl (q_lss rfl a159_162 a159_161) ?_
      exact ⟨a159_0, a159_1, a159_161, a159_162, rfl, rfl⟩
    rintro f160 _ ⟨a160_0, a160_1, a160_161, a160_162, a160_163, rfl⟩
    clear a159_0 a159_1 a159_161 a159_162
    refine wpF_seq ?_
    refine wpF_condP a160_163 (fun c163 => ?t254) (fun c163 => ?e254)
    case e254 =>
      have hyF : y = q.Facts.toNat := by omega
      rw [hyF] at h8
      refine wpF_exit ?_
      refine atX_here ?_
      refine ⟨_, resN, hS159.frameM, ?_⟩
      show ∃ vc_, (Value.tuple #[]) = Value.tuple #[] ∧ Gone S [rowE 22 vc (Cl : List (List Int)), blkE g (.cells #[I (q.Facts), vf, vg, va, I (n), I (w), vc] 84)] [rowE 22 vc_ (Cl ++ timeC q n t : List (List Int)), blkE g (.cells #[I (q.Facts), vf, vg, va, I (n), I (w), vc_] 84)] H0 H159
      have hcz : c8 = Cl ++ timeC q n t := by rw [h8, h3, h1, timeC]; simp [List.append_assoc]
      have hL : St H0 (own [rowE 22 vc (Cl : List (List Int)), blkE g (.cells #[I (q.Facts), vf, vg, va, I (n), I (w), vc] 84)]) (fun b => S b ∧ ¬ own [rowE 22 vc (Cl : List (List Int)), blkE g (.cells #[I (q.Facts), vf, vg, va, I (n), I (w), vc] 84)] b) [rowE 22 v8 (c8 : List (List Int)), blkE g (.cells #[I (q.Facts), vf, vg, va, I (n), I (w), v8] 84)] H159 := (hS159.drop (sk (sk (sn (List.Sublist.slnil)))))
      rw [hcz] at hL
      exact ⟨v8, rfl, St.leave3 hL⟩
    have hfg := fact_rng hQ (f := (y : Int)) (t := t) (by omega) (by omega)
    have hfh := fact_rng hQ (f := (y : Int)) (t := t + 1) (by omega) (by omega)
    refine wpF_skip ?_
    refine wpF_seq ?_
    refine wpF_block ?_
    refine wpF_seq ?_
    refine wpF_cut (fun f H => f 0 = PT g 0 ∧ f 1 = I (t) ∧ f 19 = I ((y : Int)) ∧ f 161 = I (q.Facts) ∧ f 162 = I ((y : Int)) ∧ H159 = H) ?_ ?_
    · refine wpF_region ?_
      refine wpL_q (U := NoB) rfl (q_move (v := I ((y : Int))) rfl a160_162) ?_
      refine wpL_q (U := NoB) rfl (q_assign (v := I ((y : Int))) rfl rfl) ?_
      exact ⟨a160_0, a160_1, rfl, a160_161, a160_162, rfl⟩
    rintro f162 _ ⟨a162_0, a162_1, a162_19, a162_161, a162_162, rfl⟩
    clear a160_0 a160_1 a160_161 a160_162 a160_163
    refine wpF_seq ?_
    refine wpF_cut (fun f H => ∃ (v169 : Value), ∃ (v178 : Value), f 0 = PT g 0 ∧ f 1 = I (t) ∧ f 19 = I ((y : Int)) ∧ f 20 = v169 ∧ f 21 = v178 ∧ f 161 = I (q.Facts) ∧ f 162 = I ((y : Int)) ∧ St H0 (own [rowE 22 vc (Cl : List (List Int)), blkE g (.cells #[I (q.Facts), vf, vg, va, I (n), I (w), vc] 84)]) (fun b => S b ∧ ¬ own [rowE 22 vc (Cl : List (List Int)), blkE g (.cells #[I (q.Facts), vf, vg, va, I (n), I (w), vc] 84)] b) [rowE 3 v178 ([-(factV q (y : Int) t), factV q (y : Int) (t + 1)] : List Int), rowE 3 v169 ([factV q (y : Int) t, -(factV q (y : Int) (t + 1))] : List Int), rowE 22 v8 (c8 : List (List Int)), blkE g (.cells #[I (q.Facts), vf, vg, va, I (n), I (w), v8] 84), rdE va q.Acts] H) ?_ ?_
    · refine wpF_region ?_
      refine wpL_q (U := NoB) rfl (q_move (v := PT g 0) rfl a162_0) ?_
      refine wpL_q (U := NoB) rfl (q_move (v := I ((y : Int))) rfl a162_19) ?_
      refine wpL_q (U := NoB) rfl (q_move (v := I (t)) rfl a162_1) ?_
      refine wpL_o rfl ?_
      refine e_call rfl Try.call54 (arr3 (v0 := PT g 0) (v1 := I ((y : Int))) (v2 := I (t)) rfl rfl rfl) (fact_E g vf vg va v8 q n w (y : Int) t (hS159.blk 1 rfl) (hS159.rdN 2 rfl) hQ hn (by omega) (by omega)) ?_
      rintro _ H163 ⟨hxx, rfl⟩
      have hS164 : St H0 (own [rowE 22 vc (Cl : List (List Int)), blkE g (.cells #[I (q.Facts), vf, vg, va, I (n), I (w), vc] 84)]) (fun b => S b ∧ ¬ own [rowE 22 vc (Cl : List (List Int)), blkE g (.cells #[I (q.Facts), vf, vg, va, I (n), I (w), vc] 84)] b) [rowE 22 v8 (c8 : List (List Int)), blkE g (.cells #[I (q.Facts), vf, vg, va, I (n), I (w), v8] 84), rdE va q.Acts] H163 := hS159.ext hxx
      refine wpL_q (U := NoB) rfl (q_move (v := PT g 0) rfl a162_0) ?_
      refine wpL_q (U := NoB) rfl (q_move (v := I ((y : Int))) rfl a162_19) ?_
      refine wpL_q (U := NoB) rfl (q_move (v := I (t)) rfl a162_1) ?_
      refine wpL_q (U := NoB) rfl (q_add rfl rfl rfl (by constructor <;> omega)) ?_
      refine wpL_o rfl ?_
      refine e_call rfl Try.call54 (arr3 (v0 := PT g 0) (v1 := I ((y : Int))) (v2 := I (t + 1)) rfl rfl rfl) (fact_E g vf vg va v8 q n w (y : Int) (t + 1) (hS164.blk 1 rfl) (hS164.rdN 2 rfl) hQ hn (by omega) (by omega)) ?_
      rintro _ H166 ⟨hxx, rfl⟩
      have hS167 : St H0 (own [rowE 22 vc (Cl : List (List Int)), blkE g (.cells #[I (q.Facts), vf, vg, va, I (n), I (w), vc] 84)]) (fun b => S b ∧ ¬ own [rowE 22 vc (Cl : List (List Int)), blkE g (.cells #[I (q.Facts), vf, vg, va, I (n), I (w), vc] 84)] b) [rowE 22 v8 (c8 : List (List Int)), blkE g (.cells #[I (q.Facts), vf, vg, va, I (n), I (w), v8] 84), rdE va q.Acts] H166 := hS164.ext hxx
      refine wpL_q (U := NoB) rfl (q_neg rfl rfl (by constructor <;> omega)) ?_
      refine wpL_o rfl ?_
      refine e_buildSlice (vs := [I (factV q (y : Int) t), I (-(factV q (y : Int) (t + 1)))]) (xs := ([factV q (y : Int) t, -(factV q (y : Int) (t + 1))] : List Int)) rfl Try.underlying22 Try.zeroValue3 rfl Try.sizeOf3 (par2 (v0 := I (factV q (y : Int) t)) (v1 := I (-(factV q (y : Int) (t + 1)))) rfl rfl) rfl hS167 (RdVs.cons (Rd.int.2 ⟨rfl, by first | assumption | (constructor <;> omega)⟩) (RdVs.cons (Rd.int.2 ⟨rfl, by first | assumption | (constructor <;> omega)⟩) (RdVs.nil))) (by decide) (by decide) (fun v169 H170 hS171 hxx hvv169 => ?_)
      replace hS171 : St H0 (own [rowE 22 vc (Cl : List (List Int)), blkE g (.cells #[I (q.Facts), vf, vg, va, I (n), I (w), vc] 84)]) (fun b => S b ∧ ¬ own [rowE 22 vc (Cl : List (List Int)), blkE g (.cells #[I (q.Facts), vf, vg, va, I (n), I (w), vc] 84)] b) [rowE 3 v169 ([factV q (y : Int) t, -(factV q (y : Int) (t + 1))] : List Int), rowE 22 v8 (c8 : List (List Int)), blkE g (.cells #[I (q.Facts), vf, vg, va, I (n), I (w), v8] 84), rdE va q.Acts] H170 := hS171
      refine wpL_q (U := NoB) rfl (q_move (v := PT g 0) rfl a162_0) ?_
      refine wpL_q (U := NoB) rfl (q_move (v := I ((y : Int))) rfl a162_19) ?_
      refine wpL_q (U := NoB) rfl (q_move (v := I (t)) rfl a162_1) ?_
      refine wpL_o rfl ?_
      refine e_call rfl Try.call54 (arr3 (v0 := PT g 0) (v1 := I ((y : Int))) (v2 := I (t)) rfl rfl rfl) (fact_E g vf vg va v8 q n w (y : Int) t (hS171.blk 2 rfl) (hS171.rdN 3 rfl) hQ hn (by omega) (by omega)) ?_
      rintro _ H172 ⟨hxx, rfl⟩
      have hS173 : St H0 (own [rowE 22 vc (Cl : List (List Int)), blkE g (.cells #[I (q.Facts), vf, vg, va, I (n), I (w), vc] 84)]) (fun b => S b ∧ ¬ own [rowE 22 vc (Cl : List (List Int)), blkE g (.cells #[I (q.Facts), vf, vg, va, I (n), I (w), vc] 84)] b) [rowE 3 v169 ([factV q (y : Int) t, -(factV q (y : Int) (t + 1))] : List Int), rowE 22 v8 (c8 : List (List Int)), blkE g (.cells #[I (q.Facts), vf, vg, va, I (n), I (w), v8] 84), rdE va q.Acts] H172 := hS171.ext hxx
      refine wpL_q (U := NoB) rfl (q_neg rfl rfl (by constructor <;> omega)) ?_
      refine wpL_q (U := NoB) rfl (q_move (v := PT g 0) rfl a162_0) ?_
      refine wpL_q (U := NoB) rfl (q_move (v := I ((y : Int))) rfl a162_19) ?_
      refine wpL_q (U := NoB) rfl (q_move (v := I (t)) rfl a162_1) ?_
      refine wpL_q (U := NoB) rfl (q_add rfl rfl rfl (by constructor <;> omega)) ?_
      refine wpL_o rfl ?_
      refine e_call rfl Try.call54 (arr3 (v0 := PT g 0) (v1 := I ((y : Int))) (v2 := I (t + 1)) rfl rfl rfl) (fact_E g vf vg va v8 q n w (y : Int) (t + 1) (hS173.blk 2 rfl) (hS173.rdN 3 rfl) hQ hn (by omega) (by omega)) ?_
      rintro _ H175 ⟨hxx, rfl⟩
      have hS176 : St H0 (own [rowE 22 vc (Cl : List (List Int)), blkE g (.cells #[I (q.Facts), vf, vg, va, I (n), I (w), vc] 84)]) (fun b => S b ∧ ¬ own [rowE 22 vc (Cl : List (List Int)), blkE g (.cells #[I (q.Facts), vf, vg, va, I (n), I (w), vc] 84)] b) [rowE 3 v169 ([factV q (y : Int) t, -(factV q (y : Int) (t + 1))] : List Int), rowE 22 v8 (c8 : List (List Int)), blkE g (.cells #[I (q.Facts), vf, vg, va, I (n), I (w), v8] 84), rdE va q.Acts] H175 := hS173.ext hxx
      refine wpL_o rfl ?_
      refine e_buildSlice (vs := [I (-(factV q (y : Int) t)), I (factV q (y : Int) (t + 1))]) (xs := ([-(factV q (y : Int) t), factV q (y : Int) (t + 1)] : List Int)) rfl Try.underlying22 Try.zeroValue3 rfl Try.sizeOf3 (par2 (v0 := I (-(factV q (y : Int) t))) (v1 := I (factV q (y : Int) (t + 1))) rfl rfl) rfl hS176 (RdVs.cons (Rd.int.2 ⟨rfl, by first | assumption | (constructor <;> omega)⟩) (RdVs.cons (Rd.int.2 ⟨rfl, by first | assumption | (constructor <;> omega)⟩) (RdVs.nil))) (by decide) (by decide) (fun v178 H179 hS180 hxx hvv178 => ?_)
      replace hS180 : St H0 (own [rowE 22 vc (Cl : List (List Int)), blkE g (.cells #[I (q.Facts), vf, vg, va, I (n), I (w), vc] 84)]) (fun b => S b ∧ ¬ own [rowE 22 vc (Cl : List (List Int)), blkE g (.cells #[I (q.Facts), vf, vg, va, I (n), I (w), vc] 84)] b) [rowE 3 v178 ([-(factV q (y : Int) t), factV q (y : Int) (t + 1)] : List Int), rowE 3 v169 ([factV q (y : Int) t, -(factV q (y : Int) (t + 1))] : List Int), rowE 22 v8 (c8 : List (List Int)), blkE g (.cells #[I (q.Facts), vf, vg, va, I (n), I (w), v8] 84), rdE va q.Acts] H179 := hS180
      refine wpL_q (U := NoB) rfl (q_assign (v := v169) rfl rfl) ?_
      refine wpL_q (U := NoB) rfl (q_assign (v := v178) rfl rfl) ?_
      exact ⟨v169, v178, a162_0, a162_1, a162_19, rfl, rfl, a162_161, a162_162, hS180⟩
    rintro f181 H181 ⟨v169, v178, a181_0, a181_1, a181_19, a181_20, a181_21, a181_161, a181_162, hS181⟩
    clear a162_0 a162_1 a162_161 a162_162 a162_19
    refine wpF_seq ?_
    refine wpF_seq ?_
    refine wpF_cut (fun f H => f 0 = PT g 0 ∧ f 1 = I (t) ∧ f 19 = I ((y : Int)) ∧ f 20 = v169 ∧ f 21 = v178 ∧ f 161 = I (q.Facts) ∧ f 162 = I ((y : Int)) ∧ f 191 = va ∧ f 192 = I ((q.Acts.length : Int)) ∧ f 193 = I (0) ∧ H181 = H) ?_ ?_
    · refine wpF_region ?_
      refine wpL_q (U := NoB) rfl (q_move (v := PT g 0) rfl a181_0) ?_
      refine wpL_q (U := NoB) rfl (q_nilCheck rfl rfl) ?_
      refine wpL_q (U := NoB) rfl (q_fieldAddr rfl Try.underlying84 rfl Try.sizeOf25 rfl) ?_
      refine wpL_q (U := NoB) rfl (q_fieldAddr rfl Try.underlying25 rfl Try.sizeOf23 rfl) ?_
      refine wpL_q (U := NoB) rfl (q_loadBlk rfl rfl Try.isAgg23 (hS181.blk 3 rfl) rfl (fun h => h)) ?_
      refine wpL_q (U := NoB) rfl (q_lenRd rfl Try.underlying23 rfl (hS181.rdl 4 rfl)) ?_
      refine wpL_q (U := NoB) rfl (q_move (v := I (0)) rfl rfl) ?_
      exact ⟨a181_0, a181_1, a181_19, a181_20, a181_21, a181_161, a181_162, rfl, rfl, rfl, rfl⟩
    rintro f182 _ ⟨a182_0, a182_1, a182_19, a182_20, a182_21, a182_161, a182_162, a182_191, a182_192, a182_193, rfl⟩
    clear a181_0 a181_1 a181_161 a181_162 a181_19 a181_20 a181_21
    refine wpF_block ?_
    refine wpF_loop (fun mz f H => ∃ (z : Nat), ∃ (vR : Value), ∃ (vF : Value), mz = q.Acts.length - z ∧ (z ≤ q.Acts.length) ∧ f 0 = PT g 0 ∧ f 1 = I (t) ∧ f 19 = I ((y : Int)) ∧ f 20 = vR ∧ f 21 = vF ∧ f 161 = I (q.Facts) ∧ f 162 = I ((y : Int)) ∧ f 191 = va ∧ f 192 = I ((q.Acts.length : Int)) ∧ f 193 = I ((z : Int)) ∧ St H0 (own [rowE 22 vc (Cl : List (List Int)), blkE g (.cells #[I (q.Facts), vf, vg, va, I (n), I (w), vc] 84)]) (fun b => S b ∧ ¬ own [rowE 22 vc (Cl : List (List Int)), blkE g (.cells #[I (q.Facts), vf, vg, va, I (n), I (w), vc] 84)] b) [rowE 3 vR (tRise q n t y z : List Int), rowE 3 vF (tFall q n t y z : List Int), rowE 22 v8 (c8 : List (List Int)), blkE g (.cells #[I (q.Facts), vf, vg, va, I (n), I (w), v8] 84), rdE va q.Acts] H) (q.Acts.length - 0) ?_ ?_
    · exact ⟨0, v169, v178, rfl, Nat.zero_le _, a182_0, a182_1, a182_19, a182_20, a182_21, a182_161, a182_162, a182_191, a182_192, (Eq.trans a182_193 (congrArg I (by omega))), (show St H0 (own [rowE 22 vc (Cl : List (List Int)), blkE g (.cells #[I (q.Facts), vf, vg, va, I (n), I (w), vc] 84)]) (fun b => S b ∧ ¬ own [rowE 22 vc (Cl : List (List Int)), blkE g (.cells #[I (q.Facts), vf, vg, va, I (n), I (w), vc] 84)] b) [rowE 3 v169 (tRise q n t y 0 : List Int), rowE 3 v178 (tFall q n t y 0 : List Int), rowE 22 v8 (c8 : List (List Int)), blkE g (.cells #[I (q.Facts), vf, vg, va, I (n), I (w), v8] 84), rdE va q.Acts] H181 from (St.drop (show St H0 (own [rowE 22 vc (Cl : List (List Int)), blkE g (.cells #[I (q.Facts), vf, vg, va, I (n), I (w), vc] 84)]) (fun b => S b ∧ ¬ own [rowE 22 vc (Cl : List (List Int)), blkE g (.cells #[I (q.Facts), vf, vg, va, I (n), I (w), vc] 84)] b) [rowE 3 v169 ([factV q (y : Int) t, -(factV q (y : Int) (t + 1))] : List Int), rowE 3 v178 ([-(factV q (y : Int) t), factV q (y : Int) (t + 1)] : List Int), rowE 22 v8 (c8 : List (List Int)), blkE g (.cells #[I (q.Facts), vf, vg, va, I (n), I (w), v8] 84), rdE va q.Acts] H181 from (hS181.front 1 rfl)) (sk (sk (sk (sk (sk (List.Sublist.slnil))))))))⟩
    intro m183 f183 H183 hI183
    obtain ⟨z, vR, vF, hm183, hz, a183_0, a183_1, a183_19, a183_20, a183_21, a183_161, a183_162, a183_191, a183_192, a183_193, hS183⟩ := hI183
    clear a182_0 a182_1 a182_161 a182_162 a182_19 a182_191 a182_192 a182_193 a182_20 a182_21
    refine wpF_seq ?_
    refine wpF_cut (fun f H => f 0 = PT g 0 ∧ f 1 = I (t) ∧ f 19 = I ((y : Int)) ∧ f 20 = vR ∧ f 21 = vF ∧ f 161 = I (q.Facts) ∧ f 162 = I ((y : Int)) ∧ f 191 = va ∧ f 192 = I ((q.Acts.length : Int)) ∧ f 193 = I ((z : Int)) ∧ f 194 = B (decide ((z : Int) < (q.Acts.length : Int))) ∧ H183 = H) ?_ ?_
    · refine wpF_region ?_
      refine wpL_q (U := NoB) rfl (q_lss rfl a183_193 a183_192) ?_
      exact ⟨a183_0, a183_1, a183_19, a183_20, a183_21, a183_161, a183_162, a183_191, a183_192, a183_193, rfl, rfl⟩
    rintro f184 _ ⟨a184_0, a184_1, a184_19, a184_20, a184_21, a184_161, a184_162, a184_191, a184_192, a184_193, a184_194, rfl⟩
    clear a183_0 a183_1 a183_161 a183_162 a183_19 a183_191 a183_192 a183_193 a183_20 a183_21
    refine wpF_seq ?_
    refine wpF_condP a184_194 (fun c194 => ?t253) (fun c194 => ?e253)
    case e253 =>
      obtain rfl : z = q.Acts.length := by omega
      refine wpF_exit ?_
      refine atX_here ?_
      refine wpF_seq ?_
      refine wpF_cut (fun f H => ∃ (r240 : Value), f 0 = PT g 0 ∧ f 1 = I (t) ∧ f 21 = vF ∧ f 161 = I (q.Facts) ∧ f 162 = I ((y : Int)) ∧ St H0 (own [rowE 22 vc (Cl : List (List Int)), blkE g (.cells #[I (q.Facts), vf, vg, va, I (n), I (w), vc] 84)]) (fun b => S b ∧ ¬ own [rowE 22 vc (Cl : List (List Int)), blkE g (.cells #[I (q.Facts), vf, vg, va, I (n), I (w), vc] 84)] b) [rowE 22 r240 (c8 ++ [(tRise q n t y q.Acts.length)] : List (List Int)), blkE g (.cells #[I (q.Facts), vf, vg, va, I (n), I (w), r240] 84), rowE 3 vF (tFall q n t y q.Acts.length : List Int), rdE va q.Acts] H) ?_ ?_
      · refine wpF_region ?_
        refine wpL_q (U := NoB) rfl (q_move (v := PT g 0) rfl a184_0) ?_
        refine wpL_q (U := NoB) rfl (q_move (v := vR) rfl a184_20) ?_
        have hS238 : St H0 (own [rowE 22 vc (Cl : List (List Int)), blkE g (.cells #[I (q.Facts), vf, vg, va, I (n), I (w), vc] 84)]) (fun b => S b ∧ ¬ own [rowE 22 vc (Cl : List (List Int)), blkE g (.cells #[I (q.Facts), vf, vg, va, I (n), I (w), vc] 84)] b) [rdE vR (tRise q n t y q.Acts.length), rowE 3 vF (tFall q n t y q.Acts.length : List Int), rowE 22 v8 (c8 : List (List Int)), blkE g (.cells #[I (q.Facts), vf, vg, va, I (n), I (w), v8] 84), rdE va q.Acts] H183 := St.fin hS183
        have hS239 : St H0 (own [rowE 22 vc (Cl : List (List Int)), blkE g (.cells #[I (q.Facts), vf, vg, va, I (n), I (w), vc] 84)]) (fun b => S b ∧ ¬ own [rowE 22 vc (Cl : List (List Int)), blkE g (.cells #[I (q.Facts), vf, vg, va, I (n), I (w), vc] 84)] b) [rowE 22 v8 (c8 : List (List Int)), blkE g (.cells #[I (q.Facts), vf, vg, va, I (n), I (w), v8] 84), rdE vR (tRise q n t y q.Acts.length), rowE 3 vF (tFall q n t y q.Acts.length : List Int), rdE va q.Acts] H183 := (St.drop (show St H0 (own [rowE 22 vc (Cl : List (List Int)), blkE g (.cells #[I (q.Facts), vf, vg, va, I (n), I (w), vc] 84)]) (fun b => S b ∧ ¬ own [rowE 22 vc (Cl : List (List Int)), blkE g (.cells #[I (q.Facts), vf, vg, va, I (n), I (w), vc] 84)] b) [rowE 22 v8 (c8 : List (List Int)), blkE g (.cells #[I (q.Facts), vf, vg, va, I (n), I (w), v8] 84), rdE vR (tRise q n t y q.Acts.length), rowE 3 vF (tFall q n t y q.Acts.length : List Int), rdE va q.Acts] H183 from ((hS238.front 3 rfl).front 3 rfl)) (sk (sk (sk (sk (sk (List.Sublist.slnil)))))))
        refine wpL_o rfl ?_
        refine e_call rfl Try.call53 (arr2 (v0 := PT g 0) (v1 := vR) rfl rfl) (add_E _ g vf vg va v8 vR q n w c8 (tRise q n t y q.Acts.length) (fun e he => hS239.ok e (List.mem_append_left [rdE vR (tRise q n t y q.Acts.length), rowE 3 vF (tFall q n t y q.Acts.length : List Int), rdE va q.Acts] he)) (fun b hb => SL.lt hS239 hb) (fun b ⟨e, he, hb⟩ => .inr ⟨e, List.mem_append_left [rdE vR (tRise q n t y q.Acts.length), rowE 3 vF (tFall q n t y q.Acts.length : List Int), rdE va q.Acts] he, hb⟩) (fun b hb e => hS239.dis 0 1 (by decide) rfl rfl b hb e) (hS239.rdS 2 rfl) (by first | omega | (simp only [List.length_append, List.length_singleton]; omega))) ?_
        rintro _ H241 ⟨hxx, r240, rfl, hgo⟩
        have hS242 : St H0 (own [rowE 22 vc (Cl : List (List Int)), blkE g (.cells #[I (q.Facts), vf, vg, va, I (n), I (w), vc] 84)]) (fun b => S b ∧ ¬ own [rowE 22 vc (Cl : List (List Int)), blkE g (.cells #[I (q.Facts), vf, vg, va, I (n), I (w), vc] 84)] b) [rowE 22 r240 (c8 ++ [(tRise q n t y q.Acts.length)] : List (List Int)), blkE g (.cells #[I (q.Facts), vf, vg, va, I (n), I (w), r240] 84), rdE vR (tRise q n t y q.Acts.length), rowE 3 vF (tFall q n t y q.Acts.length : List Int), rdE va q.Acts] H241 := St.back3 (A := [rowE 22 v8 (c8 : List (List Int)), blkE g (.cells #[I (q.Facts), vf, vg, va, I (n), I (w), v8] 84)]) (A' := [rowE 22 r240 (c8 ++ [(tRise q n t y q.Acts.length)] : List (List Int)), blkE g (.cells #[I (q.Facts), vf, vg, va, I (n), I (w), r240] 84)]) (L := [rdE vR (tRise q n t y q.Acts.length), rowE 3 vF (tFall q n t y q.Acts.length : List Int), rdE va q.Acts]) hS239 hxx hgo
        exact ⟨r240, a184_0, a184_1, a184_21, a184_161, a184_162, (hS242.drop (sk (sk (sn (sk (sk (List.Sublist.slnil)))))))⟩
      rintro f244 H244 ⟨r240, a244_0, a244_1, a244_21, a244_161, a244_162, hS244⟩
      clear a184_0 a184_1 a184_161 a184_162 a184_19 a184_191 a184_192 a184_193 a184_194 a184_20 a184_21
      refine wpF_cut (fun f H => ∃ (r247 : Value), f 0 = PT g 0 ∧ f 1 = I (t) ∧ f 161 = I (q.Facts) ∧ f 162 = I ((y : Int)) ∧ St H0 (own [rowE 22 vc (Cl : List (List Int)), blkE g (.cells #[I (q.Facts), vf, vg, va, I (n), I (w), vc] 84)]) (fun b => S b ∧ ¬ own [rowE 22 vc (Cl : List (List Int)), blkE g (.cells #[I (q.Facts), vf, vg, va, I (n), I (w), vc] 84)] b) [rowE 22 r247 ((c8 ++ [(tRise q n t y q.Acts.length)]) ++ [(tFall q n t y q.Acts.length)] : List (List Int)), blkE g (.cells #[I (q.Facts), vf, vg, va, I (n), I (w), r247] 84), rdE va q.Acts] H) ?_ ?_
      · refine wpF_region ?_
        refine wpL_q (U := NoB) rfl (q_move (v := PT g 0) rfl a244_0) ?_
        refine wpL_q (U := NoB) rfl (q_move (v := vF) rfl a244_21) ?_
        have hS245 : St H0 (own [rowE 22 vc (Cl : List (List Int)), blkE g (.cells #[I (q.Facts), vf, vg, va, I (n), I (w), vc] 84)]) (fun b => S b ∧ ¬ own [rowE 22 vc (Cl : List (List Int)), blkE g (.cells #[I (q.Facts), vf, vg, va, I (n), I (w), vc] 84)] b) [rdE vF (tFall q n t y q.Acts.length), rowE 22 r240 (c8 ++ [(tRise q n t y q.Acts.length)] : List (List Int)), blkE g (.cells #[I (q.Facts), vf, vg, va, I (n), I (w), r240] 84), rdE va q.Acts] H244 := St.fin (hS244.front 2 rfl)
        have hS246 : St H0 (own [rowE 22 vc (Cl : List (List Int)), blkE g (.cells #[I (q.Facts), vf, vg, va, I (n), I (w), vc] 84)]) (fun b => S b ∧ ¬ own [rowE 22 vc (Cl : List (List Int)), blkE g (.cells #[I (q.Facts), vf, vg, va, I (n), I (w), vc] 84)] b) [rowE 22 r240 (c8 ++ [(tRise q n t y q.Acts.length)] : List (List Int)), blkE g (.cells #[I (q.Facts), vf, vg, va, I (n), I (w), r240] 84), rdE vF (tFall q n t y q.Acts.length), rdE va q.Acts] H244 := (St.drop (show St H0 (own [rowE 22 vc (Cl : List (List Int)), blkE g (.cells #[I (q.Facts), vf, vg, va, I (n), I (w), vc] 84)]) (fun b => S b ∧ ¬ own [rowE 22 vc (Cl : List (List Int)), blkE g (.cells #[I (q.Facts), vf, vg, va, I (n), I (w), vc] 84)] b) [rowE 22 r240 (c8 ++ [(tRise q n t y q.Acts.length)] : List (List Int)), blkE g (.cells #[I (q.Facts), vf, vg, va, I (n), I (w), r240] 84), rdE vF (tFall q n t y q.Acts.length), rdE va q.Acts] H244 from ((hS245.front 2 rfl).front 2 rfl)) (sk (sk (sk (sk (List.Sublist.slnil))))))
        refine wpL_o rfl ?_
        refine e_call rfl Try.call53 (arr2 (v0 := PT g 0) (v1 := vF) rfl rfl) (add_E _ g vf vg va r240 vF q n w (c8 ++ [(tRise q n t y q.Acts.length)]) (tFall q n t y q.Acts.length) (fun e he => hS246.ok e (List.mem_append_left [rdE vF (tFall q n t y q.Acts.length), rdE va q.Acts] he)) (fun b hb => SL.lt hS246 hb) (fun b ⟨e, he, hb⟩ => .inr ⟨e, List.mem_append_left [rdE vF (tFall q n t y q.Acts.length), rdE va q.Acts] he, hb⟩) (fun b hb e => hS246.dis 0 1 (by decide) rfl rfl b hb e) (hS246.rdS 2 rfl) (by first | omega | (simp only [List.length_append, List.length_singleton]; omega))) ?_
        rintro _ H248 ⟨hxx, r247, rfl, hgo⟩
        have hS249 : St H0 (own [rowE 22 vc (Cl : List (List Int)), blkE g (.cells #[I (q.Facts), vf, vg, va, I (n), I (w), vc] 84)]) (fun b => S b ∧ ¬ own [rowE 22 vc (Cl : List (List Int)), blkE g (.cells #[I (q.Facts), vf, vg, va, I (n), I (w), vc] 84)] b) [rowE 22 r247 ((c8 ++ [(tRise q n t y q.Acts.length)]) ++ [(tFall q n t y q.Acts.length)] : List (List Int)), blkE g (.cells #[I (q.Facts), vf, vg, va, I (n), I (w), r247] 84), rdE vF (tFall q n t y q.Acts.length), rdE va q.Acts] H248 := St.back3 (A := [rowE 22 r240 (c8 ++ [(tRise q n t y q.Acts.length)] : List (List Int)), blkE g (.cells #[I (q.Facts), vf, vg, va, I (n), I (w), r240] 84)]) (A' := [rowE 22 r247 ((c8 ++ [(tRise q n t y q.Acts.length)]) ++ [(tFall q n t y q.Acts.length)] : List (List Int)), blkE g (.cells #[I (q.Facts), vf, vg, va, I (n), I (w), r247] 84)]) (L := [rdE vF (tFall q n t y q.Acts.length), rdE va q.Acts]) hS246 hxx hgo
        exact ⟨r247, a244_0, a244_1, a244_161, a244_162, (hS249.drop (sk (sk (sn (sk (List.Sublist.slnil))))))⟩
      rintro f251 H251 ⟨r247, a251_0, a251_1, a251_161, a251_162, hS251⟩
      clear a244_0 a244_1 a244_161 a244_162 a244_21
      refine wpF_cut (fun f H => f 0 = PT g 0 ∧ f 1 = I (t) ∧ f 161 = I (q.Facts) ∧ f 162 = I ((y : Int) + 1) ∧ H251 = H) ?_ ?_
      · refine wpF_region ?_
        refine wpL_q (U := NoB) rfl (q_add rfl a251_162 rfl (by constructor <;> omega)) ?_
        refine wpL_q (U := NoB) rfl (q_move (v := I ((y : Int) + 1)) rfl rfl) ?_
        exact ⟨a251_0, a251_1, a251_161, rfl, rfl⟩
      rintro f252 _ ⟨a252_0, a252_1, a252_161, a252_162, rfl⟩
      clear a251_0 a251_1 a251_161 a251_162
      refine ⟨_, ?_, y + 1, (c8 ++ [(tRise q n t y q.Acts.length)]) ++ [(tFall q n t y q.Acts.length)], r247, rfl, (by omega), (by rw [List.length_append, List.length_append, List.length_singleton, List.length_singleton]; omega), (by rw [h8, tFrames_next]; simp [List.append_assoc]), a252_0, a252_1, a252_161, (Eq.trans a252_162 (congrArg I (by omega))), (show St H0 (own [rowE 22 vc (Cl : List (List Int)), blkE g (.cells #[I (q.Facts), vf, vg, va, I (n), I (w), vc] 84)]) (fun b => S b ∧ ¬ own [rowE 22 vc (Cl : List (List Int)), blkE g (.cells #[I (q.Facts), vf, vg, va, I (n), I (w), vc] 84)] b) [rowE 22 r247 (((c8 ++ [(tRise q n t y q.Acts.length)]) ++ [(tFall q n t y q.Acts.length)]) : List (List Int)), blkE g (.cells #[I (q.Facts), vf, vg, va, I (n), I (w), r247] 84), rdE va q.Acts] H251 from hS251)⟩
      omega
    have hrl := tRise_len (q := q) (n := n) (t := t) (f := y) (k := z)
    have hfl := tFall_len (q := q) (n := n) (t := t) (f := y) (k := z)
    have har := act_rng hQ (a := (z : Int)) hn (by omega) (show 0 ≤ t ∧ t ≤ 21 by omega)
    refine wpF_skip ?_
    refine wpF_seq ?_
    refine wpF_block ?_
    refine wpF_seq ?_
    refine wpF_cut (fun f H => ∃ (u186n0 : Value), ∃ (u186n1 : Value), ∃ (u186n2 : Value), ∃ (u186n3 : Value), ∃ (g191 : Nat), f 0 = PT g 0 ∧ f 1 = I (t) ∧ f 19 = I ((y : Int)) ∧ f 20 = vR ∧ f 21 = vF ∧ f 22 = I ((z : Int)) ∧ f 23 = PT g191 0 ∧ f 161 = I (q.Facts) ∧ f 162 = I ((y : Int)) ∧ f 191 = va ∧ f 192 = I ((q.Acts.length : Int)) ∧ f 193 = I ((z : Int)) ∧ St H0 (own [rowE 22 vc (Cl : List (List Int)), blkE g (.cells #[I (q.Facts), vf, vg, va, I (n), I (w), vc] 84)]) (fun b => S b ∧ ¬ own [rowE 22 vc (Cl : List (List Int)), blkE g (.cells #[I (q.Facts), vf, vg, va, I (n), I (w), vc] 84)] b) [blkE g191 (.cells #[u186n0, u186n1, u186n2, u186n3] 37), rdE u186n3 ((nth q.Acts z).Drop), rdE u186n2 ((nth q.Acts z).Add), rdE u186n1 ((nth q.Acts z).Bar), rdE u186n0 ((nth q.Acts z).Need), rowE 3 vR (tRise q n t y z : List Int), rowE 3 vF (tFall q n t y z : List Int), rowE 22 v8 (c8 : List (List Int)), blkE g (.cells #[I (q.Facts), vf, vg, va, I (n), I (w), v8] 84), rdE va q.Acts] H) ?_ ?_
    · refine wpF_region ?_
      refine wpL_q (U := NoB) rfl (q_move (v := I ((z : Int))) rfl a184_193) ?_
      refine wpL_q (U := NoB) rfl (q_indexRd (k := z) rfl Try.underlying23 el_Act_37_StepT1 a184_191 a184_193 (hS183.rdl 4 rfl) (by omega) (by omega)) ?_
      obtain ⟨u186, huu186, hlu186⟩ := (Rd.list.1 (hS183.rdS 4 rfl)).elem z (by omega)
      obtain ⟨u186n0, u186n1, u186n2, u186n3, rfl, hu1860, hu1861, hu1862, hu1863⟩ := Rd.act.1 huu186
      have hS187 : St H0 (own [rowE 22 vc (Cl : List (List Int)), blkE g (.cells #[I (q.Facts), vf, vg, va, I (n), I (w), vc] 84)]) (fun b => S b ∧ ¬ own [rowE 22 vc (Cl : List (List Int)), blkE g (.cells #[I (q.Facts), vf, vg, va, I (n), I (w), vc] 84)] b) [rdE u186n0 ((nth q.Acts z).Need), rowE 3 vR (tRise q n t y z : List Int), rowE 3 vF (tFall q n t y z : List Int), rowE 22 v8 (c8 : List (List Int)), blkE g (.cells #[I (q.Facts), vf, vg, va, I (n), I (w), v8] 84), rdE va q.Acts] H183 := hS183.rd hu1860
      have hS188 : St H0 (own [rowE 22 vc (Cl : List (List Int)), blkE g (.cells #[I (q.Facts), vf, vg, va, I (n), I (w), vc] 84)]) (fun b => S b ∧ ¬ own [rowE 22 vc (Cl : List (List Int)), blkE g (.cells #[I (q.Facts), vf, vg, va, I (n), I (w), vc] 84)] b) [rdE u186n1 ((nth q.Acts z).Bar), rdE u186n0 ((nth q.Acts z).Need), rowE 3 vR (tRise q n t y z : List Int), rowE 3 vF (tFall q n t y z : List Int), rowE 22 v8 (c8 : List (List Int)), blkE g (.cells #[I (q.Facts), vf, vg, va, I (n), I (w), v8] 84), rdE va q.Acts] H183 := hS187.rd (hu1861.sub fun _ hb => SL_rd hb)
      have hS189 : St H0 (own [rowE 22 vc (Cl : List (List Int)), blkE g (.cells #[I (q.Facts), vf, vg, va, I (n), I (w), vc] 84)]) (fun b => S b ∧ ¬ own [rowE 22 vc (Cl : List (List Int)), blkE g (.cells #[I (q.Facts), vf, vg, va, I (n), I (w), vc] 84)] b) [rdE u186n2 ((nth q.Acts z).Add), rdE u186n1 ((nth q.Acts z).Bar), rdE u186n0 ((nth q.Acts z).Need), rowE 3 vR (tRise q n t y z : List Int), rowE 3 vF (tFall q n t y z : List Int), rowE 22 v8 (c8 : List (List Int)), blkE g (.cells #[I (q.Facts), vf, vg, va, I (n), I (w), v8] 84), rdE va q.Acts] H183 := hS188.rd (hu1862.sub fun _ hb => SL_rd (SL_rd (hb)))
      have hS190 : St H0 (own [rowE 22 vc (Cl : List (List Int)), blkE g (.cells #[I (q.Facts), vf, vg, va, I (n), I (w), vc] 84)]) (fun b => S b ∧ ¬ own [rowE 22 vc (Cl : List (List Int)), blkE g (.cells #[I (q.Facts), vf, vg, va, I (n), I (w), vc] 84)] b) [rdE u186n3 ((nth q.Acts z).Drop), rdE u186n2 ((nth q.Acts z).Add), rdE u186n1 ((nth q.Acts z).Bar), rdE u186n0 ((nth q.Acts z).Need), rowE 3 vR (tRise q n t y z : List Int), rowE 3 vF (tFall q n t y z : List Int), rowE 22 v8 (c8 : List (List Int)), blkE g (.cells #[I (q.Facts), vf, vg, va, I (n), I (w), v8] 84), rdE va q.Acts] H183 := hS189.rd (hu1863.sub fun _ hb => SL_rd (SL_rd (SL_rd (hb))))
      refine wpL_q (U := NoB) rfl (q_loadE rfl rfl (hlu186 Try.prog 37 _ el_Act_37_StepT1 (fun _ h => False.elim h))) ?_
      refine wpL_o rfl ?_
      refine e_alloc rfl Try.zeroValue37 hS190 (fun g191 H192 hS193 hxx => ?_)
      replace hS193 : St H0 (own [rowE 22 vc (Cl : List (List Int)), blkE g (.cells #[I (q.Facts), vf, vg, va, I (n), I (w), vc] 84)]) (fun b => S b ∧ ¬ own [rowE 22 vc (Cl : List (List Int)), blkE g (.cells #[I (q.Facts), vf, vg, va, I (n), I (w), vc] 84)] b) [blkE g191 (.cells #[(Value.slice none 0 0), (Value.slice none 0 0), (Value.slice none 0 0), (Value.slice none 0 0)] 37), rdE u186n3 ((nth q.Acts z).Drop), rdE u186n2 ((nth q.Acts z).Add), rdE u186n1 ((nth q.Acts z).Bar), rdE u186n0 ((nth q.Acts z).Need), rowE 3 vR (tRise q n t y z : List Int), rowE 3 vF (tFall q n t y z : List Int), rowE 22 v8 (c8 : List (List Int)), blkE g (.cells #[I (q.Facts), vf, vg, va, I (n), I (w), v8] 84), rdE va q.Acts] H192 := hS193
      refine wpL_q (U := NoB) rfl (q_assign (v := I ((z : Int))) rfl rfl) ?_
      refine wpL_o rfl ?_
      refine e_storeBlkA (cs' := #[u186n0, u186n1, u186n2, u186n3]) rfl rfl rfl Try.sizeOf37 rfl rfl (List.forall_mem_cons.2 ⟨(oneCell_rdL (hS193.rdl 4 rfl)), List.forall_mem_cons.2 ⟨(oneCell_rdL (hS193.rdl 3 rfl)), List.forall_mem_cons.2 ⟨(oneCell_rdL (hS193.rdl 2 rfl)), List.forall_mem_cons.2 ⟨(oneCell_rdL (hS193.rdl 1 rfl)), List.forall_mem_nil _⟩⟩⟩⟩) hS193 (fun H194 hS195 hxx => ?_)
      replace hS195 : St H0 (own [rowE 22 vc (Cl : List (List Int)), blkE g (.cells #[I (q.Facts), vf, vg, va, I (n), I (w), vc] 84)]) (fun b => S b ∧ ¬ own [rowE 22 vc (Cl : List (List Int)), blkE g (.cells #[I (q.Facts), vf, vg, va, I (n), I (w), vc] 84)] b) [blkE g191 (.cells #[u186n0, u186n1, u186n2, u186n3] 37), rdE u186n3 ((nth q.Acts z).Drop), rdE u186n2 ((nth q.Acts z).Add), rdE u186n1 ((nth q.Acts z).Bar), rdE u186n0 ((nth q.Acts z).Need), rowE 3 vR (tRise q n t y z : List Int), rowE 3 vF (tFall q n t y z : List Int), rowE 22 v8 (c8 : List (List Int)), blkE g (.cells #[I (q.Facts), vf, vg, va, I (n), I (w), v8] 84), rdE va q.Acts] H194 := hS195
      exact ⟨u186n0, u186n1, u186n2, u186n3, g191, a184_0, a184_1, a184_19, a184_20, a184_21, rfl, rfl, a184_161, a184_162, a184_191, a184_192, a184_193, hS195⟩
    rintro f196 H196 ⟨u186n0, u186n1, u186n2, u186n3, g191, a196_0, a196_1, a196_19, a196_20, a196_21, a196_22, a196_23, a196_161, a196_162, a196_191, a196_192, a196_193, hS196⟩
    clear a184_0 a184_1 a184_161 a184_162 a184_19 a184_191 a184_192 a184_193 a184_194 a184_20 a184_21
    refine wpF_seq ?_
    refine wpF_seq ?_
    refine wpF_cut (fun f H => f 0 = PT g 0 ∧ f 1 = I (t) ∧ f 19 = I ((y : Int)) ∧ f 20 = vR ∧ f 21 = vF ∧ f 22 = I ((z : Int)) ∧ f 23 = PT g191 0 ∧ f 161 = I (q.Facts) ∧ f 162 = I ((y : Int)) ∧ f 191 = va ∧ f 192 = I ((q.Acts.length : Int)) ∧ f 193 = I ((z : Int)) ∧ f 201 = B (hasB ((nth q.Acts z).Add) (y : Int)) ∧ St H0 (own [rowE 22 vc (Cl : List (List Int)), blkE g (.cells #[I (q.Facts), vf, vg, va, I (n), I (w), vc] 84)]) (fun b => S b ∧ ¬ own [rowE 22 vc (Cl : List (List Int)), blkE g (.cells #[I (q.Facts), vf, vg, va, I (n), I (w), vc] 84)] b) [blkE g191 (.cells #[u186n0, u186n1, u186n2, u186n3] 37), rdE u186n3 ((nth q.Acts z).Drop), rdE u186n2 ((nth q.Acts z).Add), rdE u186n1 ((nth q.Acts z).Bar), rdE u186n0 ((nth q.Acts z).Need), rowE 3 vR (tRise q n t y z : List Int), rowE 3 vF (tFall q n t y z : List Int), rowE 22 v8 (c8 : List (List Int)), blkE g (.cells #[I (q.Facts), vf, vg, va, I (n), I (w), v8] 84), rdE va q.Acts] H) ?_ ?_
    · refine wpF_region ?_
      refine wpL_q (U := NoB) rfl (q_fieldAddr rfl Try.underlying37 rfl Try.sizeOf22 a196_23) ?_
      refine wpL_q (U := NoB) rfl (q_loadBlk rfl rfl Try.isAgg22 (hS196.blk 0 rfl) rfl (fun h => h)) ?_
      refine wpL_q (U := NoB) rfl (q_move (v := I ((y : Int))) rfl a196_19) ?_
      refine wpL_o rfl ?_
      refine e_call rfl Try.call52 (arr2 (v0 := u186n2) (v1 := I ((y : Int))) rfl rfl) (Contains u186n2 ((nth q.Acts z).Add) (y : Int) (hS196.rdN 2 rfl) ) ?_
      rintro _ H197 ⟨hxx, rfl⟩
      have hS198 : St H0 (own [rowE 22 vc (Cl : List (List Int)), blkE g (.cells #[I (q.Facts), vf, vg, va, I (n), I (w), vc] 84)]) (fun b => S b ∧ ¬ own [rowE 22 vc (Cl : List (List Int)), blkE g (.cells #[I (q.Facts), vf, vg, va, I (n), I (w), vc] 84)] b) [blkE g191 (.cells #[u186n0, u186n1, u186n2, u186n3] 37), rdE u186n3 ((nth q.Acts z).Drop), rdE u186n2 ((nth q.Acts z).Add), rdE u186n1 ((nth q.Acts z).Bar), rdE u186n0 ((nth q.Acts z).Need), rowE 3 vR (tRise q n t y z : List Int), rowE 3 vF (tFall q n t y z : List Int), rowE 22 v8 (c8 : List (List Int)), blkE g (.cells #[I (q.Facts), vf, vg, va, I (n), I (w), v8] 84), rdE va q.Acts] H197 := hS196.ext hxx
      exact ⟨a196_0, a196_1, a196_19, a196_20, a196_21, a196_22, a196_23, a196_161, a196_162, a196_191, a196_192, a196_193, rfl, hS198⟩
    rintro f200 H200 ⟨a200_0, a200_1, a200_19, a200_20, a200_21, a200_22, a200_23, a200_161, a200_162, a200_191, a200_192, a200_193, a200_201, hS200⟩
    clear a196_0 a196_1 a196_161 a196_162 a196_19 a196_191 a196_192 a196_193 a196_20 a196_21 a196_22 a196_23
    refine wpF_cut (fun f H => ∃ (vN20 : Value), f 0 = PT g 0 ∧ f 1 = I (t) ∧ f 19 = I ((y : Int)) ∧ f 20 = vN20 ∧ f 21 = vF ∧ f 22 = I ((z : Int)) ∧ f 23 = PT g191 0 ∧ f 161 = I (q.Facts) ∧ f 162 = I ((y : Int)) ∧ f 191 = va ∧ f 192 = I ((q.Acts.length : Int)) ∧ f 193 = I ((z : Int)) ∧ St H0 (own [rowE 22 vc (Cl : List (List Int)), blkE g (.cells #[I (q.Facts), vf, vg, va, I (n), I (w), vc] 84)]) (fun b => S b ∧ ¬ own [rowE 22 vc (Cl : List (List Int)), blkE g (.cells #[I (q.Facts), vf, vg, va, I (n), I (w), vc] 84)] b) [rowE 3 vN20 (tRise q n t y (z + 1) : List Int), blkE g191 (.cells #[u186n0, u186n1, u186n2, u186n3] 37), rdE u186n3 ((nth q.Acts z).Drop), rdE u186n2 ((nth q.Acts z).Add), rdE u186n1 ((nth q.Acts z).Bar), rdE u186n0 ((nth q.Acts z).Need), rowE 3 vF (tFall q n t y z : List Int), rowE 22 v8 (c8 : List (List Int)), blkE g (.cells #[I (q.Facts), vf, vg, va, I (n), I (w), v8] 84), rdE va q.Acts] H) ?_ ?_
    · refine wpF_cond a200_201 (fun h201 => ?t216) (fun h201 => ?e216)
      case e216 =>
        refine wpF_skip ?_
        exact ⟨vR, a200_0, a200_1, a200_19, a200_20, a200_21, a200_22, a200_23, a200_161, a200_162, a200_191, a200_192, a200_193, (show St H0 (own [rowE 22 vc (Cl : List (List Int)), blkE g (.cells #[I (q.Facts), vf, vg, va, I (n), I (w), vc] 84)]) (fun b => S b ∧ ¬ own [rowE 22 vc (Cl : List (List Int)), blkE g (.cells #[I (q.Facts), vf, vg, va, I (n), I (w), vc] 84)] b) [rowE 3 vR (tRise q n t y (z + 1) : List Int), blkE g191 (.cells #[u186n0, u186n1, u186n2, u186n3] 37), rdE u186n3 ((nth q.Acts z).Drop), rdE u186n2 ((nth q.Acts z).Add), rdE u186n1 ((nth q.Acts z).Bar), rdE u186n0 ((nth q.Acts z).Need), rowE 3 vF (tFall q n t y z : List Int), rowE 22 v8 (c8 : List (List Int)), blkE g (.cells #[I (q.Facts), vf, vg, va, I (n), I (w), v8] 84), rdE va q.Acts] H200 from (by have h__ := (St.drop (show St H0 (own [rowE 22 vc (Cl : List (List Int)), blkE g (.cells #[I (q.Facts), vf, vg, va, I (n), I (w), vc] 84)]) (fun b => S b ∧ ¬ own [rowE 22 vc (Cl : List (List Int)), blkE g (.cells #[I (q.Facts), vf, vg, va, I (n), I (w), vc] 84)] b) [rowE 3 vR (tRise q n t y z : List Int), blkE g191 (.cells #[u186n0, u186n1, u186n2, u186n3] 37), rdE u186n3 ((nth q.Acts z).Drop), rdE u186n2 ((nth q.Acts z).Add), rdE u186n1 ((nth q.Acts z).Bar), rdE u186n0 ((nth q.Acts z).Need), rowE 3 vF (tFall q n t y z : List Int), rowE 22 v8 (c8 : List (List Int)), blkE g (.cells #[I (q.Facts), vf, vg, va, I (n), I (w), v8] 84), rdE va q.Acts] H200 from (hS200.front 5 rfl)) (sk (sk (sk (sk (sk (sk (sk (sk (sk (sk (List.Sublist.slnil)))))))))))); rw [← tRise_no (by simp [h201])] at h__; exact h__))⟩
      refine wpF_cut (fun f H => ∃ (v211 : Value), f 0 = PT g 0 ∧ f 1 = I (t) ∧ f 19 = I ((y : Int)) ∧ f 20 = v211 ∧ f 21 = vF ∧ f 22 = I ((z : Int)) ∧ f 23 = PT g191 0 ∧ f 161 = I (q.Facts) ∧ f 162 = I ((y : Int)) ∧ f 191 = va ∧ f 192 = I ((q.Acts.length : Int)) ∧ f 193 = I ((z : Int)) ∧ St H0 (own [rowE 22 vc (Cl : List (List Int)), blkE g (.cells #[I (q.Facts), vf, vg, va, I (n), I (w), vc] 84)]) (fun b => S b ∧ ¬ own [rowE 22 vc (Cl : List (List Int)), blkE g (.cells #[I (q.Facts), vf, vg, va, I (n), I (w), vc] 84)] b) [rowE 3 v211 (tRise q n t y (z + 1) : List Int), blkE g191 (.cells #[u186n0, u186n1, u186n2, u186n3] 37), rdE u186n3 ((nth q.Acts z).Drop), rdE u186n2 ((nth q.Acts z).Add), rdE u186n1 ((nth q.Acts z).Bar), rdE u186n0 ((nth q.Acts z).Need), rowE 3 vF (tFall q n t y z : List Int), rowE 22 v8 (c8 : List (List Int)), blkE g (.cells #[I (q.Facts), vf, vg, va, I (n), I (w), v8] 84), rdE va q.Acts] H) ?_ ?_
      · refine wpF_region ?_
        refine wpL_q (U := NoB) rfl (q_move (v := vR) rfl a200_20) ?_
        refine wpL_q (U := NoB) rfl (q_move (v := PT g 0) rfl a200_0) ?_
        refine wpL_q (U := NoB) rfl (q_move (v := I ((z : Int))) rfl a200_22) ?_
        refine wpL_q (U := NoB) rfl (q_move (v := I (t)) rfl a200_1) ?_
        refine wpL_o rfl ?_
        refine e_call rfl Try.call56 (arr3 (v0 := PT g 0) (v1 := I ((z : Int))) (v2 := I (t)) rfl rfl rfl) (act_E g vf vg va v8 q n w (z : Int) t (hS200.blk 8 rfl) (hS200.rdN 9 rfl) hQ hn (by omega) (by omega)) ?_
        rintro _ H203 ⟨hxx, rfl⟩
        have hS204 : St H0 (own [rowE 22 vc (Cl : List (List Int)), blkE g (.cells #[I (q.Facts), vf, vg, va, I (n), I (w), vc] 84)]) (fun b => S b ∧ ¬ own [rowE 22 vc (Cl : List (List Int)), blkE g (.cells #[I (q.Facts), vf, vg, va, I (n), I (w), vc] 84)] b) [blkE g191 (.cells #[u186n0, u186n1, u186n2, u186n3] 37), rdE u186n3 ((nth q.Acts z).Drop), rdE u186n2 ((nth q.Acts z).Add), rdE u186n1 ((nth q.Acts z).Bar), rdE u186n0 ((nth q.Acts z).Need), rowE 3 vR (tRise q n t y z : List Int), rowE 3 vF (tFall q n t y z : List Int), rowE 22 v8 (c8 : List (List Int)), blkE g (.cells #[I (q.Facts), vf, vg, va, I (n), I (w), v8] 84), rdE va q.Acts] H203 := hS200.ext hxx
        refine wpL_o rfl ?_
        refine e_buildSlice (vs := [I (actV q n (z : Int) t)]) (xs := ([actV q n (z : Int) t] : List Int)) rfl Try.underlying22 Try.zeroValue3 rfl Try.sizeOf3 (par1 (v0 := I (actV q n (z : Int) t)) rfl) rfl hS204 (RdVs.cons (Rd.int.2 ⟨rfl, by first | assumption | (constructor <;> omega)⟩) (RdVs.nil)) (by decide) (by decide) (fun v206 H207 hS208 hxx hvv206 => ?_)
        replace hS208 : St H0 (own [rowE 22 vc (Cl : List (List Int)), blkE g (.cells #[I (q.Facts), vf, vg, va, I (n), I (w), vc] 84)]) (fun b => S b ∧ ¬ own [rowE 22 vc (Cl : List (List Int)), blkE g (.cells #[I (q.Facts), vf, vg, va, I (n), I (w), vc] 84)] b) [rowE 3 v206 ([actV q n (z : Int) t] : List Int), blkE g191 (.cells #[u186n0, u186n1, u186n2, u186n3] 37), rdE u186n3 ((nth q.Acts z).Drop), rdE u186n2 ((nth q.Acts z).Add), rdE u186n1 ((nth q.Acts z).Bar), rdE u186n0 ((nth q.Acts z).Need), rowE 3 vR (tRise q n t y z : List Int), rowE 3 vF (tFall q n t y z : List Int), rowE 22 v8 (c8 : List (List Int)), blkE g (.cells #[I (q.Facts), vf, vg, va, I (n), I (w), v8] 84), rdE va q.Acts] H207 := hS208
        have hS209 : St H0 (own [rowE 22 vc (Cl : List (List Int)), blkE g (.cells #[I (q.Facts), vf, vg, va, I (n), I (w), vc] 84)]) (fun b => S b ∧ ¬ own [rowE 22 vc (Cl : List (List Int)), blkE g (.cells #[I (q.Facts), vf, vg, va, I (n), I (w), vc] 84)] b) [rdE v206 ([actV q n (z : Int) t] : List Int), blkE g191 (.cells #[u186n0, u186n1, u186n2, u186n3] 37), rdE u186n3 ((nth q.Acts z).Drop), rdE u186n2 ((nth q.Acts z).Add), rdE u186n1 ((nth q.Acts z).Bar), rdE u186n0 ((nth q.Acts z).Need), rowE 3 vR (tRise q n t y z : List Int), rowE 3 vF (tFall q n t y z : List Int), rowE 22 v8 (c8 : List (List Int)), blkE g (.cells #[I (q.Facts), vf, vg, va, I (n), I (w), v8] 84), rdE va q.Acts] H207 := St.fin hS208
        have hS210 : St H0 (own [rowE 22 vc (Cl : List (List Int)), blkE g (.cells #[I (q.Facts), vf, vg, va, I (n), I (w), vc] 84)]) (fun b => S b ∧ ¬ own [rowE 22 vc (Cl : List (List Int)), blkE g (.cells #[I (q.Facts), vf, vg, va, I (n), I (w), vc] 84)] b) [rowE 3 vR (tRise q n t y z : List Int), rdE v206 ([actV q n (z : Int) t] : List Int), blkE g191 (.cells #[u186n0, u186n1, u186n2, u186n3] 37), rdE u186n3 ((nth q.Acts z).Drop), rdE u186n2 ((nth q.Acts z).Add), rdE u186n1 ((nth q.Acts z).Bar), rdE u186n0 ((nth q.Acts z).Need), rowE 3 vF (tFall q n t y z : List Int), rowE 22 v8 (c8 : List (List Int)), blkE g (.cells #[I (q.Facts), vf, vg, va, I (n), I (w), v8] 84), rdE va q.Acts] H207 := (hS209.front 6 rfl)
        refine wpL_o rfl ?_
        refine e_append rfl Try.underlying22 em_Int_3_StepT1 rfl rfl hS210 (hS210.rdS 1 rfl) (fun _ h => h) (by have hb : GoT.bytes Int = 8 := rfl; simp [hb]; omega) (by decide) (fun v211 H212 hS213 hxx => ?_)
        replace hS213 : St H0 (own [rowE 22 vc (Cl : List (List Int)), blkE g (.cells #[I (q.Facts), vf, vg, va, I (n), I (w), vc] 84)]) (fun b => S b ∧ ¬ own [rowE 22 vc (Cl : List (List Int)), blkE g (.cells #[I (q.Facts), vf, vg, va, I (n), I (w), vc] 84)] b) [rowE 3 v211 ((tRise q n t y z) ++ ([actV q n (z : Int) t]) : List Int), rdE v206 ([actV q n (z : Int) t] : List Int), blkE g191 (.cells #[u186n0, u186n1, u186n2, u186n3] 37), rdE u186n3 ((nth q.Acts z).Drop), rdE u186n2 ((nth q.Acts z).Add), rdE u186n1 ((nth q.Acts z).Bar), rdE u186n0 ((nth q.Acts z).Need), rowE 3 vF (tFall q n t y z : List Int), rowE 22 v8 (c8 : List (List Int)), blkE g (.cells #[I (q.Facts), vf, vg, va, I (n), I (w), v8] 84), rdE va q.Acts] H212 := hS213
        have hS214 : St H0 (own [rowE 22 vc (Cl : List (List Int)), blkE g (.cells #[I (q.Facts), vf, vg, va, I (n), I (w), vc] 84)]) (fun b => S b ∧ ¬ own [rowE 22 vc (Cl : List (List Int)), blkE g (.cells #[I (q.Facts), vf, vg, va, I (n), I (w), vc] 84)] b) [rowE 3 v211 (tRise q n t y (z + 1) : List Int), rdE v206 ([actV q n (z : Int) t] : List Int), blkE g191 (.cells #[u186n0, u186n1, u186n2, u186n3] 37), rdE u186n3 ((nth q.Acts z).Drop), rdE u186n2 ((nth q.Acts z).Add), rdE u186n1 ((nth q.Acts z).Bar), rdE u186n0 ((nth q.Acts z).Need), rowE 3 vF (tFall q n t y z : List Int), rowE 22 v8 (c8 : List (List Int)), blkE g (.cells #[I (q.Facts), vf, vg, va, I (n), I (w), v8] 84), rdE va q.Acts] H212 := by rw [show (tRise q n t y (z + 1)) = ((tRise q n t y z) ++ ([actV q n (z : Int) t])) from (tRise_yes h201)]; exact hS213
        refine wpL_q (U := NoB) rfl (q_assign (v := v211) rfl rfl) ?_
        exact ⟨v211, a200_0, a200_1, a200_19, rfl, a200_21, a200_22, a200_23, a200_161, a200_162, a200_191, a200_192, a200_193, (hS214.drop (sk (sn (sk (sk (sk (sk (sk (sk (sk (sk (sk (List.Sublist.slnil)))))))))))))⟩
      rintro f215 H215 ⟨v211, a215_0, a215_1, a215_19, a215_20, a215_21, a215_22, a215_23, a215_161, a215_162, a215_191, a215_192, a215_193, hS215⟩
      clear a200_0 a200_1 a200_161 a200_162 a200_19 a200_191 a200_192 a200_193 a200_20 a200_201 a200_21 a200_22 a200_23
      exact ⟨v211, a215_0, a215_1, a215_19, a215_20, a215_21, a215_22, a215_23, a215_161, a215_162, a215_191, a215_192, a215_193, hS215⟩
    rintro f201 H201 ⟨vN20, a201_0, a201_1, a201_19, a201_20, a201_21, a201_22, a201_23, a201_161, a201_162, a201_191, a201_192, a201_193, hS201⟩
    clear a200_0 a200_1 a200_161 a200_162 a200_19 a200_191 a200_192 a200_193 a200_20 a200_201 a200_21 a200_22 a200_23
    refine wpF_seq ?_
    refine wpF_cut (fun f H => f 0 = PT g 0 ∧ f 1 = I (t) ∧ f 19 = I ((y : Int)) ∧ f 20 = vN20 ∧ f 21 = vF ∧ f 22 = I ((z : Int)) ∧ f 161 = I (q.Facts) ∧ f 162 = I ((y : Int)) ∧ f 191 = va ∧ f 192 = I ((q.Acts.length : Int)) ∧ f 193 = I ((z : Int)) ∧ f 212 = B (hasB ((nth q.Acts z).Drop) (y : Int)) ∧ St H0 (own [rowE 22 vc (Cl : List (List Int)), blkE g (.cells #[I (q.Facts), vf, vg, va, I (n), I (w), vc] 84)]) (fun b => S b ∧ ¬ own [rowE 22 vc (Cl : List (List Int)), blkE g (.cells #[I (q.Facts), vf, vg, va, I (n), I (w), vc] 84)] b) [rowE 3 vN20 (tRise q n t y (z + 1) : List Int), blkE g191 (.cells #[u186n0, u186n1, u186n2, u186n3] 37), rdE u186n3 ((nth q.Acts z).Drop), rdE u186n2 ((nth q.Acts z).Add), rdE u186n1 ((nth q.Acts z).Bar), rdE u186n0 ((nth q.Acts z).Need), rowE 3 vF (tFall q n t y z : List Int), rowE 22 v8 (c8 : List (List Int)), blkE g (.cells #[I (q.Facts), vf, vg, va, I (n), I (w), v8] 84), rdE va q.Acts] H) ?_ ?_
    · refine wpF_region ?_
      refine wpL_q (U := NoB) rfl (q_fieldAddr rfl Try.underlying37 rfl Try.sizeOf22 a201_23) ?_
      refine wpL_q (U := NoB) rfl (q_loadBlk rfl rfl Try.isAgg22 (hS201.blk 1 rfl) rfl (fun h => h)) ?_
      refine wpL_q (U := NoB) rfl (q_move (v := I ((y : Int))) rfl a201_19) ?_
      refine wpL_o rfl ?_
      refine e_call rfl Try.call52 (arr2 (v0 := u186n3) (v1 := I ((y : Int))) rfl rfl) (Contains u186n3 ((nth q.Acts z).Drop) (y : Int) (hS201.rdN 2 rfl) ) ?_
      rintro _ H217 ⟨hxx, rfl⟩
      have hS218 : St H0 (own [rowE 22 vc (Cl : List (List Int)), blkE g (.cells #[I (q.Facts), vf, vg, va, I (n), I (w), vc] 84)]) (fun b => S b ∧ ¬ own [rowE 22 vc (Cl : List (List Int)), blkE g (.cells #[I (q.Facts), vf, vg, va, I (n), I (w), vc] 84)] b) [rowE 3 vN20 (tRise q n t y (z + 1) : List Int), blkE g191 (.cells #[u186n0, u186n1, u186n2, u186n3] 37), rdE u186n3 ((nth q.Acts z).Drop), rdE u186n2 ((nth q.Acts z).Add), rdE u186n1 ((nth q.Acts z).Bar), rdE u186n0 ((nth q.Acts z).Need), rowE 3 vF (tFall q n t y z : List Int), rowE 22 v8 (c8 : List (List Int)), blkE g (.cells #[I (q.Facts), vf, vg, va, I (n), I (w), v8] 84), rdE va q.Acts] H217 := hS201.ext hxx
      exact ⟨a201_0, a201_1, a201_19, a201_20, a201_21, a201_22, a201_161, a201_162, a201_191, a201_192, a201_193, rfl, hS218⟩
    rintro f220 H220 ⟨a220_0, a220_1, a220_19, a220_20, a220_21, a220_22, a220_161, a220_162, a220_191, a220_192, a220_193, a220_212, hS220⟩
    clear a201_0 a201_1 a201_161 a201_162 a201_19 a201_191 a201_192 a201_193 a201_20 a201_21 a201_22 a201_23
    refine wpF_cut (fun f H => ∃ (vN21 : Value), f 0 = PT g 0 ∧ f 1 = I (t) ∧ f 19 = I ((y : Int)) ∧ f 20 = vN20 ∧ f 21 = vN21 ∧ f 161 = I (q.Facts) ∧ f 162 = I ((y : Int)) ∧ f 191 = va ∧ f 192 = I ((q.Acts.length : Int)) ∧ f 193 = I ((z : Int)) ∧ St H0 (own [rowE 22 vc (Cl : List (List Int)), blkE g (.cells #[I (q.Facts), vf, vg, va, I (n), I (w), vc] 84)]) (fun b => S b ∧ ¬ own [rowE 22 vc (Cl : List (List Int)), blkE g (.cells #[I (q.Facts), vf, vg, va, I (n), I (w), vc] 84)] b) [rowE 3 vN21 (tFall q n t y (z + 1) : List Int), rowE 3 vN20 (tRise q n t y (z + 1) : List Int), blkE g191 (.cells #[u186n0, u186n1, u186n2, u186n3] 37), rdE u186n3 ((nth q.Acts z).Drop), rdE u186n2 ((nth q.Acts z).Add), rdE u186n1 ((nth q.Acts z).Bar), rdE u186n0 ((nth q.Acts z).Need), rowE 22 v8 (c8 : List (List Int)), blkE g (.cells #[I (q.Facts), vf, vg, va, I (n), I (w), v8] 84), rdE va q.Acts] H) ?_ ?_
    · refine wpF_cond a220_212 (fun h212 => ?t236) (fun h212 => ?e236)
      case e236 =>
        refine wpF_skip ?_
        exact ⟨vF, a220_0, a220_1, a220_19, a220_20, a220_21, a220_161, a220_162, a220_191, a220_192, a220_193, (show St H0 (own [rowE 22 vc (Cl : List (List Int)), blkE g (.cells #[I (q.Facts), vf, vg, va, I (n), I (w), vc] 84)]) (fun b => S b ∧ ¬ own [rowE 22 vc (Cl : List (List Int)), blkE g (.cells #[I (q.Facts), vf, vg, va, I (n), I (w), vc] 84)] b) [rowE 3 vF (tFall q n t y (z + 1) : List Int), rowE 3 vN20 (tRise q n t y (z + 1) : List Int), blkE g191 (.cells #[u186n0, u186n1, u186n2, u186n3] 37), rdE u186n3 ((nth q.Acts z).Drop), rdE u186n2 ((nth q.Acts z).Add), rdE u186n1 ((nth q.Acts z).Bar), rdE u186n0 ((nth q.Acts z).Need), rowE 22 v8 (c8 : List (List Int)), blkE g (.cells #[I (q.Facts), vf, vg, va, I (n), I (w), v8] 84), rdE va q.Acts] H220 from (by have h__ := (St.drop (show St H0 (own [rowE 22 vc (Cl : List (List Int)), blkE g (.cells #[I (q.Facts), vf, vg, va, I (n), I (w), vc] 84)]) (fun b => S b ∧ ¬ own [rowE 22 vc (Cl : List (List Int)), blkE g (.cells #[I (q.Facts), vf, vg, va, I (n), I (w), vc] 84)] b) [rowE 3 vF (tFall q n t y z : List Int), rowE 3 vN20 (tRise q n t y (z + 1) : List Int), blkE g191 (.cells #[u186n0, u186n1, u186n2, u186n3] 37), rdE u186n3 ((nth q.Acts z).Drop), rdE u186n2 ((nth q.Acts z).Add), rdE u186n1 ((nth q.Acts z).Bar), rdE u186n0 ((nth q.Acts z).Need), rowE 22 v8 (c8 : List (List Int)), blkE g (.cells #[I (q.Facts), vf, vg, va, I (n), I (w), v8] 84), rdE va q.Acts] H220 from (hS220.front 6 rfl)) (sk (sk (sk (sk (sk (sk (sk (sk (sk (sk (List.Sublist.slnil)))))))))))); rw [← tFall_no (by simp [h212])] at h__; exact h__))⟩
      refine wpF_cut (fun f H => ∃ (v231 : Value), f 0 = PT g 0 ∧ f 1 = I (t) ∧ f 19 = I ((y : Int)) ∧ f 20 = vN20 ∧ f 21 = v231 ∧ f 161 = I (q.Facts) ∧ f 162 = I ((y : Int)) ∧ f 191 = va ∧ f 192 = I ((q.Acts.length : Int)) ∧ f 193 = I ((z : Int)) ∧ St H0 (own [rowE 22 vc (Cl : List (List Int)), blkE g (.cells #[I (q.Facts), vf, vg, va, I (n), I (w), vc] 84)]) (fun b => S b ∧ ¬ own [rowE 22 vc (Cl : List (List Int)), blkE g (.cells #[I (q.Facts), vf, vg, va, I (n), I (w), vc] 84)] b) [rowE 3 v231 (tFall q n t y (z + 1) : List Int), rowE 3 vN20 (tRise q n t y (z + 1) : List Int), blkE g191 (.cells #[u186n0, u186n1, u186n2, u186n3] 37), rdE u186n3 ((nth q.Acts z).Drop), rdE u186n2 ((nth q.Acts z).Add), rdE u186n1 ((nth q.Acts z).Bar), rdE u186n0 ((nth q.Acts z).Need), rowE 22 v8 (c8 : List (List Int)), blkE g (.cells #[I (q.Facts), vf, vg, va, I (n), I (w), v8] 84), rdE va q.Acts] H) ?_ ?_
      · refine wpF_region ?_
        refine wpL_q (U := NoB) rfl (q_move (v := vF) rfl a220_21) ?_
        refine wpL_q (U := NoB) rfl (q_move (v := PT g 0) rfl a220_0) ?_
        refine wpL_q (U := NoB) rfl (q_move (v := I ((z : Int))) rfl a220_22) ?_
        refine wpL_q (U := NoB) rfl (q_move (v := I (t)) rfl a220_1) ?_
        refine wpL_o rfl ?_
        refine e_call rfl Try.call56 (arr3 (v0 := PT g 0) (v1 := I ((z : Int))) (v2 := I (t)) rfl rfl rfl) (act_E g vf vg va v8 q n w (z : Int) t (hS220.blk 8 rfl) (hS220.rdN 9 rfl) hQ hn (by omega) (by omega)) ?_
        rintro _ H223 ⟨hxx, rfl⟩
        have hS224 : St H0 (own [rowE 22 vc (Cl : List (List Int)), blkE g (.cells #[I (q.Facts), vf, vg, va, I (n), I (w), vc] 84)]) (fun b => S b ∧ ¬ own [rowE 22 vc (Cl : List (List Int)), blkE g (.cells #[I (q.Facts), vf, vg, va, I (n), I (w), vc] 84)] b) [rowE 3 vN20 (tRise q n t y (z + 1) : List Int), blkE g191 (.cells #[u186n0, u186n1, u186n2, u186n3] 37), rdE u186n3 ((nth q.Acts z).Drop), rdE u186n2 ((nth q.Acts z).Add), rdE u186n1 ((nth q.Acts z).Bar), rdE u186n0 ((nth q.Acts z).Need), rowE 3 vF (tFall q n t y z : List Int), rowE 22 v8 (c8 : List (List Int)), blkE g (.cells #[I (q.Facts), vf, vg, va, I (n), I (w), v8] 84), rdE va q.Acts] H223 := hS220.ext hxx
        refine wpL_o rfl ?_
        refine e_buildSlice (vs := [I (actV q n (z : Int) t)]) (xs := ([actV q n (z : Int) t] : List Int)) rfl Try.underlying22 Try.zeroValue3 rfl Try.sizeOf3 (par1 (v0 := I (actV q n (z : Int) t)) rfl) rfl hS224 (RdVs.cons (Rd.int.2 ⟨rfl, by first | assumption | (constructor <;> omega)⟩) (RdVs.nil)) (by decide) (by decide) (fun v226 H227 hS228 hxx hvv226 => ?_)
        replace hS228 : St H0 (own [rowE 22 vc (Cl : List (List Int)), blkE g (.cells #[I (q.Facts), vf, vg, va, I (n), I (w), vc] 84)]) (fun b => S b ∧ ¬ own [rowE 22 vc (Cl : List (List Int)), blkE g (.cells #[I (q.Facts), vf, vg, va, I (n), I (w), vc] 84)] b) [rowE 3 v226 ([actV q n (z : Int) t] : List Int), rowE 3 vN20 (tRise q n t y (z + 1) : List Int), blkE g191 (.cells #[u186n0, u186n1, u186n2, u186n3] 37), rdE u186n3 ((nth q.Acts z).Drop), rdE u186n2 ((nth q.Acts z).Add), rdE u186n1 ((nth q.Acts z).Bar), rdE u186n0 ((nth q.Acts z).Need), rowE 3 vF (tFall q n t y z : List Int), rowE 22 v8 (c8 : List (List Int)), blkE g (.cells #[I (q.Facts), vf, vg, va, I (n), I (w), v8] 84), rdE va q.Acts] H227 := hS228
        have hS229 : St H0 (own [rowE 22 vc (Cl : List (List Int)), blkE g (.cells #[I (q.Facts), vf, vg, va, I (n), I (w), vc] 84)]) (fun b => S b ∧ ¬ own [rowE 22 vc (Cl : List (List Int)), blkE g (.cells #[I (q.Facts), vf, vg, va, I (n), I (w), vc] 84)] b) [rdE v226 ([actV q n (z : Int) t] : List Int), rowE 3 vN20 (tRise q n t y (z + 1) : List Int), blkE g191 (.cells #[u186n0, u186n1, u186n2, u186n3] 37), rdE u186n3 ((nth q.Acts z).Drop), rdE u186n2 ((nth q.Acts z).Add), rdE u186n1 ((nth q.Acts z).Bar), rdE u186n0 ((nth q.Acts z).Need), rowE 3 vF (tFall q n t y z : List Int), rowE 22 v8 (c8 : List (List Int)), blkE g (.cells #[I (q.Facts), vf, vg, va, I (n), I (w), v8] 84), rdE va q.Acts] H227 := St.fin hS228
        have hS230 : St H0 (own [rowE 22 vc (Cl : List (List Int)), blkE g (.cells #[I (q.Facts), vf, vg, va, I (n), I (w), vc] 84)]) (fun b => S b ∧ ¬ own [rowE 22 vc (Cl : List (List Int)), blkE g (.cells #[I (q.Facts), vf, vg, va, I (n), I (w), vc] 84)] b) [rowE 3 vF (tFall q n t y z : List Int), rdE v226 ([actV q n (z : Int) t] : List Int), rowE 3 vN20 (tRise q n t y (z + 1) : List Int), blkE g191 (.cells #[u186n0, u186n1, u186n2, u186n3] 37), rdE u186n3 ((nth q.Acts z).Drop), rdE u186n2 ((nth q.Acts z).Add), rdE u186n1 ((nth q.Acts z).Bar), rdE u186n0 ((nth q.Acts z).Need), rowE 22 v8 (c8 : List (List Int)), blkE g (.cells #[I (q.Facts), vf, vg, va, I (n), I (w), v8] 84), rdE va q.Acts] H227 := (hS229.front 7 rfl)
        refine wpL_o rfl ?_
        refine e_append rfl Try.underlying22 em_Int_3_StepT1 rfl rfl hS230 (hS230.rdS 1 rfl) (fun _ h => h) (by have hb : GoT.bytes Int = 8 := rfl; simp [hb]; omega) (by decide) (fun v231 H232 hS233 hxx => ?_)
        replace hS233 : St H0 (own [rowE 22 vc (Cl : List (List Int)), blkE g (.cells #[I (q.Facts), vf, vg, va, I (n), I (w), vc] 84)]) (fun b => S b ∧ ¬ own [rowE 22 vc (Cl : List (List Int)), blkE g (.cells #[I (q.Facts), vf, vg, va, I (n), I (w), vc] 84)] b) [rowE 3 v231 ((tFall q n t y z) ++ ([actV q n (z : Int) t]) : List Int), rdE v226 ([actV q n (z : Int) t] : List Int), rowE 3 vN20 (tRise q n t y (z + 1) : List Int), blkE g191 (.cells #[u186n0, u186n1, u186n2, u186n3] 37), rdE u186n3 ((nth q.Acts z).Drop), rdE u186n2 ((nth q.Acts z).Add), rdE u186n1 ((nth q.Acts z).Bar), rdE u186n0 ((nth q.Acts z).Need), rowE 22 v8 (c8 : List (List Int)), blkE g (.cells #[I (q.Facts), vf, vg, va, I (n), I (w), v8] 84), rdE va q.Acts] H232 := hS233
        have hS234 : St H0 (own [rowE 22 vc (Cl : List (List Int)), blkE g (.cells #[I (q.Facts), vf, vg, va, I (n), I (w), vc] 84)]) (fun b => S b ∧ ¬ own [rowE 22 vc (Cl : List (List Int)), blkE g (.cells #[I (q.Facts), vf, vg, va, I (n), I (w), vc] 84)] b) [rowE 3 v231 (tFall q n t y (z + 1) : List Int), rdE v226 ([actV q n (z : Int) t] : List Int), rowE 3 vN20 (tRise q n t y (z + 1) : List Int), blkE g191 (.cells #[u186n0, u186n1, u186n2, u186n3] 37), rdE u186n3 ((nth q.Acts z).Drop), rdE u186n2 ((nth q.Acts z).Add), rdE u186n1 ((nth q.Acts z).Bar), rdE u186n0 ((nth q.Acts z).Need), rowE 22 v8 (c8 : List (List Int)), blkE g (.cells #[I (q.Facts), vf, vg, va, I (n), I (w), v8] 84), rdE va q.Acts] H232 := by rw [show (tFall q n t y (z + 1)) = ((tFall q n t y z) ++ ([actV q n (z : Int) t])) from (tFall_yes h212)]; exact hS233
        refine wpL_q (U := NoB) rfl (q_assign (v := v231) rfl rfl) ?_
        exact ⟨v231, a220_0, a220_1, a220_19, a220_20, rfl, a220_161, a220_162, a220_191, a220_192, a220_193, (hS234.drop (sk (sn (sk (sk (sk (sk (sk (sk (sk (sk (sk (List.Sublist.slnil)))))))))))))⟩
      rintro f235 H235 ⟨v231, a235_0, a235_1, a235_19, a235_20, a235_21, a235_161, a235_162, a235_191, a235_192, a235_193, hS235⟩
      clear a220_0 a220_1 a220_161 a220_162 a220_19 a220_191 a220_192 a220_193 a220_20 a220_21 a220_212 a220_22
      exact ⟨v231, a235_0, a235_1, a235_19, a235_20, a235_21, a235_161, a235_162, a235_191, a235_192, a235_193, hS235⟩
    rintro f221 H221 ⟨vN21, a221_0, a221_1, a221_19, a221_20, a221_21, a221_161, a221_162, a221_191, a221_192, a221_193, hS221⟩
    clear a220_0 a220_1 a220_161 a220_162 a220_19 a220_191 a220_192 a220_193 a220_20 a220_21 a220_212 a220_22
    refine wpF_cut (fun f H => f 0 = PT g 0 ∧ f 1 = I (t) ∧ f 19 = I ((y : Int)) ∧ f 20 = vN20 ∧ f 21 = vN21 ∧ f 161 = I (q.Facts) ∧ f 162 = I ((y : Int)) ∧ f 191 = va ∧ f 192 = I ((q.Acts.length : Int)) ∧ f 193 = I ((z : Int) + 1) ∧ H221 = H) ?_ ?_
    · refine wpF_region ?_
      refine wpL_q (U := NoB) rfl (q_add rfl a221_193 rfl (by constructor <;> omega)) ?_
      refine wpL_q (U := NoB) rfl (q_move (v := I ((z : Int) + 1)) rfl rfl) ?_
      exact ⟨a221_0, a221_1, a221_19, a221_20, a221_21, a221_161, a221_162, a221_191, a221_192, rfl, rfl⟩
    rintro f237 _ ⟨a237_0, a237_1, a237_19, a237_20, a237_21, a237_161, a237_162, a237_191, a237_192, a237_193, rfl⟩
    clear a221_0 a221_1 a221_161 a221_162 a221_19 a221_191 a221_192 a221_193 a221_20 a221_21
    refine ⟨_, ?_, z + 1, vN20, vN21, rfl, (by omega), a237_0, a237_1, a237_19, a237_20, a237_21, a237_161, a237_162, a237_191, a237_192, (Eq.trans a237_193 (congrArg I (by omega))), (St.drop (show St H0 (own [rowE 22 vc (Cl : List (List Int)), blkE g (.cells #[I (q.Facts), vf, vg, va, I (n), I (w), vc] 84)]) (fun b => S b ∧ ¬ own [rowE 22 vc (Cl : List (List Int)), blkE g (.cells #[I (q.Facts), vf, vg, va, I (n), I (w), vc] 84)] b) [rowE 3 vN20 (tRise q n t y (z + 1) : List Int), rowE 3 vN21 (tFall q n t y (z + 1) : List Int), blkE g191 (.cells #[u186n0, u186n1, u186n2, u186n3] 37), rdE u186n3 ((nth q.Acts z).Drop), rdE u186n2 ((nth q.Acts z).Add), rdE u186n1 ((nth q.Acts z).Bar), rdE u186n0 ((nth q.Acts z).Need), rowE 22 v8 (c8 : List (List Int)), blkE g (.cells #[I (q.Facts), vf, vg, va, I (n), I (w), v8] 84), rdE va q.Acts] H221 from (hS221.front 1 rfl)) (sk (sk (sn (sn (sn (sn (sn (sk (sk (sk (List.Sublist.slnil))))))))))))⟩
    omega
  have har := act_rng hQ (a := (x : Int)) hn (by omega) (show 0 ≤ t ∧ t ≤ 21 by omega)
  have hfm := hQ.form x (by omega)
  have hF0 : 0 ≤ q.Facts := by omega
  have hn1 := hfm.1.1.1.len hF0
  have hn2 := hfm.1.1.2.len hF0
  have hn3 := hfm.1.2.len hF0
  have hn4 := hfm.2.len hF0
  refine wpF_skip ?_
  refine wpF_seq ?_
  refine wpF_block ?_
  refine wpF_seq ?_
  refine wpF_cut (fun f H => ∃ (u62n0 : Value), ∃ (u62n1 : Value), ∃ (u62n2 : Value), ∃ (u62n3 : Value), ∃ (g67 : Nat), f 0 = PT g 0 ∧ f 1 = I (t) ∧ f 8 = I ((x : Int)) ∧ f 9 = PT g67 0 ∧ f 76 = va ∧ f 77 = I ((q.Acts.length : Int)) ∧ f 78 = I ((x : Int)) ∧ St H0 (own [rowE 22 vc (Cl : List (List Int)), blkE g (.cells #[I (q.Facts), vf, vg, va, I (n), I (w), vc] 84)]) (fun b => S b ∧ ¬ own [rowE 22 vc (Cl : List (List Int)), blkE g (.cells #[I (q.Facts), vf, vg, va, I (n), I (w), vc] 84)] b) [blkE g67 (.cells #[u62n0, u62n1, u62n2, u62n3] 37), rdE u62n3 ((nth q.Acts x).Drop), rdE u62n2 ((nth q.Acts x).Add), rdE u62n1 ((nth q.Acts x).Bar), rdE u62n0 ((nth q.Acts x).Need), rowE 22 v3 (c3 : List (List Int)), blkE g (.cells #[I (q.Facts), vf, vg, va, I (n), I (w), v3] 84), rdE va q.Acts] H) ?_ ?_
  · refine wpF_region ?_
    refine wpL_q (U := NoB) rfl (q_move (v := I ((x : Int))) rfl a60_78) ?_
    refine wpL_q (U := NoB) rfl (q_indexRd (k := x) rfl Try.underlying23 el_Act_37_StepT1 a60_76 a60_78 (hS59.rdl 2 rfl) (by omega) (by omega)) ?_
    obtain ⟨u62, huu62, hlu62⟩ := (Rd.list.1 (hS59.rdS 2 rfl)).elem x (by omega)
    obtain ⟨u62n0, u62n1, u62n2, u62n3, rfl, hu620, hu621, hu622, hu623⟩ := Rd.act.1 huu62
    have hS63 : St H0 (own [rowE 22 vc (Cl : List (List Int)), blkE g (.cells #[I (q.Facts), vf, vg, va, I (n), I (w), vc] 84)]) (fun b => S b ∧ ¬ own [rowE 22 vc (Cl : List (List Int)), blkE g (.cells #[I (q.Facts), vf, vg, va, I (n), I (w), vc] 84)] b) [rdE u62n0 ((nth q.Acts x).Need), rowE 22 v3 (c3 : List (List Int)), blkE g (.cells #[I (q.Facts), vf, vg, va, I (n), I (w), v3] 84), rdE va q.Acts] H59 := hS59.rd hu620
    have hS64 : St H0 (own [rowE 22 vc (Cl : List (List Int)), blkE g (.cells #[I (q.Facts), vf, vg, va, I (n), I (w), vc] 84)]) (fun b => S b ∧ ¬ own [rowE 22 vc (Cl : List (List Int)), blkE g (.cells #[I (q.Facts), vf, vg, va, I (n), I (w), vc] 84)] b) [rdE u62n1 ((nth q.Acts x).Bar), rdE u62n0 ((nth q.Acts x).Need), rowE 22 v3 (c3 : List (List Int)), blkE g (.cells #[I (q.Facts), vf, vg, va, I (n), I (w), v3] 84), rdE va q.Acts] H59 := hS63.rd (hu621.sub fun _ hb => SL_rd hb)
    have hS65 : St H0 (own [rowE 22 vc (Cl : List (List Int)), blkE g (.cells #[I (q.Facts), vf, vg, va, I (n), I (w), vc] 84)]) (fun b => S b ∧ ¬ own [rowE 22 vc (Cl : List (List Int)), blkE g (.cells #[I (q.Facts), vf, vg, va, I (n), I (w), vc] 84)] b) [rdE u62n2 ((nth q.Acts x).Add), rdE u62n1 ((nth q.Acts x).Bar), rdE u62n0 ((nth q.Acts x).Need), rowE 22 v3 (c3 : List (List Int)), blkE g (.cells #[I (q.Facts), vf, vg, va, I (n), I (w), v3] 84), rdE va q.Acts] H59 := hS64.rd (hu622.sub fun _ hb => SL_rd (SL_rd (hb)))
    have hS66 : St H0 (own [rowE 22 vc (Cl : List (List Int)), blkE g (.cells #[I (q.Facts), vf, vg, va, I (n), I (w), vc] 84)]) (fun b => S b ∧ ¬ own [rowE 22 vc (Cl : List (List Int)), blkE g (.cells #[I (q.Facts), vf, vg, va, I (n), I (w), vc] 84)] b) [rdE u62n3 ((nth q.Acts x).Drop), rdE u62n2 ((nth q.Acts x).Add), rdE u62n1 ((nth q.Acts x).Bar), rdE u62n0 ((nth q.Acts x).Need), rowE 22 v3 (c3 : List (List Int)), blkE g (.cells #[I (q.Facts), vf, vg, va, I (n), I (w), v3] 84), rdE va q.Acts] H59 := hS65.rd (hu623.sub fun _ hb => SL_rd (SL_rd (SL_rd (hb))))
    refine wpL_q (U := NoB) rfl (q_loadE rfl rfl (hlu62 Try.prog 37 _ el_Act_37_StepT1 (fun _ h => False.elim h))) ?_
    refine wpL_o rfl ?_
    refine e_alloc rfl Try.zeroValue37 hS66 (fun g67 H68 hS69 hxx => ?_)
    replace hS69 : St H0 (own [rowE 22 vc (Cl : List (List Int)), blkE g (.cells #[I (q.Facts), vf, vg, va, I (n), I (w), vc] 84)]) (fun b => S b ∧ ¬ own [rowE 22 vc (Cl : List (List Int)), blkE g (.cells #[I (q.Facts), vf, vg, va, I (n), I (w), vc] 84)] b) [blkE g67 (.cells #[(Value.slice none 0 0), (Value.slice none 0 0), (Value.slice none 0 0), (Value.slice none 0 0)] 37), rdE u62n3 ((nth q.Acts x).Drop), rdE u62n2 ((nth q.Acts x).Add), rdE u62n1 ((nth q.Acts x).Bar), rdE u62n0 ((nth q.Acts x).Need), rowE 22 v3 (c3 : List (List Int)), blkE g (.cells #[I (q.Facts), vf, vg, va, I (n), I (w), v3] 84), rdE va q.Acts] H68 := hS69
    refine wpL_q (U := NoB) rfl (q_assign (v := I ((x : Int))) rfl rfl) ?_
    refine wpL_o rfl ?_
    refine e_storeBlkA (cs' := #[u62n0, u62n1, u62n2, u62n3]) rfl rfl rfl Try.sizeOf37 rfl rfl (List.forall_mem_cons.2 ⟨(oneCell_rdL (hS69.rdl 4 rfl)), List.forall_mem_cons.2 ⟨(oneCell_rdL (hS69.rdl 3 rfl)), List.forall_mem_cons.2 ⟨(oneCell_rdL (hS69.rdl 2 rfl)), List.forall_mem_cons.2 ⟨(oneCell_rdL (hS69.rdl 1 rfl)), List.forall_mem_nil _⟩⟩⟩⟩) hS69 (fun H70 hS71 hxx => ?_)
    replace hS71 : St H0 (own [rowE 22 vc (Cl : List (List Int)), blkE g (.cells #[I (q.Facts), vf, vg, va, I (n), I (w), vc] 84)]) (fun b => S b ∧ ¬ own [rowE 22 vc (Cl : List (List Int)), blkE g (.cells #[I (q.Facts), vf, vg, va, I (n), I (w), vc] 84)] b) [blkE g67 (.cells #[u62n0, u62n1, u62n2, u62n3] 37), rdE u62n3 ((nth q.Acts x).Drop), rdE u62n2 ((nth q.Acts x).Add), rdE u62n1 ((nth q.Acts x).Bar), rdE u62n0 ((nth q.Acts x).Need), rowE 22 v3 (c3 : List (List Int)), blkE g (.cells #[I (q.Facts), vf, vg, va, I (n), I (w), v3] 84), rdE va q.Acts] H70 := hS71
    exact ⟨u62n0, u62n1, u62n2, u62n3, g67, a60_0, a60_1, rfl, rfl, a60_76, a60_77, a60_78, hS71⟩
  rintro f72 H72 ⟨u62n0, u62n1, u62n2, u62n3, g67, a72_0, a72_1, a72_8, a72_9, a72_76, a72_77, a72_78, hS72⟩
  clear a60_0 a60_1 a60_76 a60_77 a60_78 a60_79
  refine wpF_seq ?_
  refine wpF_cut (fun f H => f 0 = PT g 0 ∧ f 1 = I (t) ∧ f 9 = PT g67 0 ∧ f 10 = I (-(actV q n (x : Int) t)) ∧ f 76 = va ∧ f 77 = I ((q.Acts.length : Int)) ∧ f 78 = I ((x : Int)) ∧ St H0 (own [rowE 22 vc (Cl : List (List Int)), blkE g (.cells #[I (q.Facts), vf, vg, va, I (n), I (w), vc] 84)]) (fun b => S b ∧ ¬ own [rowE 22 vc (Cl : List (List Int)), blkE g (.cells #[I (q.Facts), vf, vg, va, I (n), I (w), vc] 84)] b) [blkE g67 (.cells #[u62n0, u62n1, u62n2, u62n3] 37), rdE u62n3 ((nth q.Acts x).Drop), rdE u62n2 ((nth q.Acts x).Add), rdE u62n1 ((nth q.Acts x).Bar), rdE u62n0 ((nth q.Acts x).Need), rowE 22 v3 (c3 : List (List Int)), blkE g (.cells #[I (q.Facts), vf, vg, va, I (n), I (w), v3] 84), rdE va q.Acts] H) ?_ ?_
  · refine wpF_region ?_
    refine wpL_q (U := NoB) rfl (q_move (v := PT g 0) rfl a72_0) ?_
    refine wpL_q (U := NoB) rfl (q_move (v := I ((x : Int))) rfl a72_8) ?_
    refine wpL_q (U := NoB) rfl (q_move (v := I (t)) rfl a72_1) ?_
    refine wpL_o rfl ?_
    refine e_call rfl Try.call56 (arr3 (v0 := PT g 0) (v1 := I ((x : Int))) (v2 := I (t)) rfl rfl rfl) (act_E g vf vg va v3 q n w (x : Int) t (hS72.blk 6 rfl) (hS72.rdN 7 rfl) hQ hn (by omega) (by omega)) ?_
    rintro _ H73 ⟨hxx, rfl⟩
    have hS74 : St H0 (own [rowE 22 vc (Cl : List (List Int)), blkE g (.cells #[I (q.Facts), vf, vg, va, I (n), I (w), vc] 84)]) (fun b => S b ∧ ¬ own [rowE 22 vc (Cl : List (List Int)), blkE g (.cells #[I (q.Facts), vf, vg, va, I (n), I (w), vc] 84)] b) [blkE g67 (.cells #[u62n0, u62n1, u62n2, u62n3] 37), rdE u62n3 ((nth q.Acts x).Drop), rdE u62n2 ((nth q.Acts x).Add), rdE u62n1 ((nth q.Acts x).Bar), rdE u62n0 ((nth q.Acts x).Need), rowE 22 v3 (c3 : List (List Int)), blkE g (.cells #[I (q.Facts), vf, vg, va, I (n), I (w), v3] 84), rdE va q.Acts] H73 := hS72.ext hxx
    refine wpL_q (U := NoB) rfl (q_neg rfl rfl (by constructor <;> omega)) ?_
    refine wpL_q (U := NoB) rfl (q_assign (v := I (-(actV q n (x : Int) t))) rfl rfl) ?_
    exact ⟨a72_0, a72_1, a72_9, rfl, a72_76, a72_77, a72_78, hS74⟩
  rintro f76 H76 ⟨a76_0, a76_1, a76_9, a76_10, a76_76, a76_77, a76_78, hS76⟩
  clear a72_0 a72_1 a72_76 a72_77 a72_78 a72_8 a72_9
  refine wpF_seq ?_
  refine wpF_seq ?_
  refine wpF_cut (fun f H => f 0 = PT g 0 ∧ f 1 = I (t) ∧ f 9 = PT g67 0 ∧ f 10 = I (-(actV q n (x : Int) t)) ∧ f 76 = va ∧ f 77 = I ((q.Acts.length : Int)) ∧ f 78 = I ((x : Int)) ∧ f 89 = u62n0 ∧ f 90 = I ((((nth q.Acts x).Need).length : Int)) ∧ f 91 = I (0) ∧ H76 = H) ?_ ?_
  · refine wpF_region ?_
    refine wpL_q (U := NoB) rfl (q_fieldAddr rfl Try.underlying37 rfl Try.sizeOf22 a76_9) ?_
    refine wpL_q (U := NoB) rfl (q_loadBlk rfl rfl Try.isAgg22 (hS76.blk 0 rfl) rfl (fun h => h)) ?_
    refine wpL_q (U := NoB) rfl (q_lenRd rfl Try.underlying22 rfl (hS76.rdl 4 rfl)) ?_
    refine wpL_q (U := NoB) rfl (q_move (v := I (0)) rfl rfl) ?_
    exact ⟨a76_0, a76_1, a76_9, a76_10, a76_76, a76_77, a76_78, rfl, rfl, rfl, rfl⟩
  rintro f77 _ ⟨a77_0, a77_1, a77_9, a77_10, a77_76, a77_77, a77_78, a77_89, a77_90, a77_91, rfl⟩
  clear a76_0 a76_1 a76_10 a76_76 a76_77 a76_78 a76_9
  refine wpF_block ?_
  refine wpF_loop (fun mz f H => ∃ (i : Nat), ∃ (c4 : List (List Int)), ∃ (v4 : Value), mz = (nth q.Acts x).Need.length - i ∧ (i ≤ (nth q.Acts x).Need.length) ∧ (c4.length ≤ c3.length + i) ∧ (c4 = c3 ++ tPos q t (-actV q n x t) ((nth q.Acts x).Need.take i)) ∧ f 0 = PT g 0 ∧ f 1 = I (t) ∧ f 9 = PT g67 0 ∧ f 10 = I (-(actV q n (x : Int) t)) ∧ f 76 = va ∧ f 77 = I ((q.Acts.length : Int)) ∧ f 78 = I ((x : Int)) ∧ f 89 = u62n0 ∧ f 90 = I ((((nth q.Acts x).Need).length : Int)) ∧ f 91 = I ((i : Int)) ∧ St H0 (own [rowE 22 vc (Cl : List (List Int)), blkE g (.cells #[I (q.Facts), vf, vg, va, I (n), I (w), vc] 84)]) (fun b => S b ∧ ¬ own [rowE 22 vc (Cl : List (List Int)), blkE g (.cells #[I (q.Facts), vf, vg, va, I (n), I (w), vc] 84)] b) [rowE 22 v4 (c4 : List (List Int)), blkE g (.cells #[I (q.Facts), vf, vg, va, I (n), I (w), v4] 84), blkE g67 (.cells #[u62n0, u62n1, u62n2, u62n3] 37), rdE u62n3 ((nth q.Acts x).Drop), rdE u62n2 ((nth q.Acts x).Add), rdE u62n1 ((nth q.Acts x).Bar), rdE u62n0 ((nth q.Acts x).Need), rdE va q.Acts] H) ((nth q.Acts x).Need.length - 0) ?_ ?_
  · exact ⟨0, c3, v3, rfl, Nat.zero_le _, (Nat.le_refl _), (by simp [tPos, tNeg]), a77_0, a77_1, a77_9, a77_10, a77_76, a77_77, a77_78, a77_89, a77_90, (Eq.trans a77_91 (congrArg I (by omega))), (St.drop (show St H0 (own [rowE 22 vc (Cl : List (List Int)), blkE g (.cells #[I (q.Facts), vf, vg, va, I (n), I (w), vc] 84)]) (fun b => S b ∧ ¬ own [rowE 22 vc (Cl : List (List Int)), blkE g (.cells #[I (q.Facts), vf, vg, va, I (n), I (w), vc] 84)] b) [rowE 22 v3 (c3 : List (List Int)), blkE g (.cells #[I (q.Facts), vf, vg, va, I (n), I (w), v3] 84), blkE g67 (.cells #[u62n0, u62n1, u62n2, u62n3] 37), rdE u62n3 ((nth q.Acts x).Drop), rdE u62n2 ((nth q.Acts x).Add), rdE u62n1 ((nth q.Acts x).Bar), rdE u62n0 ((nth q.Acts x).Need), rdE va q.Acts] H76 from ((hS76.front 6 rfl).front 6 rfl)) (sk (sk (sk (sk (sk (sk (sk (sk (List.Sublist.slnil))))))))))⟩
  intro m78 f78 H78 hI78
  obtain ⟨i, c4, v4, hm78, hi, li, ei, a78_0, a78_1, a78_9, a78_10, a78_76, a78_77, a78_78, a78_89, a78_90, a78_91, hS78⟩ := hI78
  clear a77_0 a77_1 a77_10 a77_76 a77_77 a77_78 a77_89 a77_9 a77_90 a77_91
  refine wpF_seq ?_
  refine wpF_cut (fun f H => f 0 = PT g 0 ∧ f 1 = I (t) ∧ f 9 = PT g67 0 ∧ f 10 = I (-(actV q n (x : Int) t)) ∧ f 76 = va ∧ f 77 = I ((q.Acts.length : Int)) ∧ f 78 = I ((x : Int)) ∧ f 89 = u62n0 ∧ f 90 = I ((((nth q.Acts x).Need).length : Int)) ∧ f 91 = I ((i : Int)) ∧ f 92 = B (decide ((i : Int) < (((nth q.Acts x).Need).length : Int))) ∧ H78 = H) ?_ ?_
  · refine wpF_region ?_
    refine wpL_q (U := NoB) rfl (q_lss rfl a78_91 a78_90) ?_
    exact ⟨a78_0, a78_1, a78_9, a78_10, a78_76, a78_77, a78_78, a78_89, a78_90, a78_91, rfl, rfl⟩
  rintro f79 _ ⟨a79_0, a79_1, a79_9, a79_10, a79_76, a79_77, a79_78, a79_89, a79_90, a79_91, a79_92, rfl⟩
  clear a78_0 a78_1 a78_10 a78_76 a78_77 a78_78 a78_89 a78_9 a78_90 a78_91
  refine wpF_seq ?_
  refine wpF_condP a79_92 (fun c92 => ?t157) (fun c92 => ?e157)
  case t157 =>
    have hfr := hfm.1.1.1.mem (nth_mem (l := (nth q.Acts x).Need) (k := i) (by omega))
    have hfg := fact_rng hQ (f := nth (nth q.Acts x).Need i) (t := t) (by omega) (by omega)
    refine wpF_skip ?_
    refine wpF_seq ?_
    refine wpF_block ?_
    refine wpF_seq ?_
    refine wpF_cut (fun f H => f 0 = PT g 0 ∧ f 1 = I (t) ∧ f 9 = PT g67 0 ∧ f 10 = I (-(actV q n (x : Int) t)) ∧ f 12 = I (nth ((nth q.Acts x).Need) i) ∧ f 76 = va ∧ f 77 = I ((q.Acts.length : Int)) ∧ f 78 = I ((x : Int)) ∧ f 89 = u62n0 ∧ f 90 = I ((((nth q.Acts x).Need).length : Int)) ∧ f 91 = I ((i : Int)) ∧ H78 = H) ?_ ?_
    · refine wpF_region ?_
      refine wpL_q (U := NoB) rfl (q_indexRd (k := i) rfl Try.underlying22 el_Int_3_StepT1 a79_89 a79_91 (hS78.rdl 6 rfl) (by omega) (by omega)) ?_
      refine wpL_q (U := NoB) rfl (q_loadInt (k := i) rfl rfl el_Int_3_StepT1 (hS78.rdl 6 rfl) (by omega) (fun _ h => h)) ?_
      refine wpL_q (U := NoB) rfl (q_assign (v := I (nth ((nth q.Acts x).Need) i)) rfl rfl) ?_
      exact ⟨a79_0, a79_1, a79_9, a79_10, rfl, a79_76, a79_77, a79_78, a79_89, a79_90, a79_91, rfl⟩
    rintro f81 _ ⟨a81_0, a81_1, a81_9, a81_10, a81_12, a81_76, a81_77, a81_78, a81_89, a81_90, a81_91, rfl⟩
    clear a79_0 a79_1 a79_10 a79_76 a79_77 a79_78 a79_89 a79_9 a79_90 a79_91 a79_92
    refine wpF_cut (fun f H => ∃ (r90 : Value), f 0 = PT g 0 ∧ f 1 = I (t) ∧ f 9 = PT g67 0 ∧ f 10 = I (-(actV q n (x : Int) t)) ∧ f 76 = va ∧ f 77 = I ((q.Acts.length : Int)) ∧ f 78 = I ((x : Int)) ∧ f 89 = u62n0 ∧ f 90 = I ((((nth q.Acts x).Need).length : Int)) ∧ f 91 = I ((i : Int)) ∧ St H0 (own [rowE 22 vc (Cl : List (List Int)), blkE g (.cells #[I (q.Facts), vf, vg, va, I (n), I (w), vc] 84)]) (fun b => S b ∧ ¬ own [rowE 22 vc (Cl : List (List Int)), blkE g (.cells #[I (q.Facts), vf, vg, va, I (n), I (w), vc] 84)] b) [rowE 22 r90 (c4 ++ [([factV q (nth ((nth q.Acts x).Need) i) t, -(actV q n (x : Int) t)])] : List (List Int)), blkE g (.cells #[I (q.Facts), vf, vg, va, I (n), I (w), r90] 84), blkE g67 (.cells #[u62n0, u62n1, u62n2, u62n3] 37), rdE u62n3 ((nth q.Acts x).Drop), rdE u62n2 ((nth q.Acts x).Add), rdE u62n1 ((nth q.Acts x).Bar), rdE u62n0 ((nth q.Acts x).Need), rdE va q.Acts] H) ?_ ?_
    · refine wpF_region ?_
      refine wpL_q (U := NoB) rfl (q_move (v := PT g 0) rfl a81_0) ?_
      refine wpL_q (U := NoB) rfl (q_move (v := PT g 0) rfl a81_0) ?_
      refine wpL_q (U := NoB) rfl (q_move (v := I (nth ((nth q.Acts x).Need) i)) rfl a81_12) ?_
      refine wpL_q (U := NoB) rfl (q_move (v := I (t)) rfl a81_1) ?_
      refine wpL_o rfl ?_
      refine e_call rfl Try.call54 (arr3 (v0 := PT g 0) (v1 := I (nth ((nth q.Acts x).Need) i)) (v2 := I (t)) rfl rfl rfl) (fact_E g vf vg va v4 q n w (nth ((nth q.Acts x).Need) i) t (hS78.blk 1 rfl) (hS78.rdN 7 rfl) hQ hn (by omega) (by omega)) ?_
      rintro _ H82 ⟨hxx, rfl⟩
      have hS83 : St H0 (own [rowE 22 vc (Cl : List (List Int)), blkE g (.cells #[I (q.Facts), vf, vg, va, I (n), I (w), vc] 84)]) (fun b => S b ∧ ¬ own [rowE 22 vc (Cl : List (List Int)), blkE g (.cells #[I (q.Facts), vf, vg, va, I (n), I (w), vc] 84)] b) [rowE 22 v4 (c4 : List (List Int)), blkE g (.cells #[I (q.Facts), vf, vg, va, I (n), I (w), v4] 84), blkE g67 (.cells #[u62n0, u62n1, u62n2, u62n3] 37), rdE u62n3 ((nth q.Acts x).Drop), rdE u62n2 ((nth q.Acts x).Add), rdE u62n1 ((nth q.Acts x).Bar), rdE u62n0 ((nth q.Acts x).Need), rdE va q.Acts] H82 := hS78.ext hxx
      refine wpL_q (U := NoB) rfl (q_move (v := I (-(actV q n (x : Int) t))) rfl a81_10) ?_
      refine wpL_o rfl ?_
      refine e_buildSlice (vs := [I (factV q (nth ((nth q.Acts x).Need) i) t), I (-(actV q n (x : Int) t))]) (xs := ([factV q (nth ((nth q.Acts x).Need) i) t, -(actV q n (x : Int) t)] : List Int)) rfl Try.underlying22 Try.zeroValue3 rfl Try.sizeOf3 (par2 (v0 := I (factV q (nth ((nth q.Acts x).Need) i) t)) (v1 := I (-(actV q n (x : Int) t))) rfl rfl) rfl hS83 (RdVs.cons (Rd.int.2 ⟨rfl, by first | assumption | (constructor <;> omega)⟩) (RdVs.cons (Rd.int.2 ⟨rfl, by first | assumption | (constructor <;> omega)⟩) (RdVs.nil))) (by decide) (by decide) (fun v85 H86 hS87 hxx hvv85 => ?_)
      replace hS87 : St H0 (own [rowE 22 vc (Cl : List (List Int)), blkE g (.cells #[I (q.Facts), vf, vg, va, I (n), I (w), vc] 84)]) (fun b => S b ∧ ¬ own [rowE 22 vc (Cl : List (List Int)), blkE g (.cells #[I (q.Facts), vf, vg, va, I (n), I (w), vc] 84)] b) [rowE 3 v85 ([factV q (nth ((nth q.Acts x).Need) i) t, -(actV q n (x : Int) t)] : List Int), rowE 22 v4 (c4 : List (List Int)), blkE g (.cells #[I (q.Facts), vf, vg, va, I (n), I (w), v4] 84), blkE g67 (.cells #[u62n0, u62n1, u62n2, u62n3] 37), rdE u62n3 ((nth q.Acts x).Drop), rdE u62n2 ((nth q.Acts x).Add), rdE u62n1 ((nth q.Acts x).Bar), rdE u62n0 ((nth q.Acts x).Need), rdE va q.Acts] H86 := hS87
      have hS88 : St H0 (own [rowE 22 vc (Cl : List (List Int)), blkE g (.cells #[I (q.Facts), vf, vg, va, I (n), I (w), vc] 84)]) (fun b => S b ∧ ¬ own [rowE 22 vc (Cl : List (List Int)), blkE g (.cells #[I (q.Facts), vf, vg, va, I (n), I (w), vc] 84)] b) [rdE v85 ([factV q (nth ((nth q.Acts x).Need) i) t, -(actV q n (x : Int) t)] : List Int), rowE 22 v4 (c4 : List (List Int)), blkE g (.cells #[I (q.Facts), vf, vg, va, I (n), I (w), v4] 84), blkE g67 (.cells #[u62n0, u62n1, u62n2, u62n3] 37), rdE u62n3 ((nth q.Acts x).Drop), rdE u62n2 ((nth q.Acts x).Add), rdE u62n1 ((nth q.Acts x).Bar), rdE u62n0 ((nth q.Acts x).Need), rdE va q.Acts] H86 := St.fin hS87
      have hS89 : St H0 (own [rowE 22 vc (Cl : List (List Int)), blkE g (.cells #[I (q.Facts), vf, vg, va, I (n), I (w), vc] 84)]) (fun b => S b ∧ ¬ own [rowE 22 vc (Cl : List (List Int)), blkE g (.cells #[I (q.Facts), vf, vg, va, I (n), I (w), vc] 84)] b) [rowE 22 v4 (c4 : List (List Int)), blkE g (.cells #[I (q.Facts), vf, vg, va, I (n), I (w), v4] 84), rdE v85 ([factV q (nth ((nth q.Acts x).Need) i) t, -(actV q n (x : Int) t)] : List Int), blkE g67 (.cells #[u62n0, u62n1, u62n2, u62n3] 37), rdE u62n3 ((nth q.Acts x).Drop), rdE u62n2 ((nth q.Acts x).Add), rdE u62n1 ((nth q.Acts x).Bar), rdE u62n0 ((nth q.Acts x).Need), rdE va q.Acts] H86 := (St.drop (show St H0 (own [rowE 22 vc (Cl : List (List Int)), blkE g (.cells #[I (q.Facts), vf, vg, va, I (n), I (w), vc] 84)]) (fun b => S b ∧ ¬ own [rowE 22 vc (Cl : List (List Int)), blkE g (.cells #[I (q.Facts), vf, vg, va, I (n), I (w), vc] 84)] b) [rowE 22 v4 (c4 : List (List Int)), blkE g (.cells #[I (q.Facts), vf, vg, va, I (n), I (w), v4] 84), rdE v85 ([factV q (nth ((nth q.Acts x).Need) i) t, -(actV q n (x : Int) t)] : List Int), blkE g67 (.cells #[u62n0, u62n1, u62n2, u62n3] 37), rdE u62n3 ((nth q.Acts x).Drop), rdE u62n2 ((nth q.Acts x).Add), rdE u62n1 ((nth q.Acts x).Bar), rdE u62n0 ((nth q.Acts x).Need), rdE va q.Acts] H86 from ((hS88.front 2 rfl).front 2 rfl)) (sk (sk (sk (sk (sk (sk (sk (sk (sk (List.Sublist.slnil)))))))))))
      refine wpL_o rfl ?_
      refine e_call rfl Try.call53 (arr2 (v0 := PT g 0) (v1 := v85) rfl rfl) (add_E _ g vf vg va v4 v85 q n w c4 ([factV q (nth ((nth q.Acts x).Need) i) t, -(actV q n (x : Int) t)]) (fun e he => hS89.ok e (List.mem_append_left [rdE v85 ([factV q (nth ((nth q.Acts x).Need) i) t, -(actV q n (x : Int) t)] : List Int), blkE g67 (.cells #[u62n0, u62n1, u62n2, u62n3] 37), rdE u62n3 ((nth q.Acts x).Drop), rdE u62n2 ((nth q.Acts x).Add), rdE u62n1 ((nth q.Acts x).Bar), rdE u62n0 ((nth q.Acts x).Need), rdE va q.Acts] he)) (fun b hb => SL.lt hS89 hb) (fun b ⟨e, he, hb⟩ => .inr ⟨e, List.mem_append_left [rdE v85 ([factV q (nth ((nth q.Acts x).Need) i) t, -(actV q n (x : Int) t)] : List Int), blkE g67 (.cells #[u62n0, u62n1, u62n2, u62n3] 37), rdE u62n3 ((nth q.Acts x).Drop), rdE u62n2 ((nth q.Acts x).Add), rdE u62n1 ((nth q.Acts x).Bar), rdE u62n0 ((nth q.Acts x).Need), rdE va q.Acts] he, hb⟩) (fun b hb e => hS89.dis 0 1 (by decide) rfl rfl b hb e) (hS89.rdS 2 rfl) (by first | omega | (simp only [List.length_append, List.length_singleton]; omega))) ?_
      rintro _ H91 ⟨hxx, r90, rfl, hgo⟩
      have hS92 : St H0 (own [rowE 22 vc (Cl : List (List Int)), blkE g (.cells #[I (q.Facts), vf, vg, va, I (n), I (w), vc] 84)]) (fun b => S b ∧ ¬ own [rowE 22 vc (Cl : List (List Int)), blkE g (.cells #[I (q.Facts), vf, vg, va, I (n), I (w), vc] 84)] b) [rowE 22 r90 (c4 ++ [([factV q (nth ((nth q.Acts x).Need) i) t, -(actV q n (x : Int) t)])] : List (List Int)), blkE g (.cells #[I (q.Facts), vf, vg, va, I (n), I (w), r90] 84), rdE v85 ([factV q (nth ((nth q.Acts x).Need) i) t, -(actV q n (x : Int) t)] : List Int), blkE g67 (.cells #[u62n0, u62n1, u62n2, u62n3] 37), rdE u62n3 ((nth q.Acts x).Drop), rdE u62n2 ((nth q.Acts x).Add), rdE u62n1 ((nth q.Acts x).Bar), rdE u62n0 ((nth q.Acts x).Need), rdE va q.Acts] H91 := St.back3 (A := [rowE 22 v4 (c4 : List (List Int)), blkE g (.cells #[I (q.Facts), vf, vg, va, I (n), I (w), v4] 84)]) (A' := [rowE 22 r90 (c4 ++ [([factV q (nth ((nth q.Acts x).Need) i) t, -(actV q n (x : Int) t)])] : List (List Int)), blkE g (.cells #[I (q.Facts), vf, vg, va, I (n), I (w), r90] 84)]) (L := [rdE v85 ([factV q (nth ((nth q.Acts x).Need) i) t, -(actV q n (x : Int) t)] : List Int), blkE g67 (.cells #[u62n0, u62n1, u62n2, u62n3] 37), rdE u62n3 ((nth q.Acts x).Drop), rdE u62n2 ((nth q.Acts x).Add), rdE u62n1 ((nth q.Acts x).Bar), rdE u62n0 ((nth q.Acts x).Need), rdE va q.Acts]) hS89 hxx hgo
      exact ⟨r90, a81_0, a81_1, a81_9, a81_10, a81_76, a81_77, a81_78, a81_89, a81_90, a81_91, (hS92.drop (sk (sk (sn (sk (sk (sk (sk (sk (sk (List.Sublist.slnil)))))))))))⟩
    rintro f94 H94 ⟨r90, a94_0, a94_1, a94_9, a94_10, a94_76, a94_77, a94_78, a94_89, a94_90, a94_91, hS94⟩
    clear a81_0 a81_1 a81_10 a81_12 a81_76 a81_77 a81_78 a81_89 a81_9 a81_90 a81_91
    refine wpF_cut (fun f H => f 0 = PT g 0 ∧ f 1 = I (t) ∧ f 9 = PT g67 0 ∧ f 10 = I (-(actV q n (x : Int) t)) ∧ f 76 = va ∧ f 77 = I ((q.Acts.length : Int)) ∧ f 78 = I ((x : Int)) ∧ f 89 = u62n0 ∧ f 90 = I ((((nth q.Acts x).Need).length : Int)) ∧ f 91 = I ((i : Int) + 1) ∧ H94 = H) ?_ ?_
    · refine wpF_region ?_
      refine wpL_q (U := NoB) rfl (q_add rfl a94_91 rfl (by constructor <;> omega)) ?_
      refine wpL_q (U := NoB) rfl (q_move (v := I ((i : Int) + 1)) rfl rfl) ?_
      exact ⟨a94_0, a94_1, a94_9, a94_10, a94_76, a94_77, a94_78, a94_89, a94_90, rfl, rfl⟩
    rintro f95 _ ⟨a95_0, a95_1, a95_9, a95_10, a95_76, a95_77, a95_78, a95_89, a95_90, a95_91, rfl⟩
    clear a94_0 a94_1 a94_10 a94_76 a94_77 a94_78 a94_89 a94_9 a94_90 a94_91
    refine ⟨_, ?_, i + 1, c4 ++ [([factV q (nth ((nth q.Acts x).Need) i) t, -(actV q n (x : Int) t)])], r90, rfl, (by omega), (by rw [List.length_append, List.length_singleton]; omega), (by rw [ei, tPos_next (by omega), List.append_assoc]), a95_0, a95_1, a95_9, a95_10, a95_76, a95_77, a95_78, a95_89, a95_90, (Eq.trans a95_91 (congrArg I (by omega))), (show St H0 (own [rowE 22 vc (Cl : List (List Int)), blkE g (.cells #[I (q.Facts), vf, vg, va, I (n), I (w), vc] 84)]) (fun b => S b ∧ ¬ own [rowE 22 vc (Cl : List (List Int)), blkE g (.cells #[I (q.Facts), vf, vg, va, I (n), I (w), vc] 84)] b) [rowE 22 r90 ((c4 ++ [([factV q (nth ((nth q.Acts x).Need) i) t, -(actV q n (x : Int) t)])]) : List (List Int)), blkE g (.cells #[I (q.Facts), vf, vg, va, I (n), I (w), r90] 84), blkE g67 (.cells #[u62n0, u62n1, u62n2, u62n3] 37), rdE u62n3 ((nth q.Acts x).Drop), rdE u62n2 ((nth q.Acts x).Add), rdE u62n1 ((nth q.Acts x).Bar), rdE u62n0 ((nth q.Acts x).Need), rdE va q.Acts] H94 from hS94)⟩
    omega
  rw [List.take_of_length_le (by omega)] at ei
  refine wpF_exit ?_
  refine atX_here ?_
  refine wpF_seq ?_
  refine wpF_seq ?_
  refine wpF_cut (fun f H => f 0 = PT g 0 ∧ f 1 = I (t) ∧ f 9 = PT g67 0 ∧ f 10 = I (-(actV q n (x : Int) t)) ∧ f 76 = va ∧ f 77 = I ((q.Acts.length : Int)) ∧ f 78 = I ((x : Int)) ∧ f 105 = u62n1 ∧ f 106 = I ((((nth q.Acts x).Bar).length : Int)) ∧ f 107 = I (0) ∧ H78 = H) ?_ ?_
  · refine wpF_region ?_
    refine wpL_q (U := NoB) rfl (q_fieldAddr rfl Try.underlying37 rfl Try.sizeOf22 a79_9) ?_
    refine wpL_q (U := NoB) rfl (q_loadBlk rfl rfl Try.isAgg22 (hS78.blk 2 rfl) rfl (fun h => h)) ?_
    refine wpL_q (U := NoB) rfl (q_lenRd rfl Try.underlying22 rfl (hS78.rdl 5 rfl)) ?_
    refine wpL_q (U := NoB) rfl (q_move (v := I (0)) rfl rfl) ?_
    exact ⟨a79_0, a79_1, a79_9, a79_10, a79_76, a79_77, a79_78, rfl, rfl, rfl, rfl⟩
  rintro f96 _ ⟨a96_0, a96_1, a96_9, a96_10, a96_76, a96_77, a96_78, a96_105, a96_106, a96_107, rfl⟩
  clear a79_0 a79_1 a79_10 a79_76 a79_77 a79_78 a79_89 a79_9 a79_90 a79_91 a79_92
  refine wpF_block ?_
  refine wpF_loop (fun mz f H => ∃ (j : Nat), ∃ (c5 : List (List Int)), ∃ (v5 : Value), mz = (nth q.Acts x).Bar.length - j ∧ (j ≤ (nth q.Acts x).Bar.length) ∧ (c5.length ≤ c4.length + j) ∧ (c5 = c4 ++ tNeg q t (-actV q n x t) ((nth q.Acts x).Bar.take j)) ∧ f 0 = PT g 0 ∧ f 1 = I (t) ∧ f 9 = PT g67 0 ∧ f 10 = I (-(actV q n (x : Int) t)) ∧ f 76 = va ∧ f 77 = I ((q.Acts.length : Int)) ∧ f 78 = I ((x : Int)) ∧ f 105 = u62n1 ∧ f 106 = I ((((nth q.Acts x).Bar).length : Int)) ∧ f 107 = I ((j : Int)) ∧ St H0 (own [rowE 22 vc (Cl : List (List Int)), blkE g (.cells #[I (q.Facts), vf, vg, va, I (n), I (w), vc] 84)]) (fun b => S b ∧ ¬ own [rowE 22 vc (Cl : List (List Int)), blkE g (.cells #[I (q.Facts), vf, vg, va, I (n), I (w), vc] 84)] b) [rowE 22 v5 (c5 : List (List Int)), blkE g (.cells #[I (q.Facts), vf, vg, va, I (n), I (w), v5] 84), blkE g67 (.cells #[u62n0, u62n1, u62n2, u62n3] 37), rdE u62n3 ((nth q.Acts x).Drop), rdE u62n2 ((nth q.Acts x).Add), rdE u62n1 ((nth q.Acts x).Bar), rdE u62n0 ((nth q.Acts x).Need), rdE va q.Acts] H) ((nth q.Acts x).Bar.length - 0) ?_ ?_
  · exact ⟨0, c4, v4, rfl, Nat.zero_le _, (Nat.le_refl _), (by simp [tPos, tNeg]), a96_0, a96_1, a96_9, a96_10, a96_76, a96_77, a96_78, a96_105, a96_106, (Eq.trans a96_107 (congrArg I (by omega))), hS78⟩
  intro m97 f97 H97 hI97
  obtain ⟨j, c5, v5, hm97, hj, lj, ej, a97_0, a97_1, a97_9, a97_10, a97_76, a97_77, a97_78, a97_105, a97_106, a97_107, hS97⟩ := hI97
  clear a96_0 a96_1 a96_10 a96_105 a96_106 a96_107 a96_76 a96_77 a96_78 a96_9
  refine wpF_seq ?_
  refine wpF_cut (fun f H => f 0 = PT g 0 ∧ f 1 = I (t) ∧ f 9 = PT g67 0 ∧ f 10 = I (-(actV q n (x : Int) t)) ∧ f 76 = va ∧ f 77 = I ((q.Acts.length : Int)) ∧ f 78 = I ((x : Int)) ∧ f 105 = u62n1 ∧ f 106 = I ((((nth q.Acts x).Bar).length : Int)) ∧ f 107 = I ((j : Int)) ∧ f 108 = B (decide ((j : Int) < (((nth q.Acts x).Bar).length : Int))) ∧ H97 = H) ?_ ?_
  · refine wpF_region ?_
    refine wpL_q (U := NoB) rfl (q_lss rfl a97_107 a97_106) ?_
    exact ⟨a97_0, a97_1, a97_9, a97_10, a97_76, a97_77, a97_78, a97_105, a97_106, a97_107, rfl, rfl⟩
  rintro f98 _ ⟨a98_0, a98_1, a98_9, a98_10, a98_76, a98_77, a98_78, a98_105, a98_106, a98_107, a98_108, rfl⟩
  clear a97_0 a97_1 a97_10 a97_105 a97_106 a97_107 a97_76 a97_77 a97_78 a97_9
  refine wpF_seq ?_
  refine wpF_condP a98_108 (fun c108 => ?t156) (fun c108 => ?e156)
  case t156 =>
    have hfr := hfm.1.1.2.mem (nth_mem (l := (nth q.Acts x).Bar) (k := j) (by omega))
    have hfg := fact_rng hQ (f := nth (nth q.Acts x).Bar j) (t := t) (by omega) (by omega)
    refine wpF_skip ?_
    refine wpF_seq ?_
    refine wpF_block ?_
    refine wpF_seq ?_
    refine wpF_cut (fun f H => f 0 = PT g 0 ∧ f 1 = I (t) ∧ f 9 = PT g67 0 ∧ f 10 = I (-(actV q n (x : Int) t)) ∧ f 14 = I (nth ((nth q.Acts x).Bar) j) ∧ f 76 = va ∧ f 77 = I ((q.Acts.length : Int)) ∧ f 78 = I ((x : Int)) ∧ f 105 = u62n1 ∧ f 106 = I ((((nth q.Acts x).Bar).length : Int)) ∧ f 107 = I ((j : Int)) ∧ H97 = H) ?_ ?_
    · refine wpF_region ?_
      refine wpL_q (U := NoB) rfl (q_indexRd (k := j) rfl Try.underlying22 el_Int_3_StepT1 a98_105 a98_107 (hS97.rdl 5 rfl) (by omega) (by omega)) ?_
      refine wpL_q (U := NoB) rfl (q_loadInt (k := j) rfl rfl el_Int_3_StepT1 (hS97.rdl 5 rfl) (by omega) (fun _ h => h)) ?_
      refine wpL_q (U := NoB) rfl (q_assign (v := I (nth ((nth q.Acts x).Bar) j)) rfl rfl) ?_
      exact ⟨a98_0, a98_1, a98_9, a98_10, rfl, a98_76, a98_77, a98_78, a98_105, a98_106, a98_107, rfl⟩
    rintro f100 _ ⟨a100_0, a100_1, a100_9, a100_10, a100_14, a100_76, a100_77, a100_78, a100_105, a100_106, a100_107, rfl⟩
    clear a98_0 a98_1 a98_10 a98_105 a98_106 a98_107 a98_108 a98_76 a98_77 a98_78 a98_9
    refine wpF_cut (fun f H => ∃ (r109 : Value), f 0 = PT g 0 ∧ f 1 = I (t) ∧ f 9 = PT g67 0 ∧ f 10 = I (-(actV q n (x : Int) t)) ∧ f 76 = va ∧ f 77 = I ((q.Acts.length : Int)) ∧ f 78 = I ((x : Int)) ∧ f 105 = u62n1 ∧ f 106 = I ((((nth q.Acts x).Bar).length : Int)) ∧ f 107 = I ((j : Int)) ∧ St H0 (own [rowE 22 vc (Cl : List (List Int)), blkE g (.cells #[I (q.Facts), vf, vg, va, I (n), I (w), vc] 84)]) (fun b => S b ∧ ¬ own [rowE 22 vc (Cl : List (List Int)), blkE g (.cells #[I (q.Facts), vf, vg, va, I (n), I (w), vc] 84)] b) [rowE 22 r109 (c5 ++ [([-(factV q (nth ((nth q.Acts x).Bar) j) t), -(actV q n (x : Int) t)])] : List (List Int)), blkE g (.cells #[I (q.Facts), vf, vg, va, I (n), I (w), r109] 84), blkE g67 (.cells #[u62n0, u62n1, u62n2, u62n3] 37), rdE u62n3 ((nth q.Acts x).Drop), rdE u62n2 ((nth q.Acts x).Add), rdE u62n1 ((nth q.Acts x).Bar), rdE u62n0 ((nth q.Acts x).Need), rdE va q.Acts] H) ?_ ?_
    · refine wpF_region ?_
      refine wpL_q (U := NoB) rfl (q_move (v := PT g 0) rfl a100_0) ?_
      refine wpL_q (U := NoB) rfl (q_move (v := PT g 0) rfl a100_0) ?_
      refine wpL_q (U := NoB) rfl (q_move (v := I (nth ((nth q.Acts x).Bar) j)) rfl a100_14) ?_
      refine wpL_q (U := NoB) rfl (q_move (v := I (t)) rfl a100_1) ?_
      refine wpL_o rfl ?_
      refine e_call rfl Try.call54 (arr3 (v0 := PT g 0) (v1 := I (nth ((nth q.Acts x).Bar) j)) (v2 := I (t)) rfl rfl rfl) (fact_E g vf vg va v5 q n w (nth ((nth q.Acts x).Bar) j) t (hS97.blk 1 rfl) (hS97.rdN 7 rfl) hQ hn (by omega) (by omega)) ?_
      rintro _ H101 ⟨hxx, rfl⟩
      have hS102 : St H0 (own [rowE 22 vc (Cl : List (List Int)), blkE g (.cells #[I (q.Facts), vf, vg, va, I (n), I (w), vc] 84)]) (fun b => S b ∧ ¬ own [rowE 22 vc (Cl : List (List Int)), blkE g (.cells #[I (q.Facts), vf, vg, va, I (n), I (w), vc] 84)] b) [rowE 22 v5 (c5 : List (List Int)), blkE g (.cells #[I (q.Facts), vf, vg, va, I (n), I (w), v5] 84), blkE g67 (.cells #[u62n0, u62n1, u62n2, u62n3] 37), rdE u62n3 ((nth q.Acts x).Drop), rdE u62n2 ((nth q.Acts x).Add), rdE u62n1 ((nth q.Acts x).Bar), rdE u62n0 ((nth q.Acts x).Need), rdE va q.Acts] H101 := hS97.ext hxx
      refine wpL_q (U := NoB) rfl (q_neg rfl rfl (by constructor <;> omega)) ?_
      refine wpL_q (U := NoB) rfl (q_move (v := I (-(actV q n (x : Int) t))) rfl a100_10) ?_
      refine wpL_o rfl ?_
      refine e_buildSlice (vs := [I (-(factV q (nth ((nth q.Acts x).Bar) j) t)), I (-(actV q n (x : Int) t))]) (xs := ([-(factV q (nth ((nth q.Acts x).Bar) j) t), -(actV q n (x : Int) t)] : List Int)) rfl Try.underlying22 Try.zeroValue3 rfl Try.sizeOf3 (par2 (v0 := I (-(factV q (nth ((nth q.Acts x).Bar) j) t))) (v1 := I (-(actV q n (x : Int) t))) rfl rfl) rfl hS102 (RdVs.cons (Rd.int.2 ⟨rfl, by first | assumption | (constructor <;> omega)⟩) (RdVs.cons (Rd.int.2 ⟨rfl, by first | assumption | (constructor <;> omega)⟩) (RdVs.nil))) (by decide) (by decide) (fun v104 H105 hS106 hxx hvv104 => ?_)
      replace hS106 : St H0 (own [rowE 22 vc (Cl : List (List Int)), blkE g (.cells #[I (q.Facts), vf, vg, va, I (n), I (w), vc] 84)]) (fun b => S b ∧ ¬ own [rowE 22 vc (Cl : List (List Int)), blkE g (.cells #[I (q.Facts), vf, vg, va, I (n), I (w), vc] 84)] b) [rowE 3 v104 ([-(factV q (nth ((nth q.Acts x).Bar) j) t), -(actV q n (x : Int) t)] : List Int), rowE 22 v5 (c5 : List (List Int)), blkE g (.cells #[I (q.Facts), vf, vg, va, I (n), I (w), v5] 84), blkE g67 (.cells #[u62n0, u62n1, u62n2, u62n3] 37), rdE u62n3 ((nth q.Acts x).Drop), rdE u62n2 ((nth q.Acts x).Add), rdE u62n1 ((nth q.Acts x).Bar), rdE u62n0 ((nth q.Acts x).Need), rdE va q.Acts] H105 := hS106
      have hS107 : St H0 (own [rowE 22 vc (Cl : List (List Int)), blkE g (.cells #[I (q.Facts), vf, vg, va, I (n), I (w), vc] 84)]) (fun b => S b ∧ ¬ own [rowE 22 vc (Cl : List (List Int)), blkE g (.cells #[I (q.Facts), vf, vg, va, I (n), I (w), vc] 84)] b) [rdE v104 ([-(factV q (nth ((nth q.Acts x).Bar) j) t), -(actV q n (x : Int) t)] : List Int), rowE 22 v5 (c5 : List (List Int)), blkE g (.cells #[I (q.Facts), vf, vg, va, I (n), I (w), v5] 84), blkE g67 (.cells #[u62n0, u62n1, u62n2, u62n3] 37), rdE u62n3 ((nth q.Acts x).Drop), rdE u62n2 ((nth q.Acts x).Add), rdE u62n1 ((nth q.Acts x).Bar), rdE u62n0 ((nth q.Acts x).Need), rdE va q.Acts] H105 := St.fin hS106
      have hS108 : St H0 (own [rowE 22 vc (Cl : List (List Int)), blkE g (.cells #[I (q.Facts), vf, vg, va, I (n), I (w), vc] 84)]) (fun b => S b ∧ ¬ own [rowE 22 vc (Cl : List (List Int)), blkE g (.cells #[I (q.Facts), vf, vg, va, I (n), I (w), vc] 84)] b) [rowE 22 v5 (c5 : List (List Int)), blkE g (.cells #[I (q.Facts), vf, vg, va, I (n), I (w), v5] 84), rdE v104 ([-(factV q (nth ((nth q.Acts x).Bar) j) t), -(actV q n (x : Int) t)] : List Int), blkE g67 (.cells #[u62n0, u62n1, u62n2, u62n3] 37), rdE u62n3 ((nth q.Acts x).Drop), rdE u62n2 ((nth q.Acts x).Add), rdE u62n1 ((nth q.Acts x).Bar), rdE u62n0 ((nth q.Acts x).Need), rdE va q.Acts] H105 := (St.drop (show St H0 (own [rowE 22 vc (Cl : List (List Int)), blkE g (.cells #[I (q.Facts), vf, vg, va, I (n), I (w), vc] 84)]) (fun b => S b ∧ ¬ own [rowE 22 vc (Cl : List (List Int)), blkE g (.cells #[I (q.Facts), vf, vg, va, I (n), I (w), vc] 84)] b) [rowE 22 v5 (c5 : List (List Int)), blkE g (.cells #[I (q.Facts), vf, vg, va, I (n), I (w), v5] 84), rdE v104 ([-(factV q (nth ((nth q.Acts x).Bar) j) t), -(actV q n (x : Int) t)] : List Int), blkE g67 (.cells #[u62n0, u62n1, u62n2, u62n3] 37), rdE u62n3 ((nth q.Acts x).Drop), rdE u62n2 ((nth q.Acts x).Add), rdE u62n1 ((nth q.Acts x).Bar), rdE u62n0 ((nth q.Acts x).Need), rdE va q.Acts] H105 from ((hS107.front 2 rfl).front 2 rfl)) (sk (sk (sk (sk (sk (sk (sk (sk (sk (List.Sublist.slnil)))))))))))
      refine wpL_o rfl ?_
      refine e_call rfl Try.call53 (arr2 (v0 := PT g 0) (v1 := v104) rfl rfl) (add_E _ g vf vg va v5 v104 q n w c5 ([-(factV q (nth ((nth q.Acts x).Bar) j) t), -(actV q n (x : Int) t)]) (fun e he => hS108.ok e (List.mem_append_left [rdE v104 ([-(factV q (nth ((nth q.Acts x).Bar) j) t), -(actV q n (x : Int) t)] : List Int), blkE g67 (.cells #[u62n0, u62n1, u62n2, u62n3] 37), rdE u62n3 ((nth q.Acts x).Drop), rdE u62n2 ((nth q.Acts x).Add), rdE u62n1 ((nth q.Acts x).Bar), rdE u62n0 ((nth q.Acts x).Need), rdE va q.Acts] he)) (fun b hb => SL.lt hS108 hb) (fun b ⟨e, he, hb⟩ => .inr ⟨e, List.mem_append_left [rdE v104 ([-(factV q (nth ((nth q.Acts x).Bar) j) t), -(actV q n (x : Int) t)] : List Int), blkE g67 (.cells #[u62n0, u62n1, u62n2, u62n3] 37), rdE u62n3 ((nth q.Acts x).Drop), rdE u62n2 ((nth q.Acts x).Add), rdE u62n1 ((nth q.Acts x).Bar), rdE u62n0 ((nth q.Acts x).Need), rdE va q.Acts] he, hb⟩) (fun b hb e => hS108.dis 0 1 (by decide) rfl rfl b hb e) (hS108.rdS 2 rfl) (by first | omega | (simp only [List.length_append, List.length_singleton]; omega))) ?_
      rintro _ H110 ⟨hxx, r109, rfl, hgo⟩
      have hS111 : St H0 (own [rowE 22 vc (Cl : List (List Int)), blkE g (.cells #[I (q.Facts), vf, vg, va, I (n), I (w), vc] 84)]) (fun b => S b ∧ ¬ own [rowE 22 vc (Cl : List (List Int)), blkE g (.cells #[I (q.Facts), vf, vg, va, I (n), I (w), vc] 84)] b) [rowE 22 r109 (c5 ++ [([-(factV q (nth ((nth q.Acts x).Bar) j) t), -(actV q n (x : Int) t)])] : List (List Int)), blkE g (.cells #[I (q.Facts), vf, vg, va, I (n), I (w), r109] 84), rdE v104 ([-(factV q (nth ((nth q.Acts x).Bar) j) t), -(actV q n (x : Int) t)] : List Int), blkE g67 (.cells #[u62n0, u62n1, u62n2, u62n3] 37), rdE u62n3 ((nth q.Acts x).Drop), rdE u62n2 ((nth q.Acts x).Add), rdE u62n1 ((nth q.Acts x).Bar), rdE u62n0 ((nth q.Acts x).Need), rdE va q.Acts] H110 := St.back3 (A := [rowE 22 v5 (c5 : List (List Int)), blkE g (.cells #[I (q.Facts), vf, vg, va, I (n), I (w), v5] 84)]) (A' := [rowE 22 r109 (c5 ++ [([-(factV q (nth ((nth q.Acts x).Bar) j) t), -(actV q n (x : Int) t)])] : List (List Int)), blkE g (.cells #[I (q.Facts), vf, vg, va, I (n), I (w), r109] 84)]) (L := [rdE v104 ([-(factV q (nth ((nth q.Acts x).Bar) j) t), -(actV q n (x : Int) t)] : List Int), blkE g67 (.cells #[u62n0, u62n1, u62n2, u62n3] 37), rdE u62n3 ((nth q.Acts x).Drop), rdE u62n2 ((nth q.Acts x).Add), rdE u62n1 ((nth q.Acts x).Bar), rdE u62n0 ((nth q.Acts x).Need), rdE va q.Acts]) hS108 hxx hgo
      exact ⟨r109, a100_0, a100_1, a100_9, a100_10, a100_76, a100_77, a100_78, a100_105, a100_106, a100_107, (hS111.drop (sk (sk (sn (sk (sk (sk (sk (sk (sk (List.Sublist.slnil)))))))))))⟩
    rintro f113 H113 ⟨r109, a113_0, a113_1, a113_9, a113_10, a113_76, a113_77, a113_78, a113_105, a113_106, a113_107, hS113⟩
    clear a100_0 a100_1 a100_10 a100_105 a100_106 a100_107 a100_14 a100_76 a100_77 a100_78 a100_9
    refine wpF_cut (fun f H => f 0 = PT g 0 ∧ f 1 = I (t) ∧ f 9 = PT g67 0 ∧ f 10 = I (-(actV q n (x : Int) t)) ∧ f 76 = va ∧ f 77 = I ((q.Acts.length : Int)) ∧ f 78 = I ((x : Int)) ∧ f 105 = u62n1 ∧ f 106 = I ((((nth q.Acts x).Bar).length : Int)) ∧ f 107 = I ((j : Int) + 1) ∧ H113 = H) ?_ ?_
    · refine wpF_region ?_
      refine wpL_q (U := NoB) rfl (q_add rfl a113_107 rfl (by constructor <;> omega)) ?_
      refine wpL_q (U := NoB) rfl (q_move (v := I ((j : Int) + 1)) rfl rfl) ?_
      exact ⟨a113_0, a113_1, a113_9, a113_10, a113_76, a113_77, a113_78, a113_105, a113_106, rfl, rfl⟩
    rintro f114 _ ⟨a114_0, a114_1, a114_9, a114_10, a114_76, a114_77, a114_78, a114_105, a114_106, a114_107, rfl⟩
    clear a113_0 a113_1 a113_10 a113_105 a113_106 a113_107 a113_76 a113_77 a113_78 a113_9
    refine ⟨_, ?_, j + 1, c5 ++ [([-(factV q (nth ((nth q.Acts x).Bar) j) t), -(actV q n (x : Int) t)])], r109, rfl, (by omega), (by rw [List.length_append, List.length_singleton]; omega), (by rw [ej, tNeg_next (by omega), List.append_assoc]), a114_0, a114_1, a114_9, a114_10, a114_76, a114_77, a114_78, a114_105, a114_106, (Eq.trans a114_107 (congrArg I (by omega))), (show St H0 (own [rowE 22 vc (Cl : List (List Int)), blkE g (.cells #[I (q.Facts), vf, vg, va, I (n), I (w), vc] 84)]) (fun b => S b ∧ ¬ own [rowE 22 vc (Cl : List (List Int)), blkE g (.cells #[I (q.Facts), vf, vg, va, I (n), I (w), vc] 84)] b) [rowE 22 r109 ((c5 ++ [([-(factV q (nth ((nth q.Acts x).Bar) j) t), -(actV q n (x : Int) t)])]) : List (List Int)), blkE g (.cells #[I (q.Facts), vf, vg, va, I (n), I (w), r109] 84), blkE g67 (.cells #[u62n0, u62n1, u62n2, u62n3] 37), rdE u62n3 ((nth q.Acts x).Drop), rdE u62n2 ((nth q.Acts x).Add), rdE u62n1 ((nth q.Acts x).Bar), rdE u62n0 ((nth q.Acts x).Need), rdE va q.Acts] H113 from hS113)⟩
    omega
  rw [List.take_of_length_le (by omega)] at ej
  refine wpF_exit ?_
  refine atX_here ?_
  refine wpF_seq ?_
  refine wpF_seq ?_
  refine wpF_cut (fun f H => f 0 = PT g 0 ∧ f 1 = I (t) ∧ f 9 = PT g67 0 ∧ f 10 = I (-(actV q n (x : Int) t)) ∧ f 76 = va ∧ f 77 = I ((q.Acts.length : Int)) ∧ f 78 = I ((x : Int)) ∧ f 122 = u62n2 ∧ f 123 = I ((((nth q.Acts x).Add).length : Int)) ∧ f 124 = I (0) ∧ H97 = H) ?_ ?_
  · refine wpF_region ?_
    refine wpL_q (U := NoB) rfl (q_fieldAddr rfl Try.underlying37 rfl Try.sizeOf22 a98_9) ?_
    refine wpL_q (U := NoB) rfl (q_loadBlk rfl rfl Try.isAgg22 (hS97.blk 2 rfl) rfl (fun h => h)) ?_
    refine wpL_q (U := NoB) rfl (q_lenRd rfl Try.underlying22 rfl (hS97.rdl 4 rfl)) ?_
    refine wpL_q (U := NoB) rfl (q_move (v := I (0)) rfl rfl) ?_
    exact ⟨a98_0, a98_1, a98_9, a98_10, a98_76, a98_77, a98_78, rfl, rfl, rfl, rfl⟩
  rintro f115 _ ⟨a115_0, a115_1, a115_9, a115_10, a115_76, a115_77, a115_78, a115_122, a115_123, a115_124, rfl⟩
  clear a98_0 a98_1 a98_10 a98_105 a98_106 a98_107 a98_108 a98_76 a98_77 a98_78 a98_9
  refine wpF_block ?_
  refine wpF_loop (fun mz f H => ∃ (u : Nat), ∃ (c6 : List (List Int)), ∃ (v6 : Value), mz = (nth q.Acts x).Add.length - u ∧ (u ≤ (nth q.Acts x).Add.length) ∧ (c6.length ≤ c5.length + u) ∧ (c6 = c5 ++ tPos q (t + 1) (-actV q n x t) ((nth q.Acts x).Add.take u)) ∧ f 0 = PT g 0 ∧ f 1 = I (t) ∧ f 9 = PT g67 0 ∧ f 10 = I (-(actV q n (x : Int) t)) ∧ f 76 = va ∧ f 77 = I ((q.Acts.length : Int)) ∧ f 78 = I ((x : Int)) ∧ f 122 = u62n2 ∧ f 123 = I ((((nth q.Acts x).Add).length : Int)) ∧ f 124 = I ((u : Int)) ∧ St H0 (own [rowE 22 vc (Cl : List (List Int)), blkE g (.cells #[I (q.Facts), vf, vg, va, I (n), I (w), vc] 84)]) (fun b => S b ∧ ¬ own [rowE 22 vc (Cl : List (List Int)), blkE g (.cells #[I (q.Facts), vf, vg, va, I (n), I (w), vc] 84)] b) [rowE 22 v6 (c6 : List (List Int)), blkE g (.cells #[I (q.Facts), vf, vg, va, I (n), I (w), v6] 84), blkE g67 (.cells #[u62n0, u62n1, u62n2, u62n3] 37), rdE u62n3 ((nth q.Acts x).Drop), rdE u62n2 ((nth q.Acts x).Add), rdE u62n1 ((nth q.Acts x).Bar), rdE u62n0 ((nth q.Acts x).Need), rdE va q.Acts] H) ((nth q.Acts x).Add.length - 0) ?_ ?_
  · exact ⟨0, c5, v5, rfl, Nat.zero_le _, (Nat.le_refl _), (by simp [tPos, tNeg]), a115_0, a115_1, a115_9, a115_10, a115_76, a115_77, a115_78, a115_122, a115_123, (Eq.trans a115_124 (congrArg I (by omega))), hS97⟩
  intro m116 f116 H116 hI116
  obtain ⟨u, c6, v6, hm116, hu, lu, eu, a116_0, a116_1, a116_9, a116_10, a116_76, a116_77, a116_78, a116_122, a116_123, a116_124, hS116⟩ := hI116
  clear a115_0 a115_1 a115_10 a115_122 a115_123 a115_124 a115_76 a115_77 a115_78 a115_9
  refine wpF_seq ?_
  refine wpF_cut (fun f H => f 0 = PT g 0 ∧ f 1 = I (t) ∧ f 9 = PT g67 0 ∧ f 10 = I (-(actV q n (x : Int) t)) ∧ f 76 = va ∧ f 77 = I ((q.Acts.length : Int)) ∧ f 78 = I ((x : Int)) ∧ f 122 = u62n2 ∧ f 123 = I ((((nth q.Acts x).Add).length : Int)) ∧ f 124 = I ((u : Int)) ∧ f 125 = B (decide ((u : Int) < (((nth q.Acts x).Add).length : Int))) ∧ H116 = H) ?_ ?_
  · refine wpF_region ?_
    refine wpL_q (U := NoB) rfl (q_lss rfl a116_124 a116_123) ?_
    exact ⟨a116_0, a116_1, a116_9, a116_10, a116_76, a116_77, a116_78, a116_122, a116_123, a116_124, rfl, rfl⟩
  rintro f117 _ ⟨a117_0, a117_1, a117_9, a117_10, a117_76, a117_77, a117_78, a117_122, a117_123, a117_124, a117_125, rfl⟩
  clear a116_0 a116_1 a116_10 a116_122 a116_123 a116_124 a116_76 a116_77 a116_78 a116_9
  refine wpF_seq ?_
  refine wpF_condP a117_125 (fun c125 => ?t155) (fun c125 => ?e155)
  case t155 =>
    have hfr := hfm.1.2.mem (nth_mem (l := (nth q.Acts x).Add) (k := u) (by omega))
    have hfg := fact_rng hQ (f := nth (nth q.Acts x).Add u) (t := t + 1) (by omega) (by omega)
    refine wpF_skip ?_
    refine wpF_seq ?_
    refine wpF_block ?_
    refine wpF_seq ?_
    refine wpF_cut (fun f H => f 0 = PT g 0 ∧ f 1 = I (t) ∧ f 9 = PT g67 0 ∧ f 10 = I (-(actV q n (x : Int) t)) ∧ f 16 = I (nth ((nth q.Acts x).Add) u) ∧ f 76 = va ∧ f 77 = I ((q.Acts.length : Int)) ∧ f 78 = I ((x : Int)) ∧ f 122 = u62n2 ∧ f 123 = I ((((nth q.Acts x).Add).length : Int)) ∧ f 124 = I ((u : Int)) ∧ H116 = H) ?_ ?_
    · refine wpF_region ?_
      refine wpL_q (U := NoB) rfl (q_indexRd (k := u) rfl Try.underlying22 el_Int_3_StepT1 a117_122 a117_124 (hS116.rdl 4 rfl) (by omega) (by omega)) ?_
      refine wpL_q (U := NoB) rfl (q_loadInt (k := u) rfl rfl el_Int_3_StepT1 (hS116.rdl 4 rfl) (by omega) (fun _ h => h)) ?_
      refine wpL_q (U := NoB) rfl (q_assign (v := I (nth ((nth q.Acts x).Add) u)) rfl rfl) ?_
      exact ⟨a117_0, a117_1, a117_9, a117_10, rfl, a117_76, a117_77, a117_78, a117_122, a117_123, a117_124, rfl⟩
    rintro f119 _ ⟨a119_0, a119_1, a119_9, a119_10, a119_16, a119_76, a119_77, a119_78, a119_122, a119_123, a119_124, rfl⟩
    clear a117_0 a117_1 a117_10 a117_122 a117_123 a117_124 a117_125 a117_76 a117_77 a117_78 a117_9
    refine wpF_cut (fun f H => ∃ (r128 : Value), f 0 = PT g 0 ∧ f 1 = I (t) ∧ f 9 = PT g67 0 ∧ f 10 = I (-(actV q n (x : Int) t)) ∧ f 76 = va ∧ f 77 = I ((q.Acts.length : Int)) ∧ f 78 = I ((x : Int)) ∧ f 122 = u62n2 ∧ f 123 = I ((((nth q.Acts x).Add).length : Int)) ∧ f 124 = I ((u : Int)) ∧ St H0 (own [rowE 22 vc (Cl : List (List Int)), blkE g (.cells #[I (q.Facts), vf, vg, va, I (n), I (w), vc] 84)]) (fun b => S b ∧ ¬ own [rowE 22 vc (Cl : List (List Int)), blkE g (.cells #[I (q.Facts), vf, vg, va, I (n), I (w), vc] 84)] b) [rowE 22 r128 (c6 ++ [([factV q (nth ((nth q.Acts x).Add) u) (t + 1), -(actV q n (x : Int) t)])] : List (List Int)), blkE g (.cells #[I (q.Facts), vf, vg, va, I (n), I (w), r128] 84), blkE g67 (.cells #[u62n0, u62n1, u62n2, u62n3] 37), rdE u62n3 ((nth q.Acts x).Drop), rdE u62n2 ((nth q.Acts x).Add), rdE u62n1 ((nth q.Acts x).Bar), rdE u62n0 ((nth q.Acts x).Need), rdE va q.Acts] H) ?_ ?_
    · refine wpF_region ?_
      refine wpL_q (U := NoB) rfl (q_move (v := PT g 0) rfl a119_0) ?_
      refine wpL_q (U := NoB) rfl (q_move (v := PT g 0) rfl a119_0) ?_
      refine wpL_q (U := NoB) rfl (q_move (v := I (nth ((nth q.Acts x).Add) u)) rfl a119_16) ?_
      refine wpL_q (U := NoB) rfl (q_move (v := I (t)) rfl a119_1) ?_
      refine wpL_q (U := NoB) rfl (q_add rfl rfl rfl (by constructor <;> omega)) ?_
      refine wpL_o rfl ?_
      refine e_call rfl Try.call54 (arr3 (v0 := PT g 0) (v1 := I (nth ((nth q.Acts x).Add) u)) (v2 := I (t + 1)) rfl rfl rfl) (fact_E g vf vg va v6 q n w (nth ((nth q.Acts x).Add) u) (t + 1) (hS116.blk 1 rfl) (hS116.rdN 7 rfl) hQ hn (by omega) (by omega)) ?_
      rintro _ H120 ⟨hxx, rfl⟩
      have hS121 : St H0 (own [rowE 22 vc (Cl : List (List Int)), blkE g (.cells #[I (q.Facts), vf, vg, va, I (n), I (w), vc] 84)]) (fun b => S b ∧ ¬ own [rowE 22 vc (Cl : List (List Int)), blkE g (.cells #[I (q.Facts), vf, vg, va, I (n), I (w), vc] 84)] b) [rowE 22 v6 (c6 : List (List Int)), blkE g (.cells #[I (q.Facts), vf, vg, va, I (n), I (w), v6] 84), blkE g67 (.cells #[u62n0, u62n1, u62n2, u62n3] 37), rdE u62n3 ((nth q.Acts x).Drop), rdE u62n2 ((nth q.Acts x).Add), rdE u62n1 ((nth q.Acts x).Bar), rdE u62n0 ((nth q.Acts x).Need), rdE va q.Acts] H120 := hS116.ext hxx
      refine wpL_q (U := NoB) rfl (q_move (v := I (-(actV q n (x : Int) t))) rfl a119_10) ?_
      refine wpL_o rfl ?_
      refine e_buildSlice (vs := [I (factV q (nth ((nth q.Acts x).Add) u) (t + 1)), I (-(actV q n (x : Int) t))]) (xs := ([factV q (nth ((nth q.Acts x).Add) u) (t + 1), -(actV q n (x : Int) t)] : List Int)) rfl Try.underlying22 Try.zeroValue3 rfl Try.sizeOf3 (par2 (v0 := I (factV q (nth ((nth q.Acts x).Add) u) (t + 1))) (v1 := I (-(actV q n (x : Int) t))) rfl rfl) rfl hS121 (RdVs.cons (Rd.int.2 ⟨rfl, by first | assumption | (constructor <;> omega)⟩) (RdVs.cons (Rd.int.2 ⟨rfl, by first | assumption | (constructor <;> omega)⟩) (RdVs.nil))) (by decide) (by decide) (fun v123 H124 hS125 hxx hvv123 => ?_)
      replace hS125 : St H0 (own [rowE 22 vc (Cl : List (List Int)), blkE g (.cells #[I (q.Facts), vf, vg, va, I (n), I (w), vc] 84)]) (fun b => S b ∧ ¬ own [rowE 22 vc (Cl : List (List Int)), blkE g (.cells #[I (q.Facts), vf, vg, va, I (n), I (w), vc] 84)] b) [rowE 3 v123 ([factV q (nth ((nth q.Acts x).Add) u) (t + 1), -(actV q n (x : Int) t)] : List Int), rowE 22 v6 (c6 : List (List Int)), blkE g (.cells #[I (q.Facts), vf, vg, va, I (n), I (w), v6] 84), blkE g67 (.cells #[u62n0, u62n1, u62n2, u62n3] 37), rdE u62n3 ((nth q.Acts x).Drop), rdE u62n2 ((nth q.Acts x).Add), rdE u62n1 ((nth q.Acts x).Bar), rdE u62n0 ((nth q.Acts x).Need), rdE va q.Acts] H124 := hS125
      have hS126 : St H0 (own [rowE 22 vc (Cl : List (List Int)), blkE g (.cells #[I (q.Facts), vf, vg, va, I (n), I (w), vc] 84)]) (fun b => S b ∧ ¬ own [rowE 22 vc (Cl : List (List Int)), blkE g (.cells #[I (q.Facts), vf, vg, va, I (n), I (w), vc] 84)] b) [rdE v123 ([factV q (nth ((nth q.Acts x).Add) u) (t + 1), -(actV q n (x : Int) t)] : List Int), rowE 22 v6 (c6 : List (List Int)), blkE g (.cells #[I (q.Facts), vf, vg, va, I (n), I (w), v6] 84), blkE g67 (.cells #[u62n0, u62n1, u62n2, u62n3] 37), rdE u62n3 ((nth q.Acts x).Drop), rdE u62n2 ((nth q.Acts x).Add), rdE u62n1 ((nth q.Acts x).Bar), rdE u62n0 ((nth q.Acts x).Need), rdE va q.Acts] H124 := St.fin hS125
      have hS127 : St H0 (own [rowE 22 vc (Cl : List (List Int)), blkE g (.cells #[I (q.Facts), vf, vg, va, I (n), I (w), vc] 84)]) (fun b => S b ∧ ¬ own [rowE 22 vc (Cl : List (List Int)), blkE g (.cells #[I (q.Facts), vf, vg, va, I (n), I (w), vc] 84)] b) [rowE 22 v6 (c6 : List (List Int)), blkE g (.cells #[I (q.Facts), vf, vg, va, I (n), I (w), v6] 84), rdE v123 ([factV q (nth ((nth q.Acts x).Add) u) (t + 1), -(actV q n (x : Int) t)] : List Int), blkE g67 (.cells #[u62n0, u62n1, u62n2, u62n3] 37), rdE u62n3 ((nth q.Acts x).Drop), rdE u62n2 ((nth q.Acts x).Add), rdE u62n1 ((nth q.Acts x).Bar), rdE u62n0 ((nth q.Acts x).Need), rdE va q.Acts] H124 := (St.drop (show St H0 (own [rowE 22 vc (Cl : List (List Int)), blkE g (.cells #[I (q.Facts), vf, vg, va, I (n), I (w), vc] 84)]) (fun b => S b ∧ ¬ own [rowE 22 vc (Cl : List (List Int)), blkE g (.cells #[I (q.Facts), vf, vg, va, I (n), I (w), vc] 84)] b) [rowE 22 v6 (c6 : List (List Int)), blkE g (.cells #[I (q.Facts), vf, vg, va, I (n), I (w), v6] 84), rdE v123 ([factV q (nth ((nth q.Acts x).Add) u) (t + 1), -(actV q n (x : Int) t)] : List Int), blkE g67 (.cells #[u62n0, u62n1, u62n2, u62n3] 37), rdE u62n3 ((nth q.Acts x).Drop), rdE u62n2 ((nth q.Acts x).Add), rdE u62n1 ((nth q.Acts x).Bar), rdE u62n0 ((nth q.Acts x).Need), rdE va q.Acts] H124 from ((hS126.front 2 rfl).front 2 rfl)) (sk (sk (sk (sk (sk (sk (sk (sk (sk (List.Sublist.slnil)))))))))))
      refine wpL_o rfl ?_
      refine e_call rfl Try.call53 (arr2 (v0 := PT g 0) (v1 := v123) rfl rfl) (add_E _ g vf vg va v6 v123 q n w c6 ([factV q (nth ((nth q.Acts x).Add) u) (t + 1), -(actV q n (x : Int) t)]) (fun e he => hS127.ok e (List.mem_append_left [rdE v123 ([factV q (nth ((nth q.Acts x).Add) u) (t + 1), -(actV q n (x : Int) t)] : List Int), blkE g67 (.cells #[u62n0, u62n1, u62n2, u62n3] 37), rdE u62n3 ((nth q.Acts x).Drop), rdE u62n2 ((nth q.Acts x).Add), rdE u62n1 ((nth q.Acts x).Bar), rdE u62n0 ((nth q.Acts x).Need), rdE va q.Acts] he)) (fun b hb => SL.lt hS127 hb) (fun b ⟨e, he, hb⟩ => .inr ⟨e, List.mem_append_left [rdE v123 ([factV q (nth ((nth q.Acts x).Add) u) (t + 1), -(actV q n (x : Int) t)] : List Int), blkE g67 (.cells #[u62n0, u62n1, u62n2, u62n3] 37), rdE u62n3 ((nth q.Acts x).Drop), rdE u62n2 ((nth q.Acts x).Add), rdE u62n1 ((nth q.Acts x).Bar), rdE u62n0 ((nth q.Acts x).Need), rdE va q.Acts] he, hb⟩) (fun b hb e => hS127.dis 0 1 (by decide) rfl rfl b hb e) (hS127.rdS 2 rfl) (by first | omega | (simp only [List.length_append, List.length_singleton]; omega))) ?_
      rintro _ H129 ⟨hxx, r128, rfl, hgo⟩
      have hS130 : St H0 (own [rowE 22 vc (Cl : List (List Int)), blkE g (.cells #[I (q.Facts), vf, vg, va, I (n), I (w), vc] 84)]) (fun b => S b ∧ ¬ own [rowE 22 vc (Cl : List (List Int)), blkE g (.cells #[I (q.Facts), vf, vg, va, I (n), I (w), vc] 84)] b) [rowE 22 r128 (c6 ++ [([factV q (nth ((nth q.Acts x).Add) u) (t + 1), -(actV q n (x : Int) t)])] : List (List Int)), blkE g (.cells #[I (q.Facts), vf, vg, va, I (n), I (w), r128] 84), rdE v123 ([factV q (nth ((nth q.Acts x).Add) u) (t + 1), -(actV q n (x : Int) t)] : List Int), blkE g67 (.cells #[u62n0, u62n1, u62n2, u62n3] 37), rdE u62n3 ((nth q.Acts x).Drop), rdE u62n2 ((nth q.Acts x).Add), rdE u62n1 ((nth q.Acts x).Bar), rdE u62n0 ((nth q.Acts x).Need), rdE va q.Acts] H129 := St.back3 (A := [rowE 22 v6 (c6 : List (List Int)), blkE g (.cells #[I (q.Facts), vf, vg, va, I (n), I (w), v6] 84)]) (A' := [rowE 22 r128 (c6 ++ [([factV q (nth ((nth q.Acts x).Add) u) (t + 1), -(actV q n (x : Int) t)])] : List (List Int)), blkE g (.cells #[I (q.Facts), vf, vg, va, I (n), I (w), r128] 84)]) (L := [rdE v123 ([factV q (nth ((nth q.Acts x).Add) u) (t + 1), -(actV q n (x : Int) t)] : List Int), blkE g67 (.cells #[u62n0, u62n1, u62n2, u62n3] 37), rdE u62n3 ((nth q.Acts x).Drop), rdE u62n2 ((nth q.Acts x).Add), rdE u62n1 ((nth q.Acts x).Bar), rdE u62n0 ((nth q.Acts x).Need), rdE va q.Acts]) hS127 hxx hgo
      exact ⟨r128, a119_0, a119_1, a119_9, a119_10, a119_76, a119_77, a119_78, a119_122, a119_123, a119_124, (hS130.drop (sk (sk (sn (sk (sk (sk (sk (sk (sk (List.Sublist.slnil)))))))))))⟩
    rintro f132 H132 ⟨r128, a132_0, a132_1, a132_9, a132_10, a132_76, a132_77, a132_78, a132_122, a132_123, a132_124, hS132⟩
    clear a119_0 a119_1 a119_10 a119_122 a119_123 a119_124 a119_16 a119_76 a119_77 a119_78 a119_9
    refine wpF_cut (fun f H => f 0 = PT g 0 ∧ f 1 = I (t) ∧ f 9 = PT g67 0 ∧ f 10 = I (-(actV q n (x : Int) t)) ∧ f 76 = va ∧ f 77 = I ((q.Acts.length : Int)) ∧ f 78 = I ((x : Int)) ∧ f 122 = u62n2 ∧ f 123 = I ((((nth q.Acts x).Add).length : Int)) ∧ f 124 = I ((u : Int) + 1) ∧ H132 = H) ?_ ?_
    · refine wpF_region ?_
      refine wpL_q (U := NoB) rfl (q_add rfl a132_124 rfl (by constructor <;> omega)) ?_
      refine wpL_q (U := NoB) rfl (q_move (v := I ((u : Int) + 1)) rfl rfl) ?_
      exact ⟨a132_0, a132_1, a132_9, a132_10, a132_76, a132_77, a132_78, a132_122, a132_123, rfl, rfl⟩
    rintro f133 _ ⟨a133_0, a133_1, a133_9, a133_10, a133_76, a133_77, a133_78, a133_122, a133_123, a133_124, rfl⟩
    clear a132_0 a132_1 a132_10 a132_122 a132_123 a132_124 a132_76 a132_77 a132_78 a132_9
    refine ⟨_, ?_, u + 1, c6 ++ [([factV q (nth ((nth q.Acts x).Add) u) (t + 1), -(actV q n (x : Int) t)])], r128, rfl, (by omega), (by rw [List.length_append, List.length_singleton]; omega), (by rw [eu, tPos_next (by omega), List.append_assoc]), a133_0, a133_1, a133_9, a133_10, a133_76, a133_77, a133_78, a133_122, a133_123, (Eq.trans a133_124 (congrArg I (by omega))), (show St H0 (own [rowE 22 vc (Cl : List (List Int)), blkE g (.cells #[I (q.Facts), vf, vg, va, I (n), I (w), vc] 84)]) (fun b => S b ∧ ¬ own [rowE 22 vc (Cl : List (List Int)), blkE g (.cells #[I (q.Facts), vf, vg, va, I (n), I (w), vc] 84)] b) [rowE 22 r128 ((c6 ++ [([factV q (nth ((nth q.Acts x).Add) u) (t + 1), -(actV q n (x : Int) t)])]) : List (List Int)), blkE g (.cells #[I (q.Facts), vf, vg, va, I (n), I (w), r128] 84), blkE g67 (.cells #[u62n0, u62n1, u62n2, u62n3] 37), rdE u62n3 ((nth q.Acts x).Drop), rdE u62n2 ((nth q.Acts x).Add), rdE u62n1 ((nth q.Acts x).Bar), rdE u62n0 ((nth q.Acts x).Need), rdE va q.Acts] H132 from hS132)⟩
    omega
  rw [List.take_of_length_le (by omega)] at eu
  refine wpF_exit ?_
  refine atX_here ?_
  refine wpF_seq ?_
  refine wpF_cut (fun f H => f 0 = PT g 0 ∧ f 1 = I (t) ∧ f 10 = I (-(actV q n (x : Int) t)) ∧ f 76 = va ∧ f 77 = I ((q.Acts.length : Int)) ∧ f 78 = I ((x : Int)) ∧ f 139 = u62n3 ∧ f 140 = I ((((nth q.Acts x).Drop).length : Int)) ∧ f 141 = I (0) ∧ H116 = H) ?_ ?_
  · refine wpF_region ?_
    refine wpL_q (U := NoB) rfl (q_fieldAddr rfl Try.underlying37 rfl Try.sizeOf22 a117_9) ?_
    refine wpL_q (U := NoB) rfl (q_loadBlk rfl rfl Try.isAgg22 (hS116.blk 2 rfl) rfl (fun h => h)) ?_
    refine wpL_q (U := NoB) rfl (q_lenRd rfl Try.underlying22 rfl (hS116.rdl 3 rfl)) ?_
    refine wpL_q (U := NoB) rfl (q_move (v := I (0)) rfl rfl) ?_
    exact ⟨a117_0, a117_1, a117_10, a117_76, a117_77, a117_78, rfl, rfl, rfl, rfl⟩
  rintro f134 _ ⟨a134_0, a134_1, a134_10, a134_76, a134_77, a134_78, a134_139, a134_140, a134_141, rfl⟩
  clear a117_0 a117_1 a117_10 a117_122 a117_123 a117_124 a117_125 a117_76 a117_77 a117_78 a117_9
  refine wpF_block ?_
  refine wpF_loop (fun mz f H => ∃ (v : Nat), ∃ (c7 : List (List Int)), ∃ (v7 : Value), mz = (nth q.Acts x).Drop.length - v ∧ (v ≤ (nth q.Acts x).Drop.length) ∧ (c7.length ≤ c6.length + v) ∧ (c7 = c6 ++ tNeg q (t + 1) (-actV q n x t) ((nth q.Acts x).Drop.take v)) ∧ f 0 = PT g 0 ∧ f 1 = I (t) ∧ f 10 = I (-(actV q n (x : Int) t)) ∧ f 76 = va ∧ f 77 = I ((q.Acts.length : Int)) ∧ f 78 = I ((x : Int)) ∧ f 139 = u62n3 ∧ f 140 = I ((((nth q.Acts x).Drop).length : Int)) ∧ f 141 = I ((v : Int)) ∧ St H0 (own [rowE 22 vc (Cl : List (List Int)), blkE g (.cells #[I (q.Facts), vf, vg, va, I (n), I (w), vc] 84)]) (fun b => S b ∧ ¬ own [rowE 22 vc (Cl : List (List Int)), blkE g (.cells #[I (q.Facts), vf, vg, va, I (n), I (w), vc] 84)] b) [rowE 22 v7 (c7 : List (List Int)), blkE g (.cells #[I (q.Facts), vf, vg, va, I (n), I (w), v7] 84), blkE g67 (.cells #[u62n0, u62n1, u62n2, u62n3] 37), rdE u62n3 ((nth q.Acts x).Drop), rdE u62n2 ((nth q.Acts x).Add), rdE u62n1 ((nth q.Acts x).Bar), rdE u62n0 ((nth q.Acts x).Need), rdE va q.Acts] H) ((nth q.Acts x).Drop.length - 0) ?_ ?_
  · exact ⟨0, c6, v6, rfl, Nat.zero_le _, (Nat.le_refl _), (by simp [tPos, tNeg]), a134_0, a134_1, a134_10, a134_76, a134_77, a134_78, a134_139, a134_140, (Eq.trans a134_141 (congrArg I (by omega))), hS116⟩
  intro m135 f135 H135 hI135
  obtain ⟨v, c7, v7, hm135, hv, lv, ev, a135_0, a135_1, a135_10, a135_76, a135_77, a135_78, a135_139, a135_140, a135_141, hS135⟩ := hI135
  clear a134_0 a134_1 a134_10 a134_139 a134_140 a134_141 a134_76 a134_77 a134_78
  refine wpF_seq ?_
  refine wpF_cut (fun f H => f 0 = PT g 0 ∧ f 1 = I (t) ∧ f 10 = I (-(actV q n (x : Int) t)) ∧ f 76 = va ∧ f 77 = I ((q.Acts.length : Int)) ∧ f 78 = I ((x : Int)) ∧ f 139 = u62n3 ∧ f 140 = I ((((nth q.Acts x).Drop).length : Int)) ∧ f 141 = I ((v : Int)) ∧ f 142 = B (decide ((v : Int) < (((nth q.Acts x).Drop).length : Int))) ∧ H135 = H) ?_ ?_
  · refine wpF_region ?_
    refine wpL_q (U := NoB) rfl (q_lss rfl a135_141 a135_140) ?_
    exact ⟨a135_0, a135_1, a135_10, a135_76, a135_77, a135_78, a135_139, a135_140, a135_141, rfl, rfl⟩
  rintro f136 _ ⟨a136_0, a136_1, a136_10, a136_76, a136_77, a136_78, a136_139, a136_140, a136_141, a136_142, rfl⟩
  clear a135_0 a135_1 a135_10 a135_139 a135_140 a135_141 a135_76 a135_77 a135_78
  refine wpF_seq ?_
  refine wpF_condP a136_142 (fun c142 => ?t154) (fun c142 => ?e154)
  case e154 =>
    rw [List.take_of_length_le (by omega)] at ev
    refine wpF_exit ?_
    refine atX_here ?_
    refine wpF_cut (fun f H => f 0 = PT g 0 ∧ f 1 = I (t) ∧ f 76 = va ∧ f 77 = I ((q.Acts.length : Int)) ∧ f 78 = I ((x : Int) + 1) ∧ H135 = H) ?_ ?_
    · refine wpF_region ?_
      refine wpL_q (U := NoB) rfl (q_add rfl a136_78 rfl (by constructor <;> omega)) ?_
      refine wpL_q (U := NoB) rfl (q_move (v := I ((x : Int) + 1)) rfl rfl) ?_
      exact ⟨a136_0, a136_1, a136_76, a136_77, rfl, rfl⟩
    rintro f153 _ ⟨a153_0, a153_1, a153_76, a153_77, a153_78, rfl⟩
    clear a136_0 a136_1 a136_10 a136_139 a136_140 a136_141 a136_142 a136_76 a136_77 a136_78
    refine ⟨_, ?_, x + 1, c7, v7, rfl, (by omega), (by omega), (by rw [ev, eu, ej, ei, h3, tActs_next, tAct]; simp [List.append_assoc]), a153_0, a153_1, a153_76, a153_77, (Eq.trans a153_78 (congrArg I (by omega))), (hS135.drop (sk (sk (sn (sn (sn (sn (sn (sk (List.Sublist.slnil))))))))))⟩
    omega
  have hfr := hfm.2.mem (nth_mem (l := (nth q.Acts x).Drop) (k := v) (by omega))
  have hfg := fact_rng hQ (f := nth (nth q.Acts x).Drop v) (t := t + 1) (by omega) (by omega)
  refine wpF_skip ?_
  refine wpF_seq ?_
  refine wpF_block ?_
  refine wpF_seq ?_
  refine wpF_cut (fun f H => f 0 = PT g 0 ∧ f 1 = I (t) ∧ f 10 = I (-(actV q n (x : Int) t)) ∧ f 18 = I (nth ((nth q.Acts x).Drop) v) ∧ f 76 = va ∧ f 77 = I ((q.Acts.length : Int)) ∧ f 78 = I ((x : Int)) ∧ f 139 = u62n3 ∧ f 140 = I ((((nth q.Acts x).Drop).length : Int)) ∧ f 141 = I ((v : Int)) ∧ H135 = H) ?_ ?_
  · refine wpF_region ?_
    refine wpL_q (U := NoB) rfl (q_indexRd (k := v) rfl Try.underlying22 el_Int_3_StepT1 a136_139 a136_141 (hS135.rdl 3 rfl) (by omega) (by omega)) ?_
    refine wpL_q (U := NoB) rfl (q_loadInt (k := v) rfl rfl el_Int_3_StepT1 (hS135.rdl 3 rfl) (by omega) (fun _ h => h)) ?_
    refine wpL_q (U := NoB) rfl (q_assign (v := I (nth ((nth q.Acts x).Drop) v)) rfl rfl) ?_
    exact ⟨a136_0, a136_1, a136_10, rfl, a136_76, a136_77, a136_78, a136_139, a136_140, a136_141, rfl⟩
  rintro f138 _ ⟨a138_0, a138_1, a138_10, a138_18, a138_76, a138_77, a138_78, a138_139, a138_140, a138_141, rfl⟩
  clear a136_0 a136_1 a136_10 a136_139 a136_140 a136_141 a136_142 a136_76 a136_77 a136_78
  refine wpF_cut (fun f H => ∃ (r147 : Value), f 0 = PT g 0 ∧ f 1 = I (t) ∧ f 10 = I (-(actV q n (x : Int) t)) ∧ f 76 = va ∧ f 77 = I ((q.Acts.length : Int)) ∧ f 78 = I ((x : Int)) ∧ f 139 = u62n3 ∧ f 140 = I ((((nth q.Acts x).Drop).length : Int)) ∧ f 141 = I ((v : Int)) ∧ St H0 (own [rowE 22 vc (Cl : List (List Int)), blkE g (.cells #[I (q.Facts), vf, vg, va, I (n), I (w), vc] 84)]) (fun b => S b ∧ ¬ own [rowE 22 vc (Cl : List (List Int)), blkE g (.cells #[I (q.Facts), vf, vg, va, I (n), I (w), vc] 84)] b) [rowE 22 r147 (c7 ++ [([-(factV q (nth ((nth q.Acts x).Drop) v) (t + 1)), -(actV q n (x : Int) t)])] : List (List Int)), blkE g (.cells #[I (q.Facts), vf, vg, va, I (n), I (w), r147] 84), blkE g67 (.cells #[u62n0, u62n1, u62n2, u62n3] 37), rdE u62n3 ((nth q.Acts x).Drop), rdE u62n2 ((nth q.Acts x).Add), rdE u62n1 ((nth q.Acts x).Bar), rdE u62n0 ((nth q.Acts x).Need), rdE va q.Acts] H) ?_ ?_
  · refine wpF_region ?_
    refine wpL_q (U := NoB) rfl (q_move (v := PT g 0) rfl a138_0) ?_
    refine wpL_q (U := NoB) rfl (q_move (v := PT g 0) rfl a138_0) ?_
    refine wpL_q (U := NoB) rfl (q_move (v := I (nth ((nth q.Acts x).Drop) v)) rfl a138_18) ?_
    refine wpL_q (U := NoB) rfl (q_move (v := I (t)) rfl a138_1) ?_
    refine wpL_q (U := NoB) rfl (q_add rfl rfl rfl (by constructor <;> omega)) ?_
    refine wpL_o rfl ?_
    refine e_call rfl Try.call54 (arr3 (v0 := PT g 0) (v1 := I (nth ((nth q.Acts x).Drop) v)) (v2 := I (t + 1)) rfl rfl rfl) (fact_E g vf vg va v7 q n w (nth ((nth q.Acts x).Drop) v) (t + 1) (hS135.blk 1 rfl) (hS135.rdN 7 rfl) hQ hn (by omega) (by omega)) ?_
    rintro _ H139 ⟨hxx, rfl⟩
    have hS140 : St H0 (own [rowE 22 vc (Cl : List (List Int)), blkE g (.cells #[I (q.Facts), vf, vg, va, I (n), I (w), vc] 84)]) (fun b => S b ∧ ¬ own [rowE 22 vc (Cl : List (List Int)), blkE g (.cells #[I (q.Facts), vf, vg, va, I (n), I (w), vc] 84)] b) [rowE 22 v7 (c7 : List (List Int)), blkE g (.cells #[I (q.Facts), vf, vg, va, I (n), I (w), v7] 84), blkE g67 (.cells #[u62n0, u62n1, u62n2, u62n3] 37), rdE u62n3 ((nth q.Acts x).Drop), rdE u62n2 ((nth q.Acts x).Add), rdE u62n1 ((nth q.Acts x).Bar), rdE u62n0 ((nth q.Acts x).Need), rdE va q.Acts] H139 := hS135.ext hxx
    refine wpL_q (U := NoB) rfl (q_neg rfl rfl (by constructor <;> omega)) ?_
    refine wpL_q (U := NoB) rfl (q_move (v := I (-(actV q n (x : Int) t))) rfl a138_10) ?_
    refine wpL_o rfl ?_
    refine e_buildSlice (vs := [I (-(factV q (nth ((nth q.Acts x).Drop) v) (t + 1))), I (-(actV q n (x : Int) t))]) (xs := ([-(factV q (nth ((nth q.Acts x).Drop) v) (t + 1)), -(actV q n (x : Int) t)] : List Int)) rfl Try.underlying22 Try.zeroValue3 rfl Try.sizeOf3 (par2 (v0 := I (-(factV q (nth ((nth q.Acts x).Drop) v) (t + 1)))) (v1 := I (-(actV q n (x : Int) t))) rfl rfl) rfl hS140 (RdVs.cons (Rd.int.2 ⟨rfl, by first | assumption | (constructor <;> omega)⟩) (RdVs.cons (Rd.int.2 ⟨rfl, by first | assumption | (constructor <;> omega)⟩) (RdVs.nil))) (by decide) (by decide) (fun v142 H143 hS144 hxx hvv142 => ?_)
    replace hS144 : St H0 (own [rowE 22 vc (Cl : List (List Int)), blkE g (.cells #[I (q.Facts), vf, vg, va, I (n), I (w), vc] 84)]) (fun b => S b ∧ ¬ own [rowE 22 vc (Cl : List (List Int)), blkE g (.cells #[I (q.Facts), vf, vg, va, I (n), I (w), vc] 84)] b) [rowE 3 v142 ([-(factV q (nth ((nth q.Acts x).Drop) v) (t + 1)), -(actV q n (x : Int) t)] : List Int), rowE 22 v7 (c7 : List (List Int)), blkE g (.cells #[I (q.Facts), vf, vg, va, I (n), I (w), v7] 84), blkE g67 (.cells #[u62n0, u62n1, u62n2, u62n3] 37), rdE u62n3 ((nth q.Acts x).Drop), rdE u62n2 ((nth q.Acts x).Add), rdE u62n1 ((nth q.Acts x).Bar), rdE u62n0 ((nth q.Acts x).Need), rdE va q.Acts] H143 := hS144
    have hS145 : St H0 (own [rowE 22 vc (Cl : List (List Int)), blkE g (.cells #[I (q.Facts), vf, vg, va, I (n), I (w), vc] 84)]) (fun b => S b ∧ ¬ own [rowE 22 vc (Cl : List (List Int)), blkE g (.cells #[I (q.Facts), vf, vg, va, I (n), I (w), vc] 84)] b) [rdE v142 ([-(factV q (nth ((nth q.Acts x).Drop) v) (t + 1)), -(actV q n (x : Int) t)] : List Int), rowE 22 v7 (c7 : List (List Int)), blkE g (.cells #[I (q.Facts), vf, vg, va, I (n), I (w), v7] 84), blkE g67 (.cells #[u62n0, u62n1, u62n2, u62n3] 37), rdE u62n3 ((nth q.Acts x).Drop), rdE u62n2 ((nth q.Acts x).Add), rdE u62n1 ((nth q.Acts x).Bar), rdE u62n0 ((nth q.Acts x).Need), rdE va q.Acts] H143 := St.fin hS144
    have hS146 : St H0 (own [rowE 22 vc (Cl : List (List Int)), blkE g (.cells #[I (q.Facts), vf, vg, va, I (n), I (w), vc] 84)]) (fun b => S b ∧ ¬ own [rowE 22 vc (Cl : List (List Int)), blkE g (.cells #[I (q.Facts), vf, vg, va, I (n), I (w), vc] 84)] b) [rowE 22 v7 (c7 : List (List Int)), blkE g (.cells #[I (q.Facts), vf, vg, va, I (n), I (w), v7] 84), rdE v142 ([-(factV q (nth ((nth q.Acts x).Drop) v) (t + 1)), -(actV q n (x : Int) t)] : List Int), blkE g67 (.cells #[u62n0, u62n1, u62n2, u62n3] 37), rdE u62n3 ((nth q.Acts x).Drop), rdE u62n2 ((nth q.Acts x).Add), rdE u62n1 ((nth q.Acts x).Bar), rdE u62n0 ((nth q.Acts x).Need), rdE va q.Acts] H143 := (St.drop (show St H0 (own [rowE 22 vc (Cl : List (List Int)), blkE g (.cells #[I (q.Facts), vf, vg, va, I (n), I (w), vc] 84)]) (fun b => S b ∧ ¬ own [rowE 22 vc (Cl : List (List Int)), blkE g (.cells #[I (q.Facts), vf, vg, va, I (n), I (w), vc] 84)] b) [rowE 22 v7 (c7 : List (List Int)), blkE g (.cells #[I (q.Facts), vf, vg, va, I (n), I (w), v7] 84), rdE v142 ([-(factV q (nth ((nth q.Acts x).Drop) v) (t + 1)), -(actV q n (x : Int) t)] : List Int), blkE g67 (.cells #[u62n0, u62n1, u62n2, u62n3] 37), rdE u62n3 ((nth q.Acts x).Drop), rdE u62n2 ((nth q.Acts x).Add), rdE u62n1 ((nth q.Acts x).Bar), rdE u62n0 ((nth q.Acts x).Need), rdE va q.Acts] H143 from ((hS145.front 2 rfl).front 2 rfl)) (sk (sk (sk (sk (sk (sk (sk (sk (sk (List.Sublist.slnil)))))))))))
    refine wpL_o rfl ?_
    refine e_call rfl Try.call53 (arr2 (v0 := PT g 0) (v1 := v142) rfl rfl) (add_E _ g vf vg va v7 v142 q n w c7 ([-(factV q (nth ((nth q.Acts x).Drop) v) (t + 1)), -(actV q n (x : Int) t)]) (fun e he => hS146.ok e (List.mem_append_left [rdE v142 ([-(factV q (nth ((nth q.Acts x).Drop) v) (t + 1)), -(actV q n (x : Int) t)] : List Int), blkE g67 (.cells #[u62n0, u62n1, u62n2, u62n3] 37), rdE u62n3 ((nth q.Acts x).Drop), rdE u62n2 ((nth q.Acts x).Add), rdE u62n1 ((nth q.Acts x).Bar), rdE u62n0 ((nth q.Acts x).Need), rdE va q.Acts] he)) (fun b hb => SL.lt hS146 hb) (fun b ⟨e, he, hb⟩ => .inr ⟨e, List.mem_append_left [rdE v142 ([-(factV q (nth ((nth q.Acts x).Drop) v) (t + 1)), -(actV q n (x : Int) t)] : List Int), blkE g67 (.cells #[u62n0, u62n1, u62n2, u62n3] 37), rdE u62n3 ((nth q.Acts x).Drop), rdE u62n2 ((nth q.Acts x).Add), rdE u62n1 ((nth q.Acts x).Bar), rdE u62n0 ((nth q.Acts x).Need), rdE va q.Acts] he, hb⟩) (fun b hb e => hS146.dis 0 1 (by decide) rfl rfl b hb e) (hS146.rdS 2 rfl) (by first | omega | (simp only [List.length_append, List.length_singleton]; omega))) ?_
    rintro _ H148 ⟨hxx, r147, rfl, hgo⟩
    have hS149 : St H0 (own [rowE 22 vc (Cl : List (List Int)), blkE g (.cells #[I (q.Facts), vf, vg, va, I (n), I (w), vc] 84)]) (fun b => S b ∧ ¬ own [rowE 22 vc (Cl : List (List Int)), blkE g (.cells #[I (q.Facts), vf, vg, va, I (n), I (w), vc] 84)] b) [rowE 22 r147 (c7 ++ [([-(factV q (nth ((nth q.Acts x).Drop) v) (t + 1)), -(actV q n (x : Int) t)])] : List (List Int)), blkE g (.cells #[I (q.Facts), vf, vg, va, I (n), I (w), r147] 84), rdE v142 ([-(factV q (nth ((nth q.Acts x).Drop) v) (t + 1)), -(actV q n (x : Int) t)] : List Int), blkE g67 (.cells #[u62n0, u62n1, u62n2, u62n3] 37), rdE u62n3 ((nth q.Acts x).Drop), rdE u62n2 ((nth q.Acts x).Add), rdE u62n1 ((nth q.Acts x).Bar), rdE u62n0 ((nth q.Acts x).Need), rdE va q.Acts] H148 := St.back3 (A := [rowE 22 v7 (c7 : List (List Int)), blkE g (.cells #[I (q.Facts), vf, vg, va, I (n), I (w), v7] 84)]) (A' := [rowE 22 r147 (c7 ++ [([-(factV q (nth ((nth q.Acts x).Drop) v) (t + 1)), -(actV q n (x : Int) t)])] : List (List Int)), blkE g (.cells #[I (q.Facts), vf, vg, va, I (n), I (w), r147] 84)]) (L := [rdE v142 ([-(factV q (nth ((nth q.Acts x).Drop) v) (t + 1)), -(actV q n (x : Int) t)] : List Int), blkE g67 (.cells #[u62n0, u62n1, u62n2, u62n3] 37), rdE u62n3 ((nth q.Acts x).Drop), rdE u62n2 ((nth q.Acts x).Add), rdE u62n1 ((nth q.Acts x).Bar), rdE u62n0 ((nth q.Acts x).Need), rdE va q.Acts]) hS146 hxx hgo
    exact ⟨r147, a138_0, a138_1, a138_10, a138_76, a138_77, a138_78, a138_139, a138_140, a138_141, (hS149.drop (sk (sk (sn (sk (sk (sk (sk (sk (sk (List.Sublist.slnil)))))))))))⟩
  rintro f151 H151 ⟨r147, a151_0, a151_1, a151_10, a151_76, a151_77, a151_78, a151_139, a151_140, a151_141, hS151⟩
  clear a138_0 a138_1 a138_10 a138_139 a138_140 a138_141 a138_18 a138_76 a138_77 a138_78
  refine wpF_cut (fun f H => f 0 = PT g 0 ∧ f 1 = I (t) ∧ f 10 = I (-(actV q n (x : Int) t)) ∧ f 76 = va ∧ f 77 = I ((q.Acts.length : Int)) ∧ f 78 = I ((x : Int)) ∧ f 139 = u62n3 ∧ f 140 = I ((((nth q.Acts x).Drop).length : Int)) ∧ f 141 = I ((v : Int) + 1) ∧ H151 = H) ?_ ?_
  · refine wpF_region ?_
    refine wpL_q (U := NoB) rfl (q_add rfl a151_141 rfl (by constructor <;> omega)) ?_
    refine wpL_q (U := NoB) rfl (q_move (v := I ((v : Int) + 1)) rfl rfl) ?_
    exact ⟨a151_0, a151_1, a151_10, a151_76, a151_77, a151_78, a151_139, a151_140, rfl, rfl⟩
  rintro f152 _ ⟨a152_0, a152_1, a152_10, a152_76, a152_77, a152_78, a152_139, a152_140, a152_141, rfl⟩
  clear a151_0 a151_1 a151_10 a151_139 a151_140 a151_141 a151_76 a151_77 a151_78
  refine ⟨_, ?_, v + 1, c7 ++ [([-(factV q (nth ((nth q.Acts x).Drop) v) (t + 1)), -(actV q n (x : Int) t)])], r147, rfl, (by omega), (by rw [List.length_append, List.length_singleton]; omega), (by rw [ev, tNeg_next (by omega), List.append_assoc]), a152_0, a152_1, a152_10, a152_76, a152_77, a152_78, a152_139, a152_140, (Eq.trans a152_141 (congrArg I (by omega))), (show St H0 (own [rowE 22 vc (Cl : List (List Int)), blkE g (.cells #[I (q.Facts), vf, vg, va, I (n), I (w), vc] 84)]) (fun b => S b ∧ ¬ own [rowE 22 vc (Cl : List (List Int)), blkE g (.cells #[I (q.Facts), vf, vg, va, I (n), I (w), vc] 84)] b) [rowE 22 r147 ((c7 ++ [([-(factV q (nth ((nth q.Acts x).Drop) v) (t + 1)), -(actV q n (x : Int) t)])]) : List (List Int)), blkE g (.cells #[I (q.Facts), vf, vg, va, I (n), I (w), r147] 84), blkE g67 (.cells #[u62n0, u62n1, u62n2, u62n3] 37), rdE u62n3 ((nth q.Acts x).Drop), rdE u62n2 ((nth q.Acts x).Add), rdE u62n1 ((nth q.Acts x).Bar), rdE u62n0 ((nth q.Acts x).Need), rdE va q.Acts] H151 from hS151)⟩
  omega

end Go.Um
