import Derived.Test.YtpdcejallbbncaaProg
import Derived.Test.YtpdcejallbbncaaStepD1
import Derived.Test.YtpdcejallbbncaaUmSub
namespace Go.Um
open Go.Proofs
open GoT (sz ag rdc)
open KeyT (kv)

theorem el_Bool_4_StepB1 : ElT Try.prog Bool 4 := ⟨Try.isAgg4, Try.sizeOf4⟩
theorem em_Int_3_StepB1 : ElemOk Try.prog Int 3 := ⟨Try.t3, (.int .i64 0), by kernel_rfl, by kernel_rfl, by kernel_rfl, by kernel_rfl, by kernel_rfl⟩

set_option maxHeartbeats 4000000 in
set_option maxRecDepth 100000 in
theorem Back_E {H0 : Heap} {S : Nat → Prop} (vf vg va vh : Value) (q : Quest) (n : Int) (holds : List Bool) (h6qFacts : In64 q.Facts) (rvf : Rd S H0 vf q.First) (rvg : Rd S H0 vg q.Goal) (rva : Rd S H0 va q.Acts) (rh : Rd S H0 vh holds) (hni : In64 n) : CallsH Try.prog 33 #[Value.agg #[I (q.Facts), vf, vg, va], I (n), vh] H0 (fun rv_ H' => Ext NoB H0 H' ∧ ∃ w_, rv_ = Value.tuple #[w_, Value.agg #[I (backF q n holds).1, I (backF q n holds).2]] ∧ Rd (fun b => S b ∧ b < H0.size) H' w_ (backP q n holds)) := by
  have hsa := (Rd.list.1 rva).small
  have hsh := (Rd.list.1 rh).small
  have hS0 : St H0 NoB (fun b => S b ∧ b < H0.size) [rdE vf q.First, rdE vg q.Goal, rdE va q.Acts, rdE vh holds] H0 := St.arg (St.arg (St.arg (St.arg (St.start (fun _ h => h.2)) (Bl0.nil) rh (fun _ h => h.1)) (Bl0.cons (Bl0.nil)) rva (fun _ h => h.1)) (Bl0.cons (Bl0.cons (Bl0.nil))) rvg (fun _ h => h.1)) (Bl0.cons (Bl0.cons (Bl0.cons (Bl0.nil)))) rvf (fun _ h => h.1)
  refine callsH_of_wpF (args := [Value.agg #[I (q.Facts), vf, vg, va], I (n), vh]) (rs := [.tmp 6, .cell 7 27]) Try.func33 rfl Try.ntmps33 Try.results33 (by kernel_rfl) (Nat.le_of_ble_eq_true rfl) ?_
  have a0_0 : argF [Value.agg #[I (q.Facts), vf, vg, va], I (n), vh] 0 = Value.agg #[I (q.Facts), vf, vg, va] := rfl
  have a0_1 : argF [Value.agg #[I (q.Facts), vf, vg, va], I (n), vh] 1 = I (n) := rfl
  have a0_2 : argF [Value.agg #[I (q.Facts), vf, vg, va], I (n), vh] 2 = vh := rfl
  generalize argF [Value.agg #[I (q.Facts), vf, vg, va], I (n), vh] = f0 at *
  refine wpF_seq ?_
  refine wpF_cut (fun f H => ∃ (g1 : Nat), ∃ (g4 : Nat), f 1 = I (n) ∧ f 2 = vh ∧ f 3 = PT g1 0 ∧ f 7 = PT g4 0 ∧ St H0 NoB (fun b => S b ∧ b < H0.size) [blkE g4 (.cells #[I (0), I (0)] 27), blkE g1 (.cells #[I (q.Facts), vf, vg, va] 25), rdE vf q.First, rdE vg q.Goal, rdE va q.Acts, rdE vh holds] H) ?_ ?_
  · refine wpF_region ?_
    refine wpL_o rfl ?_
    refine e_box (v := Value.agg #[I (q.Facts), vf, vg, va]) rfl a0_0 hS0 (fun g1 H2 hS3 hxx => ?_)
    replace hS3 : St H0 NoB (fun b => S b ∧ b < H0.size) [blkE g1 (.cells #[I (q.Facts), vf, vg, va] 25), rdE vf q.First, rdE vg q.Goal, rdE va q.Acts, rdE vh holds] H2 := hS3
    refine wpL_q (U := NoB) rfl (q_assign (v := (Value.slice none 0 0)) rfl rfl) ?_
    refine wpL_o rfl ?_
    refine e_alloc rfl Try.zeroValue27 hS3 (fun g4 H5 hS6 hxx => ?_)
    replace hS6 : St H0 NoB (fun b => S b ∧ b < H0.size) [blkE g4 (.cells #[I (0), I (0)] 27), blkE g1 (.cells #[I (q.Facts), vf, vg, va] 25), rdE vf q.First, rdE vg q.Goal, rdE va q.Acts, rdE vh holds] H5 := hS6
    exact ⟨g1, g4, a0_1, a0_2, rfl, rfl, hS6⟩
  rintro f7 H7 ⟨g1, g4, a7_1, a7_2, a7_3, a7_7, hS7⟩
  clear a0_0 a0_1 a0_2
  refine wpF_seq ?_
  refine wpF_cut (fun f H => ∃ (r8 : Value), ∃ (g9 : Nat), ∃ (g13 : Nat), ((chkF q n).1 = 0 → r8 = PT g9 0) ∧ f 1 = I (n) ∧ f 2 = vh ∧ f 3 = PT g1 0 ∧ f 7 = PT g4 0 ∧ f 8 = r8 ∧ f 9 = PT g13 0 ∧ St H0 NoB (fun b => S b ∧ b < H0.size) [blkE g13 (.cells #[I ((chkF q n).1), I ((chkF q n).2)] 27), whenE ((chkF q n).1 = 0) (blkE g9 (.cells #[I q.Facts, vf, vg, va, I n, I 0, .slice none 0 0] 84)), blkE g4 (.cells #[I (0), I (0)] 27), blkE g1 (.cells #[I (q.Facts), vf, vg, va] 25), rdE vf q.First, rdE vg q.Goal, rdE va q.Acts, rdE vh holds] H) ?_ ?_
  · refine wpF_region ?_
    refine wpL_q (U := NoB) rfl (q_loadBlkA rfl a7_3 Try.isAgg25 Try.sizeOf25 rfl (hS7.blk 1 rfl) (fun h => h)) ?_
    refine wpL_q (U := NoB) rfl (q_move (v := I (n)) rfl a7_1) ?_
    refine wpL_o rfl ?_
    refine e_call rfl Try.call50 (arr2 (v0 := Value.agg #[I (q.Facts), vf, vg, va]) (v1 := I (n)) rfl rfl) (check_E (S := SL (fun b => S b ∧ b < H0.size) [blkE g4 (.cells #[I (0), I (0)] 27), blkE g1 (.cells #[I (q.Facts), vf, vg, va] 25), rdE vf q.First, rdE vg q.Goal, rdE va q.Acts, rdE vh holds]) vf vg va q n (by first | assumption | (constructor <;> omega)) (hS7.rdS 2 rfl) (hS7.rdS 3 rfl) (hS7.rdS 4 rfl) hni) ?_
    rintro _ H10 ⟨hxx, r8, g9, rfl, hpr8, hfr8⟩
    have hS11 : St H0 NoB (fun b => S b ∧ b < H0.size) [whenE ((chkF q n).1 = 0) (blkE g9 (.cells #[I q.Facts, vf, vg, va, I n, I 0, .slice none 0 0] 84)), blkE g4 (.cells #[I (0), I (0)] 27), blkE g1 (.cells #[I (q.Facts), vf, vg, va] 25), rdE vf q.First, rdE vg q.Goal, rdE va q.Acts, rdE vh holds] H10 := St.gotF (A' := [whenE ((chkF q n).1 = 0) (blkE g9 (.cells #[I q.Facts, vf, vg, va, I n, I 0, .slice none 0 0] 84))]) hS7 hxx hfr8 pw1
    refine wpL_q (U := NoB) rfl (q_move (v := Value.tuple #[r8, Value.agg #[I ((chkF q n).1), I ((chkF q n).2)]]) rfl rfl) ?_
    refine wpL_q (U := NoB) rfl (q_extract (vs := #[r8, Value.agg #[I ((chkF q n).1), I ((chkF q n).2)]]) (v := r8) rfl rfl rfl) ?_
    refine wpL_q (U := NoB) rfl (q_extract (vs := #[r8, Value.agg #[I ((chkF q n).1), I ((chkF q n).2)]]) (v := Value.agg #[I ((chkF q n).1), I ((chkF q n).2)]) rfl rfl rfl) ?_
    refine wpL_o rfl ?_
    refine e_alloc rfl Try.zeroValue27 hS11 (fun g13 H14 hS15 hxx => ?_)
    replace hS15 : St H0 NoB (fun b => S b ∧ b < H0.size) [blkE g13 (.cells #[I (0), I (0)] 27), whenE ((chkF q n).1 = 0) (blkE g9 (.cells #[I q.Facts, vf, vg, va, I n, I 0, .slice none 0 0] 84)), blkE g4 (.cells #[I (0), I (0)] 27), blkE g1 (.cells #[I (q.Facts), vf, vg, va] 25), rdE vf q.First, rdE vg q.Goal, rdE va q.Acts, rdE vh holds] H14 := hS15
    refine wpL_q (U := NoB) rfl (q_assign (v := r8) rfl rfl) ?_
    refine wpL_o rfl ?_
    refine e_storeBlkA (cs' := #[I ((chkF q n).1), I ((chkF q n).2)]) rfl rfl rfl Try.sizeOf27 rfl rfl (List.forall_mem_cons.2 ⟨rfl, List.forall_mem_cons.2 ⟨rfl, List.forall_mem_nil _⟩⟩) hS15 (fun H16 hS17 hxx => ?_)
    replace hS17 : St H0 NoB (fun b => S b ∧ b < H0.size) [blkE g13 (.cells #[I ((chkF q n).1), I ((chkF q n).2)] 27), whenE ((chkF q n).1 = 0) (blkE g9 (.cells #[I q.Facts, vf, vg, va, I n, I 0, .slice none 0 0] 84)), blkE g4 (.cells #[I (0), I (0)] 27), blkE g1 (.cells #[I (q.Facts), vf, vg, va] 25), rdE vf q.First, rdE vg q.Goal, rdE va q.Acts, rdE vh holds] H16 := hS17
    exact ⟨r8, g9, g13, hpr8, a7_1, a7_2, a7_3, a7_7, rfl, rfl, hS17⟩
  rintro f18 H18 ⟨r8, g9, g13, hpr8, a18_1, a18_2, a18_3, a18_7, a18_8, a18_9, hS18⟩
  clear a7_1 a7_2 a7_3 a7_7
  refine wpF_seq ?_
  refine wpF_seq ?_
  refine wpF_cut (fun f H => f 1 = I (n) ∧ f 2 = vh ∧ f 3 = PT g1 0 ∧ f 7 = PT g4 0 ∧ f 8 = r8 ∧ f 9 = PT g13 0 ∧ f 22 = B (decide (((chkF q n).1) ≠ 0)) ∧ H18 = H) ?_ ?_
  · refine wpF_region ?_
    refine wpL_q (U := NoB) rfl (q_fieldAddr rfl Try.underlying27 rfl Try.sizeOf3 a18_9) ?_
    refine wpL_q (U := NoB) rfl (q_loadBlk rfl rfl Try.isAgg3 (hS18.blk 0 rfl) rfl (fun h => h)) ?_
    refine wpL_q (U := NoB) rfl (q_neq rfl rfl rfl) ?_
    exact ⟨a18_1, a18_2, a18_3, a18_7, a18_8, a18_9, rfl, rfl⟩
  rintro f19 _ ⟨a19_1, a19_2, a19_3, a19_7, a19_8, a19_9, a19_22, rfl⟩
  clear a18_1 a18_2 a18_3 a18_7 a18_8 a18_9
  refine wpF_condP a19_22 (fun h22 => ?t82) (fun h22 => ?e82)
  case t82 =>
    refine wpF_seq ?_
    refine wpF_cut (fun f H => f 6 = (Value.slice none 0 0) ∧ f 7 = PT g4 0 ∧ St H0 NoB (fun b => S b ∧ b < H0.size) [blkE g4 (.cells #[I ((chkF q n).1), I ((chkF q n).2)] 27), blkE g13 (.cells #[I ((chkF q n).1), I ((chkF q n).2)] 27), whenE ((chkF q n).1 = 0) (blkE g9 (.cells #[I q.Facts, vf, vg, va, I n, I 0, .slice none 0 0] 84)), blkE g1 (.cells #[I (q.Facts), vf, vg, va] 25), rdE vf q.First, rdE vg q.Goal, rdE va q.Acts, rdE vh holds] H) ?_ ?_
    · refine wpF_drawn [none, none, some 0] [[], [], []] (fun l b => match l with | 0 => True | _ => False) (by kernel_rfl) (by kernel_rfl) ?_
      refine wpR_q 0 (by kernel_rfl) rfl (quietAt rfl rfl (q_loadBlkA rfl a19_9 Try.isAgg27 Try.sizeOf27 rfl (hS18.blk 0 rfl) (labU_not [] rfl (List.forall_mem_nil _)))) ?_
      refine wpR_q 1 (by kernel_rfl) rfl (quietAt rfl rfl (q_assign (v := (Value.slice none 0 0)) rfl rfl)) ?_
      refine wpR_n [2] (by kernel_rfl) ?_
      refine List.forall_mem_cons.2 ⟨?_, List.forall_mem_nil _⟩
      refine exE rfl rfl ?_
      refine e_storeBlkA (cs' := #[I ((chkF q n).1), I ((chkF q n).2)]) rfl a19_7 rfl Try.sizeOf27 rfl rfl (List.forall_mem_cons.2 ⟨rfl, List.forall_mem_cons.2 ⟨rfl, List.forall_mem_nil _⟩⟩) (hS18.front 2 rfl) (fun H23o2 hS23o2 hxx => ?_)
      replace hS23o2 : St H0 NoB (fun b => S b ∧ b < H0.size) [blkE g4 (.cells #[I ((chkF q n).1), I ((chkF q n).2)] 27), blkE g13 (.cells #[I ((chkF q n).1), I ((chkF q n).2)] 27), whenE ((chkF q n).1 = 0) (blkE g9 (.cells #[I q.Facts, vf, vg, va, I n, I 0, .slice none 0 0] 84)), blkE g1 (.cells #[I (q.Facts), vf, vg, va] 25), rdE vf q.First, rdE vg q.Goal, rdE va q.Acts, rdE vh holds] H23o2 := hS23o2
      refine ⟨Ext.mono hxx (labS_of 0 rfl (fun _ _ => trivial)), ?_⟩
      refine wpR_end (by kernel_rfl) ?_
      exact ⟨rfl, a19_7, hS23o2⟩
    rintro f24 H24 ⟨a24_6, a24_7, hS24⟩
    clear a19_1 a19_2 a19_22 a19_3 a19_7 a19_8 a19_9
    refine wpF_ret ?_
    refine ⟨_, resT a24_6 (resC a24_7 (loadV_blkA Try.isAgg27 Try.sizeOf27 rfl (hS24.blk 0 rfl)) (resN)), hS24.frame, ?_⟩
    show ∃ w_, (Value.tuple #[(Value.slice none 0 0), Value.agg #[I ((chkF q n).1), I ((chkF q n).2)]]) = Value.tuple #[w_, Value.agg #[I (backF q n holds).1, I (backF q n holds).2]] ∧ Rd (fun b => S b ∧ b < H0.size) H24 w_ (backP q n holds)
    obtain ⟨d1, d2⟩ := backF_1 (holds := holds) h22
    exact ⟨_, by rw [d1], by rw [d2]; exact rdNil⟩
  obtain ⟨hcz, hQ, hqz, hn, hv120⟩ := chkF_zero (Decidable.of_not_not h22)
  have hS21 : St H0 NoB (fun b => S b ∧ b < H0.size) [blkE g13 (.cells #[I ((chkF q n).1), I ((chkF q n).2)] 27), blkE g9 (.cells #[I (q.Facts), vf, vg, va, I (n), I (0), (Value.slice none 0 0)] 84), blkE g4 (.cells #[I (0), I (0)] 27), blkE g1 (.cells #[I (q.Facts), vf, vg, va] 25), rdE vf q.First, rdE vg q.Goal, rdE va q.Acts, rdE vh holds] H18 := by have h__ := hS18; rw [whenE_yes (Decidable.of_not_not h22)] at h__; exact h__
  have b22 := Eq.trans a19_8 (hpr8 (Decidable.of_not_not h22))
  have hfx := hQ.facts
  have hmy := hQ.many
  have hvr := vars_rng hQ hn
  refine wpF_skip ?_
  refine wpF_seq ?_
  refine wpF_seq ?_
  refine wpF_cut (fun f H => f 1 = I (n) ∧ f 2 = vh ∧ f 3 = PT g1 0 ∧ f 7 = PT g4 0 ∧ f 8 = PT g9 0 ∧ f 28 = B (decide ((holds.length : Int) ≠ (varsN q n))) ∧ St H0 NoB (fun b => S b ∧ b < H0.size) [blkE g13 (.cells #[I ((chkF q n).1), I ((chkF q n).2)] 27), blkE g9 (.cells #[I (q.Facts), vf, vg, va, I (n), I (0), (Value.slice none 0 0)] 84), blkE g4 (.cells #[I (0), I (0)] 27), blkE g1 (.cells #[I (q.Facts), vf, vg, va] 25), rdE vf q.First, rdE vg q.Goal, rdE va q.Acts, rdE vh holds] H) ?_ ?_
  · refine wpF_region ?_
    refine wpL_q (U := NoB) rfl (q_move (v := vh) rfl a19_2) ?_
    refine wpL_q (U := NoB) rfl (q_lenRd rfl Try.underlying29 rfl (hS21.rdl 7 rfl)) ?_
    refine wpL_q (U := NoB) rfl (q_move (v := PT g9 0) rfl b22) ?_
    refine wpL_o rfl ?_
    refine e_call rfl Try.call51 (arr1 (v0 := PT g9 0) rfl) (vars_E g9 vf vg va ((Value.slice none 0 0)) q n 0  (hS21.blk 1 rfl) (hS21.rdN 6 rfl) hQ hn ) ?_
    rintro _ H25 ⟨hxx, rfl⟩
    have hS26 : St H0 NoB (fun b => S b ∧ b < H0.size) [blkE g13 (.cells #[I ((chkF q n).1), I ((chkF q n).2)] 27), blkE g9 (.cells #[I (q.Facts), vf, vg, va, I (n), I (0), (Value.slice none 0 0)] 84), blkE g4 (.cells #[I (0), I (0)] 27), blkE g1 (.cells #[I (q.Facts), vf, vg, va] 25), rdE vf q.First, rdE vg q.Goal, rdE va q.Acts, rdE vh holds] H25 := hS21.ext hxx
    refine wpL_q (U := NoB) rfl (q_neq rfl rfl rfl) ?_
    exact ⟨a19_1, a19_2, a19_3, a19_7, b22, rfl, hS26⟩
  rintro f28 H28 ⟨a28_1, a28_2, a28_3, a28_7, a28_8, a28_28, hS28⟩
  clear a19_1 a19_2 a19_22 a19_3 a19_7 a19_9
  refine wpF_condP a28_28 (fun h28 => ?t81) (fun h28 => ?e81)
  case t81 =>
    refine wpF_seq ?_
    refine wpF_cut (fun f H => f 6 = (Value.slice none 0 0) ∧ f 7 = PT g4 0 ∧ St H0 NoB (fun b => S b ∧ b < H0.size) [blkE g4 (.cells #[I (9), I (-3)] 27), blkE g13 (.cells #[I ((chkF q n).1), I ((chkF q n).2)] 27), blkE g9 (.cells #[I (q.Facts), vf, vg, va, I (n), I (0), (Value.slice none 0 0)] 84), blkE g1 (.cells #[I (q.Facts), vf, vg, va] 25), rdE vf q.First, rdE vg q.Goal, rdE va q.Acts, rdE vh holds] H) ?_ ?_
    · refine wpF_region ?_
      refine wpL_q (U := NoB) rfl (q_build (v := Value.agg #[I (9), I (-3)]) rfl (par2 (v0 := I (9)) (v1 := I (-3)) rfl rfl) (fun w => by kernel_rfl)) ?_
      refine wpL_q (U := NoB) rfl (q_assign (v := (Value.slice none 0 0)) rfl rfl) ?_
      refine wpL_o rfl ?_
      refine e_storeBlkA (cs' := #[I (9), I (-3)]) rfl a28_7 rfl Try.sizeOf27 rfl rfl (List.forall_mem_cons.2 ⟨rfl, List.forall_mem_cons.2 ⟨rfl, List.forall_mem_nil _⟩⟩) (hS28.front 2 rfl) (fun H30 hS31 hxx => ?_)
      replace hS31 : St H0 NoB (fun b => S b ∧ b < H0.size) [blkE g4 (.cells #[I (9), I (-3)] 27), blkE g13 (.cells #[I ((chkF q n).1), I ((chkF q n).2)] 27), blkE g9 (.cells #[I (q.Facts), vf, vg, va, I (n), I (0), (Value.slice none 0 0)] 84), blkE g1 (.cells #[I (q.Facts), vf, vg, va] 25), rdE vf q.First, rdE vg q.Goal, rdE va q.Acts, rdE vh holds] H30 := hS31
      exact ⟨rfl, a28_7, hS31⟩
    rintro f32 H32 ⟨a32_6, a32_7, hS32⟩
    clear a28_1 a28_2 a28_28 a28_3 a28_7 a28_8
    refine wpF_ret ?_
    refine ⟨_, resT a32_6 (resC a32_7 (loadV_blkA Try.isAgg27 Try.sizeOf27 rfl (hS32.blk 0 rfl)) (resN)), hS32.frame, ?_⟩
    show ∃ w_, (Value.tuple #[(Value.slice none 0 0), Value.agg #[I (9), I (-3)]]) = Value.tuple #[w_, Value.agg #[I (backF q n holds).1, I (backF q n holds).2]] ∧ Rd (fun b => S b ∧ b < H0.size) H32 w_ (backP q n holds)
    obtain ⟨d1, d2⟩ := backF_2 h22 h28
    exact ⟨_, by rw [d1], by rw [d2]; exact rdNil⟩
  refine wpF_skip ?_
  refine wpF_seq ?_
  refine wpF_cut (fun f H => f 1 = I (n) ∧ f 2 = vh ∧ f 3 = PT g1 0 ∧ f 7 = PT g4 0 ∧ f 8 = PT g9 0 ∧ f 10 = (Value.slice none 0 0) ∧ H28 = H) ?_ ?_
  · refine wpF_region ?_
    refine wpL_q (U := NoB) rfl (q_assign (v := (Value.slice none 0 0)) rfl rfl) ?_
    exact ⟨a28_1, a28_2, a28_3, a28_7, a28_8, rfl, rfl⟩
  rintro f33 _ ⟨a33_1, a33_2, a33_3, a33_7, a33_8, a33_10, rfl⟩
  clear a28_1 a28_2 a28_28 a28_3 a28_7 a28_8
  have hS34 : St H0 NoB (fun b => S b ∧ b < H0.size) [rowE 3 (Value.slice none 0 0) ([] : List Int), blkE g13 (.cells #[I ((chkF q n).1), I ((chkF q n).2)] 27), blkE g9 (.cells #[I (q.Facts), vf, vg, va, I (n), I (0), (Value.slice none 0 0)] 84), blkE g4 (.cells #[I (0), I (0)] 27), blkE g1 (.cells #[I (q.Facts), vf, vg, va] 25), rdE vf q.First, rdE vg q.Goal, rdE va q.Acts, rdE vh holds] H28 := hS28.row0 3
  refine wpF_seq ?_
  refine wpF_seq ?_
  refine wpF_cut (fun f H => f 2 = vh ∧ f 3 = PT g1 0 ∧ f 7 = PT g4 0 ∧ f 8 = PT g9 0 ∧ f 10 = (Value.slice none 0 0) ∧ f 30 = I (n) ∧ f 31 = I (0) ∧ H28 = H) ?_ ?_
  · refine wpF_region ?_
    refine wpL_q (U := NoB) rfl (q_move (v := I (n)) rfl a33_1) ?_
    refine wpL_q (U := NoB) rfl (q_move (v := I (0)) rfl rfl) ?_
    exact ⟨a33_2, a33_3, a33_7, a33_8, a33_10, rfl, rfl, rfl⟩
  rintro f35 _ ⟨a35_2, a35_3, a35_7, a35_8, a35_10, a35_30, a35_31, rfl⟩
  clear a33_1 a33_10 a33_2 a33_3 a33_7 a33_8
  refine wpF_block ?_
  refine wpF_loop (fun mz f H => ∃ (u : Nat), ∃ (vo : Value), mz = n.toNat - u ∧ (u ≤ n.toNat) ∧ (∀ j, j < u → ¬ bkAt q n holds j < 0) ∧ f 2 = vh ∧ f 3 = PT g1 0 ∧ f 7 = PT g4 0 ∧ f 8 = PT g9 0 ∧ f 10 = vo ∧ f 30 = I (n) ∧ f 31 = I ((u : Int)) ∧ St H0 NoB (fun b => S b ∧ b < H0.size) [rowE 3 vo (backL q n holds u : List Int), blkE g13 (.cells #[I ((chkF q n).1), I ((chkF q n).2)] 27), blkE g9 (.cells #[I (q.Facts), vf, vg, va, I (n), I (0), (Value.slice none 0 0)] 84), blkE g4 (.cells #[I (0), I (0)] 27), blkE g1 (.cells #[I (q.Facts), vf, vg, va] 25), rdE vf q.First, rdE vg q.Goal, rdE va q.Acts, rdE vh holds] H) (n.toNat - 0) ?_ ?_
  · exact ⟨0, (Value.slice none 0 0), rfl, Nat.zero_le _, (fun j hj => absurd hj (Nat.not_lt_zero j)), a35_2, a35_3, a35_7, a35_8, a35_10, a35_30, (Eq.trans a35_31 (congrArg I (by omega))), (show St H0 NoB (fun b => S b ∧ b < H0.size) [rowE 3 (Value.slice none 0 0) (backL q n holds 0 : List Int), blkE g13 (.cells #[I ((chkF q n).1), I ((chkF q n).2)] 27), blkE g9 (.cells #[I (q.Facts), vf, vg, va, I (n), I (0), (Value.slice none 0 0)] 84), blkE g4 (.cells #[I (0), I (0)] 27), blkE g1 (.cells #[I (q.Facts), vf, vg, va] 25), rdE vf q.First, rdE vg q.Goal, rdE va q.Acts, rdE vh holds] H28 from hS34)⟩
  intro m36 f36 H36 hI36
  obtain ⟨u, vo, hm36, hu, hno, a36_2, a36_3, a36_7, a36_8, a36_10, a36_30, a36_31, hS36⟩ := hI36
  clear a35_10 a35_2 a35_3 a35_30 a35_31 a35_7 a35_8
  refine wpF_seq ?_
  refine wpF_cut (fun f H => f 2 = vh ∧ f 3 = PT g1 0 ∧ f 7 = PT g4 0 ∧ f 8 = PT g9 0 ∧ f 10 = vo ∧ f 30 = I (n) ∧ f 31 = I ((u : Int)) ∧ f 32 = B (decide ((u : Int) < n)) ∧ H36 = H) ?_ ?_
  · refine wpF_region ?_
    refine wpL_q (U := NoB) rfl (q_lss rfl a36_31 a36_30) ?_
    exact ⟨a36_2, a36_3, a36_7, a36_8, a36_10, a36_30, a36_31, rfl, rfl⟩
  rintro f37 _ ⟨a37_2, a37_3, a37_7, a37_8, a37_10, a37_30, a37_31, a37_32, rfl⟩
  clear a36_10 a36_2 a36_3 a36_30 a36_31 a36_7 a36_8
  refine wpF_seq ?_
  refine wpF_condP a37_32 (fun h32 => ?t80) (fun h32 => ?e80)
  case e80 =>
    refine wpF_exit ?_
    refine atX_here ?_
    refine wpF_seq ?_
    refine wpF_cut (fun f H => f 6 = vo ∧ f 7 = PT g4 0 ∧ St H0 NoB (fun b => S b ∧ b < H0.size) [blkE g4 (.cells #[I (0), I (0)] 27), rowE 3 vo (backL q n holds u : List Int), blkE g13 (.cells #[I ((chkF q n).1), I ((chkF q n).2)] 27), blkE g9 (.cells #[I (q.Facts), vf, vg, va, I (n), I (0), (Value.slice none 0 0)] 84), blkE g1 (.cells #[I (q.Facts), vf, vg, va] 25), rdE vf q.First, rdE vg q.Goal, rdE va q.Acts, rdE vh holds] H) ?_ ?_
    · refine wpF_region ?_
      refine wpL_q (U := NoB) rfl (q_move (v := vo) rfl a37_10) ?_
      refine wpL_q (U := NoB) rfl (q_build (v := Value.agg #[I (0), I (0)]) rfl par0 (fun w => by kernel_rfl)) ?_
      refine wpL_q (U := NoB) rfl (q_assign (v := vo) rfl rfl) ?_
      refine wpL_o rfl ?_
      refine e_storeBlkA (cs' := #[I (0), I (0)]) rfl a37_7 rfl Try.sizeOf27 rfl rfl (List.forall_mem_cons.2 ⟨rfl, List.forall_mem_cons.2 ⟨rfl, List.forall_mem_nil _⟩⟩) (hS36.front 3 rfl) (fun H76 hS77 hxx => ?_)
      replace hS77 : St H0 NoB (fun b => S b ∧ b < H0.size) [blkE g4 (.cells #[I (0), I (0)] 27), rowE 3 vo (backL q n holds u : List Int), blkE g13 (.cells #[I ((chkF q n).1), I ((chkF q n).2)] 27), blkE g9 (.cells #[I (q.Facts), vf, vg, va, I (n), I (0), (Value.slice none 0 0)] 84), blkE g1 (.cells #[I (q.Facts), vf, vg, va] 25), rdE vf q.First, rdE vg q.Goal, rdE va q.Acts, rdE vh holds] H76 := hS77
      exact ⟨rfl, a37_7, hS77⟩
    rintro f78 H78 ⟨a78_6, a78_7, hS78⟩
    clear a37_10 a37_2 a37_3 a37_30 a37_31 a37_32 a37_7 a37_8
    refine wpF_ret ?_
    refine ⟨_, resT a78_6 (resC a78_7 (loadV_blkA Try.isAgg27 Try.sizeOf27 rfl (hS78.blk 0 rfl)) (resN)), hS78.frame, ?_⟩
    show ∃ w_, (Value.tuple #[vo, Value.agg #[I (0), I (0)]]) = Value.tuple #[w_, Value.agg #[I (backF q n holds).1, I (backF q n holds).2]] ∧ Rd (fun b => S b ∧ b < H0.size) H78 w_ (backP q n holds)
    have hS79 : St H0 NoB (fun b => S b ∧ b < H0.size) [rdE vo (backL q n holds u), blkE g4 (.cells #[I (0), I (0)] 27), blkE g13 (.cells #[I ((chkF q n).1), I ((chkF q n).2)] 27), blkE g9 (.cells #[I (q.Facts), vf, vg, va, I (n), I (0), (Value.slice none 0 0)] 84), blkE g1 (.cells #[I (q.Facts), vf, vg, va] 25), rdE vf q.First, rdE vg q.Goal, rdE va q.Acts, rdE vh holds] H78 := St.fin (hS78.front 1 rfl)
    have hun : u = n.toNat := by omega
    subst hun
    obtain ⟨d1, d2⟩ := backF_4 h22 h28 (fun j hj => hno j (by omega))
    exact ⟨_, by rw [d1], by rw [d2]; exact (hS79.result (hS79.rdS 0 rfl))⟩
  have hol := backL_len (q := q) (n := n) (holds := holds) (u := u)
  refine wpF_skip ?_
  refine wpF_seq ?_
  refine wpF_block ?_
  refine wpF_seq ?_
  refine wpF_cut (fun f H => f 2 = vh ∧ f 3 = PT g1 0 ∧ f 7 = PT g4 0 ∧ f 8 = PT g9 0 ∧ f 10 = vo ∧ f 11 = I ((u : Int)) ∧ f 30 = I (n) ∧ f 31 = I ((u : Int)) ∧ H36 = H) ?_ ?_
  · refine wpF_region ?_
    refine wpL_q (U := NoB) rfl (q_move (v := I ((u : Int))) rfl a37_31) ?_
    refine wpL_q (U := NoB) rfl (q_assign (v := I ((u : Int))) rfl rfl) ?_
    exact ⟨a37_2, a37_3, a37_7, a37_8, a37_10, rfl, a37_30, a37_31, rfl⟩
  rintro f39 _ ⟨a39_2, a39_3, a39_7, a39_8, a39_10, a39_11, a39_30, a39_31, rfl⟩
  clear a37_10 a37_2 a37_3 a37_30 a37_31 a37_32 a37_7 a37_8
  refine wpF_seq ?_
  refine wpF_cut (fun f H => f 2 = vh ∧ f 3 = PT g1 0 ∧ f 7 = PT g4 0 ∧ f 8 = PT g9 0 ∧ f 10 = vo ∧ f 11 = I ((u : Int)) ∧ f 12 = I (-1) ∧ f 30 = I (n) ∧ f 31 = I ((u : Int)) ∧ H36 = H) ?_ ?_
  · refine wpF_region ?_
    refine wpL_q (U := NoB) rfl (q_assign (v := I (-1)) rfl rfl) ?_
    exact ⟨a39_2, a39_3, a39_7, a39_8, a39_10, a39_11, rfl, a39_30, a39_31, rfl⟩
  rintro f40 _ ⟨a40_2, a40_3, a40_7, a40_8, a40_10, a40_11, a40_12, a40_30, a40_31, rfl⟩
  clear a39_10 a39_11 a39_2 a39_3 a39_30 a39_31 a39_7 a39_8
  refine wpF_seq ?_
  refine wpF_seq ?_
  refine wpF_cut (fun f H => f 2 = vh ∧ f 3 = PT g1 0 ∧ f 7 = PT g4 0 ∧ f 8 = PT g9 0 ∧ f 10 = vo ∧ f 11 = I ((u : Int)) ∧ f 12 = I (-1) ∧ f 30 = I (n) ∧ f 31 = I ((u : Int)) ∧ f 36 = I ((q.Acts.length : Int)) ∧ f 37 = I (0) ∧ H36 = H) ?_ ?_
  · refine wpF_region ?_
    refine wpL_q (U := NoB) rfl (q_fieldAddr rfl Try.underlying25 rfl Try.sizeOf23 a40_3) ?_
    refine wpL_q (U := NoB) rfl (q_loadBlk rfl rfl Try.isAgg23 (hS36.blk 4 rfl) rfl (fun h => h)) ?_
    refine wpL_q (U := NoB) rfl (q_lenRd rfl Try.underlying23 rfl (hS36.rdl 7 rfl)) ?_
    refine wpL_q (U := NoB) rfl (q_move (v := I (0)) rfl rfl) ?_
    exact ⟨a40_2, a40_3, a40_7, a40_8, a40_10, a40_11, a40_12, a40_30, a40_31, rfl, rfl, rfl⟩
  rintro f41 _ ⟨a41_2, a41_3, a41_7, a41_8, a41_10, a41_11, a41_12, a41_30, a41_31, a41_36, a41_37, rfl⟩
  clear a40_10 a40_11 a40_12 a40_2 a40_3 a40_30 a40_31 a40_7 a40_8
  refine wpF_block ?_
  refine wpF_loop (fun mz f H => ∃ (k : Nat), mz = q.Acts.length - k ∧ (k ≤ q.Acts.length) ∧ f 2 = vh ∧ f 3 = PT g1 0 ∧ f 7 = PT g4 0 ∧ f 8 = PT g9 0 ∧ f 10 = vo ∧ f 11 = I ((u : Int)) ∧ f 12 = I (bkTo q n holds (u : Int) k) ∧ f 30 = I (n) ∧ f 31 = I ((u : Int)) ∧ f 36 = I ((q.Acts.length : Int)) ∧ f 37 = I ((k : Int)) ∧ St H0 NoB (fun b => S b ∧ b < H0.size) [rowE 3 vo (backL q n holds u : List Int), blkE g13 (.cells #[I ((chkF q n).1), I ((chkF q n).2)] 27), blkE g9 (.cells #[I (q.Facts), vf, vg, va, I (n), I (0), (Value.slice none 0 0)] 84), blkE g4 (.cells #[I (0), I (0)] 27), blkE g1 (.cells #[I (q.Facts), vf, vg, va] 25), rdE vf q.First, rdE vg q.Goal, rdE va q.Acts, rdE vh holds] H) (q.Acts.length - 0) ?_ ?_
  · exact ⟨0, rfl, Nat.zero_le _, a41_2, a41_3, a41_7, a41_8, a41_10, a41_11, a41_12, a41_30, a41_31, a41_36, (Eq.trans a41_37 (congrArg I (by omega))), hS36⟩
  intro m42 f42 H42 hI42
  obtain ⟨k, hm42, hk, a42_2, a42_3, a42_7, a42_8, a42_10, a42_11, a42_12, a42_30, a42_31, a42_36, a42_37, hS42⟩ := hI42
  clear a41_10 a41_11 a41_12 a41_2 a41_3 a41_30 a41_31 a41_36 a41_37 a41_7 a41_8
  refine wpF_seq ?_
  refine wpF_cut (fun f H => f 2 = vh ∧ f 3 = PT g1 0 ∧ f 7 = PT g4 0 ∧ f 8 = PT g9 0 ∧ f 10 = vo ∧ f 11 = I ((u : Int)) ∧ f 12 = I (bkTo q n holds (u : Int) k) ∧ f 30 = I (n) ∧ f 31 = I ((u : Int)) ∧ f 36 = I ((q.Acts.length : Int)) ∧ f 37 = I ((k : Int)) ∧ f 38 = B (decide ((k : Int) < (q.Acts.length : Int))) ∧ H42 = H) ?_ ?_
  · refine wpF_region ?_
    refine wpL_q (U := NoB) rfl (q_lss rfl a42_37 a42_36) ?_
    exact ⟨a42_2, a42_3, a42_7, a42_8, a42_10, a42_11, a42_12, a42_30, a42_31, a42_36, a42_37, rfl, rfl⟩
  rintro f43 _ ⟨a43_2, a43_3, a43_7, a43_8, a43_10, a43_11, a43_12, a43_30, a43_31, a43_36, a43_37, a43_38, rfl⟩
  clear a42_10 a42_11 a42_12 a42_2 a42_3 a42_30 a42_31 a42_36 a42_37 a42_7 a42_8
  refine wpF_seq ?_
  refine wpF_condP a43_38 (fun h38 => ?t75) (fun h38 => ?e75)
  case e75 =>
    obtain rfl : k = q.Acts.length := by omega
    refine wpF_exit ?_
    refine atX_here ?_
    refine wpF_seq ?_
    refine wpF_seq ?_
    have hbr := bkTo_rng (q := q) (n := n) (holds := holds) (t := (u : Int)) q.Acts.length
    refine wpF_cut (fun f H => f 2 = vh ∧ f 3 = PT g1 0 ∧ f 7 = PT g4 0 ∧ f 8 = PT g9 0 ∧ f 10 = vo ∧ f 11 = I ((u : Int)) ∧ f 12 = I (bkTo q n holds (u : Int) q.Acts.length) ∧ f 30 = I (n) ∧ f 31 = I ((u : Int)) ∧ f 55 = B (decide ((bkTo q n holds (u : Int) q.Acts.length) < 0)) ∧ H42 = H) ?_ ?_
    · refine wpF_region ?_
      refine wpL_q (U := NoB) rfl (q_move (v := I (bkTo q n holds (u : Int) q.Acts.length)) rfl a43_12) ?_
      refine wpL_q (U := NoB) rfl (q_lss rfl rfl rfl) ?_
      exact ⟨a43_2, a43_3, a43_7, a43_8, a43_10, a43_11, a43_12, a43_30, a43_31, rfl, rfl⟩
    rintro f58 _ ⟨a58_2, a58_3, a58_7, a58_8, a58_10, a58_11, a58_12, a58_30, a58_31, a58_55, rfl⟩
    clear a43_10 a43_11 a43_12 a43_2 a43_3 a43_30 a43_31 a43_36 a43_37 a43_38 a43_7 a43_8
    refine wpF_condP a58_55 (fun h55 => ?t74) (fun h55 => ?e74)
    case t74 =>
      refine wpF_seq ?_
      refine wpF_cut (fun f H => f 6 = (Value.slice none 0 0) ∧ f 7 = PT g4 0 ∧ St H0 NoB (fun b => S b ∧ b < H0.size) [blkE g4 (.cells #[I (6), I ((u : Int))] 27), rowE 3 vo (backL q n holds u : List Int), blkE g13 (.cells #[I ((chkF q n).1), I ((chkF q n).2)] 27), blkE g9 (.cells #[I (q.Facts), vf, vg, va, I (n), I (0), (Value.slice none 0 0)] 84), blkE g1 (.cells #[I (q.Facts), vf, vg, va] 25), rdE vf q.First, rdE vg q.Goal, rdE va q.Acts, rdE vh holds] H) ?_ ?_
      · refine wpF_region ?_
        refine wpL_q (U := NoB) rfl (q_move (v := I ((u : Int))) rfl a58_11) ?_
        refine wpL_q (U := NoB) rfl (q_build (v := Value.agg #[I (6), I ((u : Int))]) rfl (par2 (v0 := I (6)) (v1 := I ((u : Int))) rfl rfl) (fun w => by kernel_rfl)) ?_
        refine wpL_q (U := NoB) rfl (q_assign (v := (Value.slice none 0 0)) rfl rfl) ?_
        refine wpL_o rfl ?_
        refine e_storeBlkA (cs' := #[I (6), I ((u : Int))]) rfl a58_7 rfl Try.sizeOf27 rfl rfl (List.forall_mem_cons.2 ⟨rfl, List.forall_mem_cons.2 ⟨rfl, List.forall_mem_nil _⟩⟩) (hS42.front 3 rfl) (fun H60 hS61 hxx => ?_)
        replace hS61 : St H0 NoB (fun b => S b ∧ b < H0.size) [blkE g4 (.cells #[I (6), I ((u : Int))] 27), rowE 3 vo (backL q n holds u : List Int), blkE g13 (.cells #[I ((chkF q n).1), I ((chkF q n).2)] 27), blkE g9 (.cells #[I (q.Facts), vf, vg, va, I (n), I (0), (Value.slice none 0 0)] 84), blkE g1 (.cells #[I (q.Facts), vf, vg, va] 25), rdE vf q.First, rdE vg q.Goal, rdE va q.Acts, rdE vh holds] H60 := hS61
        exact ⟨rfl, a58_7, hS61⟩
      rintro f62 H62 ⟨a62_6, a62_7, hS62⟩
      clear a58_10 a58_11 a58_12 a58_2 a58_3 a58_30 a58_31 a58_55 a58_7 a58_8
      refine wpF_ret ?_
      refine ⟨_, resT a62_6 (resC a62_7 (loadV_blkA Try.isAgg27 Try.sizeOf27 rfl (hS62.blk 0 rfl)) (resN)), hS62.frame, ?_⟩
      show ∃ w_, (Value.tuple #[(Value.slice none 0 0), Value.agg #[I (6), I ((u : Int))]]) = Value.tuple #[w_, Value.agg #[I (backF q n holds).1, I (backF q n holds).2]] ∧ Rd (fun b => S b ∧ b < H0.size) H62 w_ (backP q n holds)
      obtain ⟨d1, d2⟩ := backF_3 h22 h28 (by omega) hno h55
      exact ⟨_, by rw [d1], by rw [d2]; exact rdNil⟩
    refine wpF_skip ?_
    refine wpF_cut (fun f H => ∃ (v68 : Value), f 2 = vh ∧ f 3 = PT g1 0 ∧ f 7 = PT g4 0 ∧ f 8 = PT g9 0 ∧ f 10 = v68 ∧ f 30 = I (n) ∧ f 31 = I ((u : Int)) ∧ St H0 NoB (fun b => S b ∧ b < H0.size) [rowE 3 v68 (backL q n holds (u + 1) : List Int), blkE g13 (.cells #[I ((chkF q n).1), I ((chkF q n).2)] 27), blkE g9 (.cells #[I (q.Facts), vf, vg, va, I (n), I (0), (Value.slice none 0 0)] 84), blkE g4 (.cells #[I (0), I (0)] 27), blkE g1 (.cells #[I (q.Facts), vf, vg, va] 25), rdE vf q.First, rdE vg q.Goal, rdE va q.Acts, rdE vh holds] H) ?_ ?_
    · refine wpF_region ?_
      refine wpL_q (U := NoB) rfl (q_move (v := vo) rfl a58_10) ?_
      refine wpL_q (U := NoB) rfl (q_move (v := I (bkTo q n holds (u : Int) q.Acts.length)) rfl a58_12) ?_
      refine wpL_o rfl ?_
      refine e_buildSlice (vs := [I (bkTo q n holds (u : Int) q.Acts.length)]) (xs := ([bkTo q n holds (u : Int) q.Acts.length] : List Int)) rfl Try.underlying22 Try.zeroValue3 rfl Try.sizeOf3 (par1 (v0 := I (bkTo q n holds (u : Int) q.Acts.length)) rfl) rfl hS42 (RdVs.cons (Rd.int.2 ⟨rfl, by first | assumption | (constructor <;> omega)⟩) (RdVs.nil)) (by decide) (by decide) (fun v63 H64 hS65 hxx hvv63 => ?_)
      replace hS65 : St H0 NoB (fun b => S b ∧ b < H0.size) [rowE 3 v63 ([bkTo q n holds (u : Int) q.Acts.length] : List Int), rowE 3 vo (backL q n holds u : List Int), blkE g13 (.cells #[I ((chkF q n).1), I ((chkF q n).2)] 27), blkE g9 (.cells #[I (q.Facts), vf, vg, va, I (n), I (0), (Value.slice none 0 0)] 84), blkE g4 (.cells #[I (0), I (0)] 27), blkE g1 (.cells #[I (q.Facts), vf, vg, va] 25), rdE vf q.First, rdE vg q.Goal, rdE va q.Acts, rdE vh holds] H64 := hS65
      have hS66 : St H0 NoB (fun b => S b ∧ b < H0.size) [rdE v63 ([bkTo q n holds (u : Int) q.Acts.length] : List Int), rowE 3 vo (backL q n holds u : List Int), blkE g13 (.cells #[I ((chkF q n).1), I ((chkF q n).2)] 27), blkE g9 (.cells #[I (q.Facts), vf, vg, va, I (n), I (0), (Value.slice none 0 0)] 84), blkE g4 (.cells #[I (0), I (0)] 27), blkE g1 (.cells #[I (q.Facts), vf, vg, va] 25), rdE vf q.First, rdE vg q.Goal, rdE va q.Acts, rdE vh holds] H64 := St.fin hS65
      have hS67 : St H0 NoB (fun b => S b ∧ b < H0.size) [rowE 3 vo (backL q n holds u : List Int), rdE v63 ([bkTo q n holds (u : Int) q.Acts.length] : List Int), blkE g13 (.cells #[I ((chkF q n).1), I ((chkF q n).2)] 27), blkE g9 (.cells #[I (q.Facts), vf, vg, va, I (n), I (0), (Value.slice none 0 0)] 84), blkE g4 (.cells #[I (0), I (0)] 27), blkE g1 (.cells #[I (q.Facts), vf, vg, va] 25), rdE vf q.First, rdE vg q.Goal, rdE va q.Acts, rdE vh holds] H64 := (hS66.front 1 rfl)
      refine wpL_o rfl ?_
      refine e_append rfl Try.underlying22 em_Int_3_StepB1 rfl rfl hS67 (hS67.rdS 1 rfl) (fun _ h => h) (by have hb : GoT.bytes Int = 8 := rfl; simp [hb]; omega) (by decide) (fun v68 H69 hS70 hxx => ?_)
      replace hS70 : St H0 NoB (fun b => S b ∧ b < H0.size) [rowE 3 v68 ((backL q n holds u) ++ ([bkTo q n holds (u : Int) q.Acts.length]) : List Int), rdE v63 ([bkTo q n holds (u : Int) q.Acts.length] : List Int), blkE g13 (.cells #[I ((chkF q n).1), I ((chkF q n).2)] 27), blkE g9 (.cells #[I (q.Facts), vf, vg, va, I (n), I (0), (Value.slice none 0 0)] 84), blkE g4 (.cells #[I (0), I (0)] 27), blkE g1 (.cells #[I (q.Facts), vf, vg, va] 25), rdE vf q.First, rdE vg q.Goal, rdE va q.Acts, rdE vh holds] H69 := hS70
      have hS71 : St H0 NoB (fun b => S b ∧ b < H0.size) [rowE 3 v68 (backL q n holds (u + 1) : List Int), rdE v63 ([bkTo q n holds (u : Int) q.Acts.length] : List Int), blkE g13 (.cells #[I ((chkF q n).1), I ((chkF q n).2)] 27), blkE g9 (.cells #[I (q.Facts), vf, vg, va, I (n), I (0), (Value.slice none 0 0)] 84), blkE g4 (.cells #[I (0), I (0)] 27), blkE g1 (.cells #[I (q.Facts), vf, vg, va] 25), rdE vf q.First, rdE vg q.Goal, rdE va q.Acts, rdE vh holds] H69 := by rw [show (backL q n holds (u + 1)) = ((backL q n holds u) ++ ([bkTo q n holds (u : Int) q.Acts.length])) from backL_next]; exact hS70
      refine wpL_q (U := NoB) rfl (q_assign (v := v68) rfl rfl) ?_
      exact ⟨v68, a58_2, a58_3, a58_7, a58_8, rfl, a58_30, a58_31, (hS71.drop (sk (sn (sk (sk (sk (sk (sk (sk (sk (sk (List.Sublist.slnil))))))))))))⟩
    rintro f72 H72 ⟨v68, a72_2, a72_3, a72_7, a72_8, a72_10, a72_30, a72_31, hS72⟩
    clear a58_10 a58_11 a58_12 a58_2 a58_3 a58_30 a58_31 a58_55 a58_7 a58_8
    refine wpF_cut (fun f H => f 2 = vh ∧ f 3 = PT g1 0 ∧ f 7 = PT g4 0 ∧ f 8 = PT g9 0 ∧ f 10 = v68 ∧ f 30 = I (n) ∧ f 31 = I ((u : Int) + 1) ∧ H72 = H) ?_ ?_
    · refine wpF_region ?_
      refine wpL_q (U := NoB) rfl (q_add rfl a72_31 rfl (by constructor <;> omega)) ?_
      refine wpL_q (U := NoB) rfl (q_move (v := I ((u : Int) + 1)) rfl rfl) ?_
      exact ⟨a72_2, a72_3, a72_7, a72_8, a72_10, a72_30, rfl, rfl⟩
    rintro f73 _ ⟨a73_2, a73_3, a73_7, a73_8, a73_10, a73_30, a73_31, rfl⟩
    clear a72_10 a72_2 a72_3 a72_30 a72_31 a72_7 a72_8
    refine ⟨_, ?_, u + 1, v68, rfl, (by omega), (all_succ hno h55), a73_2, a73_3, a73_7, a73_8, a73_10, a73_30, (Eq.trans a73_31 (congrArg I (by omega))), hS72⟩
    omega
  have hal := act_lt hQ hn (u := u) (k := k) (by omega) (by omega)
  refine wpF_skip ?_
  refine wpF_seq ?_
  refine wpF_block ?_
  refine wpF_seq ?_
  refine wpF_cut (fun f H => f 2 = vh ∧ f 3 = PT g1 0 ∧ f 7 = PT g4 0 ∧ f 8 = PT g9 0 ∧ f 10 = vo ∧ f 11 = I ((u : Int)) ∧ f 12 = I (bkTo q n holds (u : Int) k) ∧ f 13 = I ((k : Int)) ∧ f 30 = I (n) ∧ f 31 = I ((u : Int)) ∧ f 36 = I ((q.Acts.length : Int)) ∧ f 37 = I ((k : Int)) ∧ H42 = H) ?_ ?_
  · refine wpF_region ?_
    refine wpL_q (U := NoB) rfl (q_move (v := I ((k : Int))) rfl a43_37) ?_
    refine wpL_q (U := NoB) rfl (q_assign (v := I ((k : Int))) rfl rfl) ?_
    exact ⟨a43_2, a43_3, a43_7, a43_8, a43_10, a43_11, a43_12, rfl, a43_30, a43_31, a43_36, a43_37, rfl⟩
  rintro f45 _ ⟨a45_2, a45_3, a45_7, a45_8, a45_10, a45_11, a45_12, a45_13, a45_30, a45_31, a45_36, a45_37, rfl⟩
  clear a43_10 a43_11 a43_12 a43_2 a43_3 a43_30 a43_31 a43_36 a43_37 a43_38 a43_7 a43_8
  refine wpF_seq ?_
  refine wpF_cut (fun f H => f 2 = vh ∧ f 3 = PT g1 0 ∧ f 7 = PT g4 0 ∧ f 8 = PT g9 0 ∧ f 10 = vo ∧ f 11 = I ((u : Int)) ∧ f 12 = I (bkTo q n holds (u : Int) k) ∧ f 13 = I ((k : Int)) ∧ f 30 = I (n) ∧ f 31 = I ((u : Int)) ∧ f 36 = I ((q.Acts.length : Int)) ∧ f 37 = I ((k : Int)) ∧ f 51 = B (decide (((bkTo q n holds (u : Int) k) < 0) ∧ ((nth holds (((actV q n (k : Int) (u : Int)) - 1).toNat)) = true))) ∧ St H0 NoB (fun b => S b ∧ b < H0.size) [rowE 3 vo (backL q n holds u : List Int), blkE g13 (.cells #[I ((chkF q n).1), I ((chkF q n).2)] 27), blkE g9 (.cells #[I (q.Facts), vf, vg, va, I (n), I (0), (Value.slice none 0 0)] 84), blkE g4 (.cells #[I (0), I (0)] 27), blkE g1 (.cells #[I (q.Facts), vf, vg, va] 25), rdE vf q.First, rdE vg q.Goal, rdE va q.Acts, rdE vh holds] H) ?_ ?_
  · refine wpF_region ?_
    refine wpL_q (U := NoB) rfl (q_move (v := I (bkTo q n holds (u : Int) k)) rfl a45_12) ?_
    refine wpL_q (U := NoB) rfl (q_lss rfl rfl rfl) ?_
    refine wpL_q (U := NoB) rfl (q_move (v := B (decide ((bkTo q n holds (u : Int) k) < 0))) rfl rfl) ?_
    by_cases hg46 : (bkTo q n holds (u : Int) k) < 0
    · have hb47 := Eq.trans rfl (congrArg B (decide_eq_true hg46))
      refine wpL_gq (U := NoB) rfl rfl rfl hb47 (q_move (v := vh) rfl a45_2) ?_
      refine wpL_gq (U := NoB) rfl rfl rfl hb47 (q_move (v := PT g9 0) rfl a45_8) ?_
      refine wpL_gq (U := NoB) rfl rfl rfl hb47 (q_move (v := I ((k : Int))) rfl a45_13) ?_
      refine wpL_gq (U := NoB) rfl rfl rfl hb47 (q_move (v := I ((u : Int))) rfl a45_11) ?_
      refine wpL_go rfl rfl rfl hb47 ?_
      refine e_call rfl Try.call56 (arr3 (v0 := PT g9 0) (v1 := I ((k : Int))) (v2 := I ((u : Int))) rfl rfl rfl) (act_E g9 vf vg va ((Value.slice none 0 0)) q n 0 (k : Int) (u : Int) (hS42.blk 2 rfl) (hS42.rdN 7 rfl) hQ hn (by omega) (by omega)) ?_
      rintro _ H49 ⟨hxx, rfl⟩
      have hS50 : St H0 NoB (fun b => S b ∧ b < H0.size) [rowE 3 vo (backL q n holds u : List Int), blkE g13 (.cells #[I ((chkF q n).1), I ((chkF q n).2)] 27), blkE g9 (.cells #[I (q.Facts), vf, vg, va, I (n), I (0), (Value.slice none 0 0)] 84), blkE g4 (.cells #[I (0), I (0)] 27), blkE g1 (.cells #[I (q.Facts), vf, vg, va] 25), rdE vf q.First, rdE vg q.Goal, rdE va q.Acts, rdE vh holds] H49 := hS42.ext hxx
      refine wpL_gq (U := NoB) rfl rfl rfl hb47 (q_sub rfl rfl rfl (by constructor <;> omega)) ?_
      refine wpL_gq (U := NoB) rfl rfl rfl hb47 (q_indexRd (k := ((actV q n (k : Int) (u : Int)) - 1).toNat) rfl Try.underlying29 el_Bool_4_StepB1 rfl rfl (hS50.rdl 8 rfl) (by omega) (by omega)) ?_
      refine wpL_gq (U := NoB) rfl rfl rfl hb47 (q_loadBool (k := ((actV q n (k : Int) (u : Int)) - 1).toNat) rfl rfl el_Bool_4_StepB1 (hS50.rdl 8 rfl) (by omega) (fun _ h => h)) ?_
      refine wpL_q (U := NoB) rfl (q_pickT (v := B (nth holds (((actV q n (k : Int) (u : Int)) - 1).toNat))) rfl hb47 rfl) ?_
      exact ⟨a45_2, a45_3, a45_7, a45_8, a45_10, a45_11, a45_12, a45_13, a45_30, a45_31, a45_36, a45_37, (Eq.trans rfl (congrArg B (bool_congr_of ((Iff.rfl).trans (((and_iff_right hg46).trans Iff.rfl)).symm)))), hS50⟩
    · have hb48 := Eq.trans rfl (congrArg B (decide_eq_false hg46))
      refine wpL_gs rfl rfl rfl hb48 rfl ?_
      refine wpL_gs rfl rfl rfl hb48 rfl ?_
      refine wpL_gs rfl rfl rfl hb48 rfl ?_
      refine wpL_gs rfl rfl rfl hb48 rfl ?_
      refine wpL_gs rfl rfl rfl hb48 rfl ?_
      refine wpL_gs rfl rfl rfl hb48 rfl ?_
      refine wpL_gs rfl rfl rfl hb48 rfl ?_
      refine wpL_gs rfl rfl rfl hb48 rfl ?_
      refine wpL_q (U := NoB) rfl (q_pickF (v := B (false)) rfl hb48 rfl) ?_
      exact ⟨a45_2, a45_3, a45_7, a45_8, a45_10, a45_11, a45_12, a45_13, a45_30, a45_31, a45_36, a45_37, (Eq.trans rfl (congrArg B ((decide_eq_false (fun h => hg46 h.1)).symm))), hS42⟩
  rintro f52 H52 ⟨a52_2, a52_3, a52_7, a52_8, a52_10, a52_11, a52_12, a52_13, a52_30, a52_31, a52_36, a52_37, a52_51, hS52⟩
  clear a45_10 a45_11 a45_12 a45_13 a45_2 a45_3 a45_30 a45_31 a45_36 a45_37 a45_7 a45_8
  refine wpF_cut (fun f H => ∃ (mm : Int), (mm = bkTo q n holds (u : Int) (k + 1)) ∧ f 2 = vh ∧ f 3 = PT g1 0 ∧ f 7 = PT g4 0 ∧ f 8 = PT g9 0 ∧ f 10 = vo ∧ f 11 = I ((u : Int)) ∧ f 12 = I (mm) ∧ f 30 = I (n) ∧ f 31 = I ((u : Int)) ∧ f 36 = I ((q.Acts.length : Int)) ∧ f 37 = I ((k : Int)) ∧ H52 = H) ?_ ?_
  · refine wpF_condP a52_51 (fun h51 => ?t56) (fun h51 => ?e56)
    case e56 =>
      refine wpF_skip ?_
      exact ⟨bkTo q n holds (u : Int) k, (bkTo_no h51).symm, a52_2, a52_3, a52_7, a52_8, a52_10, a52_11, (Eq.trans a52_12 (congrArg I (by omega))), a52_30, a52_31, a52_36, a52_37, rfl⟩
    refine wpF_cut (fun f H => f 2 = vh ∧ f 3 = PT g1 0 ∧ f 7 = PT g4 0 ∧ f 8 = PT g9 0 ∧ f 10 = vo ∧ f 11 = I ((u : Int)) ∧ f 12 = I ((k : Int)) ∧ f 30 = I (n) ∧ f 31 = I ((u : Int)) ∧ f 36 = I ((q.Acts.length : Int)) ∧ f 37 = I ((k : Int)) ∧ H52 = H) ?_ ?_
    · refine wpF_region ?_
      refine wpL_q (U := NoB) rfl (q_move (v := I ((k : Int))) rfl a52_13) ?_
      refine wpL_q (U := NoB) rfl (q_assign (v := I ((k : Int))) rfl rfl) ?_
      exact ⟨a52_2, a52_3, a52_7, a52_8, a52_10, a52_11, rfl, a52_30, a52_31, a52_36, a52_37, rfl⟩
    rintro f55 _ ⟨a55_2, a55_3, a55_7, a55_8, a55_10, a55_11, a55_12, a55_30, a55_31, a55_36, a55_37, rfl⟩
    clear a52_10 a52_11 a52_12 a52_13 a52_2 a52_3 a52_30 a52_31 a52_36 a52_37 a52_51 a52_7 a52_8
    exact ⟨(k : Int), (bkTo_yes h51).symm, a55_2, a55_3, a55_7, a55_8, a55_10, a55_11, a55_12, a55_30, a55_31, a55_36, a55_37, rfl⟩
  rintro f53 _ ⟨mm, hmm, a53_2, a53_3, a53_7, a53_8, a53_10, a53_11, a53_12, a53_30, a53_31, a53_36, a53_37, rfl⟩
  clear a52_10 a52_11 a52_12 a52_13 a52_2 a52_3 a52_30 a52_31 a52_36 a52_37 a52_51 a52_7 a52_8
  refine wpF_cut (fun f H => f 2 = vh ∧ f 3 = PT g1 0 ∧ f 7 = PT g4 0 ∧ f 8 = PT g9 0 ∧ f 10 = vo ∧ f 11 = I ((u : Int)) ∧ f 12 = I (mm) ∧ f 30 = I (n) ∧ f 31 = I ((u : Int)) ∧ f 36 = I ((q.Acts.length : Int)) ∧ f 37 = I ((k : Int) + 1) ∧ H52 = H) ?_ ?_
  · refine wpF_region ?_
    refine wpL_q (U := NoB) rfl (q_add rfl a53_37 rfl (by constructor <;> omega)) ?_
    refine wpL_q (U := NoB) rfl (q_move (v := I ((k : Int) + 1)) rfl rfl) ?_
    exact ⟨a53_2, a53_3, a53_7, a53_8, a53_10, a53_11, a53_12, a53_30, a53_31, a53_36, rfl, rfl⟩
  rintro f57 _ ⟨a57_2, a57_3, a57_7, a57_8, a57_10, a57_11, a57_12, a57_30, a57_31, a57_36, a57_37, rfl⟩
  clear a53_10 a53_11 a53_12 a53_2 a53_3 a53_30 a53_31 a53_36 a53_37 a53_7 a53_8
  refine ⟨_, ?_, k + 1, rfl, (by omega), a57_2, a57_3, a57_7, a57_8, a57_10, a57_11, (Eq.trans a57_12 (congrArg I hmm)), a57_30, a57_31, a57_36, (Eq.trans a57_37 (congrArg I (by omega))), hS52⟩
  omega

end Go.Um
