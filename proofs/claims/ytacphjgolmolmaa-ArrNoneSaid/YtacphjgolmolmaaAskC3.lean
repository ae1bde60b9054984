import Derived.Test.YtacphjgolmolmaaProg
import Derived.Test.YtacphjgolmolmaaAskC2
import Derived.Test.YtacphjgolmolmaaAskOk
import Derived.Test.YtacphjgolmolmaaUmSub
namespace Go.Um
open Go.Proofs
open GoT (sz ag rdc)
open KeyT (kv)

theorem el_Int_3_AskC3 : ElT Try.prog Int 3 := ⟨Try.isAgg3, Try.sizeOf3⟩
theorem em_Int_3_AskC3 : ElemOk Try.prog Int 3 := ⟨Try.t3, (.int .i64 0), by kernel_rfl, by kernel_rfl, by kernel_rfl, by kernel_rfl, by kernel_rfl⟩

set_option maxHeartbeats 2000000 in
set_option maxRecDepth 100000 in
theorem Sorts_L {H0 : Heap} {S : Nat → Prop} (vD vN vH : Value) (a : Ask) (rvD : Rd S H0 vD a.Decls) (rvN : Rd S H0 vN a.Nodes) (rvH : Rd S H0 vH a.Hold) : CallsH Try.prog 7 #[Value.agg #[vD, vN, vH]] H0 (fun rv_ H' => Ext NoB H0 H' ∧ ∃ w0_, rv_ = Value.tuple #[w0_, Value.agg #[I ((sortsF a)).1, I ((sortsF a)).2]] ∧ Rd (fun b => S b ∧ b < H0.size) H' w0_ (sortsL a)) := by
  have hsN : a.Nodes.length * 64 ≤ 140737488355328 := (Rd.list.1 rvN).bound
  have hsH := (Rd.list.1 rvH).small
  have hS0 : St H0 NoB (fun b => S b ∧ b < H0.size) [rdE vD a.Decls, rdE vN a.Nodes, rdE vH a.Hold] H0 := St.arg (St.arg (St.arg (St.start (fun _ h => h.2)) (Bl0.nil) rvH (fun _ h => h.1)) (Bl0.cons (Bl0.nil)) rvN (fun _ h => h.1)) (Bl0.cons (Bl0.cons (Bl0.nil))) rvD (fun _ h => h.1)
  refine callsH_of_wpF (args := [Value.agg #[vD, vN, vH]]) (rs := [.tmp 2, .cell 3 28]) Try.func7 rfl Try.ntmps7 Try.results7 (by kernel_rfl) (Nat.le_of_ble_eq_true rfl) ?_
  have a0_0 : argF [Value.agg #[vD, vN, vH]] 0 = Value.agg #[vD, vN, vH] := rfl
  generalize argF [Value.agg #[vD, vN, vH]] = f0 at *
  refine wpF_seq ?_
  refine wpF_cut (fun f H => ∃ (g1 : Nat), ∃ (g4 : Nat), f 1 = PT g1 0 ∧ f 3 = PT g4 0 ∧ St H0 NoB (fun b => S b ∧ b < H0.size) [blkE g4 (.cells #[I (0), I (0)] 28), blkE g1 (.cells #[vD, vN, vH] 26), rdE vD a.Decls, rdE vN a.Nodes, rdE vH a.Hold] H) ?_ ?_
  · refine wpF_region ?_
    refine wpL_o rfl ?_
    refine e_box (v := Value.agg #[vD, vN, vH]) rfl a0_0 hS0 (fun g1 H2 hS3 hxx => ?_)
    replace hS3 : St H0 NoB (fun b => S b ∧ b < H0.size) [blkE g1 (.cells #[vD, vN, vH] 26), rdE vD a.Decls, rdE vN a.Nodes, rdE vH a.Hold] H2 := hS3
    refine wpL_q (U := NoB) rfl (q_assign (v := (Value.slice none 0 0)) rfl rfl) ?_
    refine wpL_o rfl ?_
    refine e_alloc rfl Try.zeroValue28 hS3 (fun g4 H5 hS6 hxx => ?_)
    replace hS6 : St H0 NoB (fun b => S b ∧ b < H0.size) [blkE g4 (.cells #[I (0), I (0)] 28), blkE g1 (.cells #[vD, vN, vH] 26), rdE vD a.Decls, rdE vN a.Nodes, rdE vH a.Hold] H5 := hS6
    exact ⟨g1, g4, rfl, rfl, hS6⟩
  rintro f7 H7 ⟨g1, g4, a7_1, a7_3, hS7⟩
  clear a0_0
  refine wpF_seq ?_
  refine wpF_seq ?_
  refine wpF_cut (fun f H => ∃ (g11 : Nat), f 1 = PT g1 0 ∧ f 3 = PT g4 0 ∧ f 4 = PT g11 0 ∧ St H0 NoB (fun b => S b ∧ b < H0.size) [blkE g11 (.cells #[I (((declsF a.Decls)).1), I (((declsF a.Decls)).2)] 28), blkE g4 (.cells #[I (0), I (0)] 28), blkE g1 (.cells #[vD, vN, vH] 26), rdE vD a.Decls, rdE vN a.Nodes, rdE vH a.Hold] H) ?_ ?_
  · refine wpF_region ?_
    refine wpL_q (U := NoB) rfl (q_fieldAddr rfl Try.underlying26 rfl Try.sizeOf22 a7_1) ?_
    refine wpL_q (U := NoB) rfl (q_loadBlk rfl rfl Try.isAgg22 (hS7.blk 1 rfl) rfl (fun h => h)) ?_
    refine wpL_o rfl ?_
    refine e_call rfl Try.call20 (arr1 (v0 := vD) rfl) (checkDecls_L vD a.Decls (hS7.rdN 2 rfl) ) ?_
    rintro _ H8 ⟨hxx, rfl⟩
    have hS9 : St H0 NoB (fun b => S b ∧ b < H0.size) [blkE g4 (.cells #[I (0), I (0)] 28), blkE g1 (.cells #[vD, vN, vH] 26), rdE vD a.Decls, rdE vN a.Nodes, rdE vH a.Hold] H8 := hS7.ext hxx
    refine wpL_o rfl ?_
    refine e_alloc rfl Try.zeroValue28 hS9 (fun g11 H12 hS13 hxx => ?_)
    replace hS13 : St H0 NoB (fun b => S b ∧ b < H0.size) [blkE g11 (.cells #[I (0), I (0)] 28), blkE g4 (.cells #[I (0), I (0)] 28), blkE g1 (.cells #[vD, vN, vH] 26), rdE vD a.Decls, rdE vN a.Nodes, rdE vH a.Hold] H12 := hS13
    refine wpL_o rfl ?_
    refine e_storeBlkA (cs' := #[I (((declsF a.Decls)).1), I (((declsF a.Decls)).2)]) rfl rfl rfl Try.sizeOf28 rfl rfl (List.forall_mem_cons.2 ⟨rfl, List.forall_mem_cons.2 ⟨rfl, List.forall_mem_nil _⟩⟩) hS13 (fun H14 hS15 hxx => ?_)
    replace hS15 : St H0 NoB (fun b => S b ∧ b < H0.size) [blkE g11 (.cells #[I (((declsF a.Decls)).1), I (((declsF a.Decls)).2)] 28), blkE g4 (.cells #[I (0), I (0)] 28), blkE g1 (.cells #[vD, vN, vH] 26), rdE vD a.Decls, rdE vN a.Nodes, rdE vH a.Hold] H14 := hS15
    exact ⟨g11, a7_1, a7_3, rfl, hS15⟩
  rintro f16 H16 ⟨g11, a16_1, a16_3, a16_4, hS16⟩
  clear a7_1 a7_3
  refine wpF_seq ?_
  refine wpF_cut (fun f H => f 1 = PT g1 0 ∧ f 3 = PT g4 0 ∧ f 4 = PT g11 0 ∧ f 16 = B (decide ((((declsF a.Decls)).1) ≠ 0)) ∧ H16 = H) ?_ ?_
  · refine wpF_region ?_
    refine wpL_q (U := NoB) rfl (q_fieldAddr rfl Try.underlying28 rfl Try.sizeOf3 a16_4) ?_
    refine wpL_q (U := NoB) rfl (q_loadBlk rfl rfl Try.isAgg3 (hS16.blk 0 rfl) rfl (fun h => h)) ?_
    refine wpL_q (U := NoB) rfl (q_neq rfl rfl rfl) ?_
    exact ⟨a16_1, a16_3, a16_4, rfl, rfl⟩
  rintro f17 _ ⟨a17_1, a17_3, a17_4, a17_16, rfl⟩
  clear a16_1 a16_3 a16_4
  refine wpF_condP a17_16 (fun h16 => ?t88) (fun h16 => ?e88)
  case t88 =>
    refine wpF_seq ?_
    refine wpF_cut (fun f H => f 2 = (Value.slice none 0 0) ∧ f 3 = PT g4 0 ∧ St H0 NoB (fun b => S b ∧ b < H0.size) [blkE g4 (.cells #[I (((declsF a.Decls)).1), I (((declsF a.Decls)).2)] 28), blkE g11 (.cells #[I (((declsF a.Decls)).1), I (((declsF a.Decls)).2)] 28), blkE g1 (.cells #[vD, vN, vH] 26), rdE vD a.Decls, rdE vN a.Nodes, rdE vH a.Hold] H) ?_ ?_
    · refine wpF_drawn [none, none, some 0] [[], [], []] (fun l b => match l with | 0 => True | _ => False) (by kernel_rfl) (by kernel_rfl) ?_
      refine wpR_q 0 (by kernel_rfl) rfl (quietAt rfl rfl (q_loadBlkA rfl a17_4 Try.isAgg28 Try.sizeOf28 rfl (hS16.blk 0 rfl) (labU_not [] rfl (List.forall_mem_nil _)))) ?_
      refine wpR_q 1 (by kernel_rfl) rfl (quietAt rfl rfl (q_assign (v := (Value.slice none 0 0)) rfl rfl)) ?_
      refine wpR_n [2] (by kernel_rfl) ?_
      refine List.forall_mem_cons.2 ⟨?_, List.forall_mem_nil _⟩
      refine exE rfl rfl ?_
      refine e_storeBlkA (cs' := #[I (((declsF a.Decls)).1), I (((declsF a.Decls)).2)]) rfl a17_3 rfl Try.sizeOf28 rfl rfl (List.forall_mem_cons.2 ⟨rfl, List.forall_mem_cons.2 ⟨rfl, List.forall_mem_nil _⟩⟩) (hS16.front 1 rfl) (fun H19o2 hS19o2 hxx => ?_)
      replace hS19o2 : St H0 NoB (fun b => S b ∧ b < H0.size) [blkE g4 (.cells #[I (((declsF a.Decls)).1), I (((declsF a.Decls)).2)] 28), blkE g11 (.cells #[I (((declsF a.Decls)).1), I (((declsF a.Decls)).2)] 28), blkE g1 (.cells #[vD, vN, vH] 26), rdE vD a.Decls, rdE vN a.Nodes, rdE vH a.Hold] H19o2 := hS19o2
      refine ⟨Ext.mono hxx (labS_of 0 rfl (fun _ _ => trivial)), ?_⟩
      refine wpR_end (by kernel_rfl) ?_
      exact ⟨rfl, a17_3, hS19o2⟩
    rintro f20 H20 ⟨a20_2, a20_3, hS20⟩
    clear a17_1 a17_16 a17_3 a17_4
    refine wpF_ret ?_
    refine ⟨_, resT a20_2 (resC a20_3 (loadV_blkA Try.isAgg28 Try.sizeOf28 rfl (hS20.blk 0 rfl)) (resN)), hS20.frame, ?_⟩
    show ∃ w0_, (Value.tuple #[(Value.slice none 0 0), Value.agg #[I (((declsF a.Decls)).1), I (((declsF a.Decls)).2)]]) = Value.tuple #[w0_, Value.agg #[I ((sortsF a)).1, I ((sortsF a)).2]] ∧ Rd (fun b => S b ∧ b < H0.size) H20 w0_ (sortsL a)
    have hq_ : sortsF a = _ := sortsF_decl h16
    exact ⟨_, by rw [hq_], by rw [sortsL_bad (by rw [hq_]; exact h16)]; exact rdNil⟩
  refine wpF_skip ?_
  refine wpF_seq ?_
  refine wpF_seq ?_
  refine wpF_cut (fun f H => f 1 = PT g1 0 ∧ f 3 = PT g4 0 ∧ f 21 = B (decide (200 < (a.Nodes.length : Int))) ∧ H16 = H) ?_ ?_
  · refine wpF_region ?_
    refine wpL_q (U := NoB) rfl (q_fieldAddr rfl Try.underlying26 rfl Try.sizeOf23 a17_1) ?_
    refine wpL_q (U := NoB) rfl (q_loadBlk rfl rfl Try.isAgg23 (hS16.blk 2 rfl) rfl (fun h => h)) ?_
    refine wpL_q (U := NoB) rfl (q_lenRd rfl Try.underlying23 rfl (hS16.rdl 4 rfl)) ?_
    refine wpL_q (U := NoB) rfl (q_gtr rfl rfl rfl) ?_
    exact ⟨a17_1, a17_3, rfl, rfl⟩
  rintro f21 _ ⟨a21_1, a21_3, a21_21, rfl⟩
  clear a17_1 a17_16 a17_3 a17_4
  refine wpF_condP a21_21 (fun h21 => ?t87) (fun h21 => ?e87)
  case t87 =>
    refine wpF_seq ?_
    refine wpF_cut (fun f H => f 2 = (Value.slice none 0 0) ∧ f 3 = PT g4 0 ∧ St H0 NoB (fun b => S b ∧ b < H0.size) [blkE g4 (.cells #[I (2), I (0)] 28), blkE g11 (.cells #[I (((declsF a.Decls)).1), I (((declsF a.Decls)).2)] 28), blkE g1 (.cells #[vD, vN, vH] 26), rdE vD a.Decls, rdE vN a.Nodes, rdE vH a.Hold] H) ?_ ?_
    · refine wpF_region ?_
      refine wpL_q (U := NoB) rfl (q_build (v := Value.agg #[I (2), I (0)]) rfl (par1 (v0 := I (2)) rfl) (fun w => by kernel_rfl)) ?_
      refine wpL_q (U := NoB) rfl (q_assign (v := (Value.slice none 0 0)) rfl rfl) ?_
      refine wpL_o rfl ?_
      refine e_storeBlkA (cs' := #[I (2), I (0)]) rfl a21_3 rfl Try.sizeOf28 rfl rfl (List.forall_mem_cons.2 ⟨rfl, List.forall_mem_cons.2 ⟨rfl, List.forall_mem_nil _⟩⟩) (hS16.front 1 rfl) (fun H23 hS24 hxx => ?_)
      replace hS24 : St H0 NoB (fun b => S b ∧ b < H0.size) [blkE g4 (.cells #[I (2), I (0)] 28), blkE g11 (.cells #[I (((declsF a.Decls)).1), I (((declsF a.Decls)).2)] 28), blkE g1 (.cells #[vD, vN, vH] 26), rdE vD a.Decls, rdE vN a.Nodes, rdE vH a.Hold] H23 := hS24
      exact ⟨rfl, a21_3, hS24⟩
    rintro f25 H25 ⟨a25_2, a25_3, hS25⟩
    clear a21_1 a21_21 a21_3
    refine wpF_ret ?_
    refine ⟨_, resT a25_2 (resC a25_3 (loadV_blkA Try.isAgg28 Try.sizeOf28 rfl (hS25.blk 0 rfl)) (resN)), hS25.frame, ?_⟩
    show ∃ w0_, (Value.tuple #[(Value.slice none 0 0), Value.agg #[I (2), I (0)]]) = Value.tuple #[w0_, Value.agg #[I ((sortsF a)).1, I ((sortsF a)).2]] ∧ Rd (fun b => S b ∧ b < H0.size) H25 w0_ (sortsL a)
    have hq_ : sortsF a = _ := sortsF_many h16 h21
    exact ⟨_, by rw [hq_], by rw [sortsL_bad (by rw [hq_]; decide)]; exact rdNil⟩
  refine wpF_skip ?_
  refine wpF_seq ?_
  refine wpF_cut (fun f H => f 1 = PT g1 0 ∧ f 3 = PT g4 0 ∧ f 5 = (Value.slice none 0 0) ∧ H16 = H) ?_ ?_
  · refine wpF_region ?_
    refine wpL_q (U := NoB) rfl (q_assign (v := (Value.slice none 0 0)) rfl rfl) ?_
    exact ⟨a21_1, a21_3, rfl, rfl⟩
  rintro f26 _ ⟨a26_1, a26_3, a26_5, rfl⟩
  clear a21_1 a21_21 a21_3
  have hS27 : St H0 NoB (fun b => S b ∧ b < H0.size) [rowE 3 (Value.slice none 0 0) ([] : List Int), blkE g11 (.cells #[I (((declsF a.Decls)).1), I (((declsF a.Decls)).2)] 28), blkE g4 (.cells #[I (0), I (0)] 28), blkE g1 (.cells #[vD, vN, vH] 26), rdE vD a.Decls, rdE vN a.Nodes, rdE vH a.Hold] H16 := hS16.row0 3
  refine wpF_seq ?_
  refine wpF_seq ?_
  refine wpF_cut (fun f H => f 1 = PT g1 0 ∧ f 3 = PT g4 0 ∧ f 5 = (Value.slice none 0 0) ∧ f 25 = I ((a.Nodes.length : Int)) ∧ f 26 = I (0) ∧ H16 = H) ?_ ?_
  · refine wpF_region ?_
    refine wpL_q (U := NoB) rfl (q_fieldAddr rfl Try.underlying26 rfl Try.sizeOf23 a26_1) ?_
    refine wpL_q (U := NoB) rfl (q_loadBlk rfl rfl Try.isAgg23 (hS27.blk 3 rfl) rfl (fun h => h)) ?_
    refine wpL_q (U := NoB) rfl (q_lenRd rfl Try.underlying23 rfl (hS27.rdl 5 rfl)) ?_
    refine wpL_q (U := NoB) rfl (q_move (v := I (0)) rfl rfl) ?_
    exact ⟨a26_1, a26_3, a26_5, rfl, rfl, rfl⟩
  rintro f28 _ ⟨a28_1, a28_3, a28_5, a28_25, a28_26, rfl⟩
  clear a26_1 a26_3 a26_5
  refine wpF_block ?_
  refine wpF_loop (fun mz f H => ∃ (k : Nat), ∃ (vo : Value), mz = a.Nodes.length - k ∧ (k ≤ a.Nodes.length) ∧ (∀ j, j < k → (nodeF a j (sortsTo a j)).2 = 0) ∧ f 1 = PT g1 0 ∧ f 3 = PT g4 0 ∧ f 5 = vo ∧ f 25 = I ((a.Nodes.length : Int)) ∧ f 26 = I ((k : Int)) ∧ St H0 NoB (fun b => S b ∧ b < H0.size) [rowE 3 vo (sortsTo a k : List Int), blkE g11 (.cells #[I (((declsF a.Decls)).1), I (((declsF a.Decls)).2)] 28), blkE g4 (.cells #[I (0), I (0)] 28), blkE g1 (.cells #[vD, vN, vH] 26), rdE vD a.Decls, rdE vN a.Nodes, rdE vH a.Hold] H) (a.Nodes.length - 0) ?_ ?_
  · exact ⟨0, (Value.slice none 0 0), rfl, Nat.zero_le _, (fun j hj => absurd hj (Nat.not_lt_zero j)), a28_1, a28_3, a28_5, a28_25, (Eq.trans a28_26 (congrArg I (by omega))), (show St H0 NoB (fun b => S b ∧ b < H0.size) [rowE 3 (Value.slice none 0 0) (sortsTo a 0 : List Int), blkE g11 (.cells #[I (((declsF a.Decls)).1), I (((declsF a.Decls)).2)] 28), blkE g4 (.cells #[I (0), I (0)] 28), blkE g1 (.cells #[vD, vN, vH] 26), rdE vD a.Decls, rdE vN a.Nodes, rdE vH a.Hold] H16 from hS27)⟩
  intro m29 f29 H29 hI29
  obtain ⟨k, vo, hm29, hk, hp, a29_1, a29_3, a29_5, a29_25, a29_26, hS29⟩ := hI29
  clear a28_1 a28_25 a28_26 a28_3 a28_5
  refine wpF_seq ?_
  refine wpF_cut (fun f H => f 1 = PT g1 0 ∧ f 3 = PT g4 0 ∧ f 5 = vo ∧ f 25 = I ((a.Nodes.length : Int)) ∧ f 26 = I ((k : Int)) ∧ f 27 = B (decide ((k : Int) < (a.Nodes.length : Int))) ∧ H29 = H) ?_ ?_
  · refine wpF_region ?_
    refine wpL_q (U := NoB) rfl (q_lss rfl a29_26 a29_25) ?_
    exact ⟨a29_1, a29_3, a29_5, a29_25, a29_26, rfl, rfl⟩
  rintro f30 _ ⟨a30_1, a30_3, a30_5, a30_25, a30_26, a30_27, rfl⟩
  clear a29_1 a29_25 a29_26 a29_3 a29_5
  refine wpF_seq ?_
  refine wpF_condP a30_27 (fun hlt => ?t86) (fun hlt => ?e86)
  case t86 =>
    have hrg := nodeF_rng (a := a) (i := k) (S := sortsTo a k) (Decidable.of_not_not h16) (sortsTo_rng (Decidable.of_not_not h16) k)
    have hsk := sortsTo_len (a := a) k
    unfold sortR at hrg
    refine wpF_skip ?_
    refine wpF_seq ?_
    refine wpF_block ?_
    refine wpF_seq ?_
    refine wpF_cut (fun f H => f 1 = PT g1 0 ∧ f 3 = PT g4 0 ∧ f 5 = vo ∧ f 6 = I ((k : Int)) ∧ f 25 = I ((a.Nodes.length : Int)) ∧ f 26 = I ((k : Int)) ∧ H29 = H) ?_ ?_
    · refine wpF_region ?_
      refine wpL_q (U := NoB) rfl (q_move (v := I ((k : Int))) rfl a30_26) ?_
      refine wpL_q (U := NoB) rfl (q_assign (v := I ((k : Int))) rfl rfl) ?_
      exact ⟨a30_1, a30_3, a30_5, rfl, a30_25, a30_26, rfl⟩
    rintro f32 _ ⟨a32_1, a32_3, a32_5, a32_6, a32_25, a32_26, rfl⟩
    clear a30_1 a30_25 a30_26 a30_27 a30_3 a30_5
    refine wpF_seq ?_
    refine wpF_cut (fun f H => f 1 = PT g1 0 ∧ f 3 = PT g4 0 ∧ f 5 = vo ∧ f 6 = I ((k : Int)) ∧ f 7 = I ((nodeF a k (sortsTo a k)).1) ∧ f 8 = I ((nodeF a k (sortsTo a k)).2) ∧ f 25 = I ((a.Nodes.length : Int)) ∧ f 26 = I ((k : Int)) ∧ St H0 NoB (fun b => S b ∧ b < H0.size) [rowE 3 vo (sortsTo a k : List Int), blkE g11 (.cells #[I (((declsF a.Decls)).1), I (((declsF a.Decls)).2)] 28), blkE g4 (.cells #[I (0), I (0)] 28), blkE g1 (.cells #[vD, vN, vH] 26), rdE vD a.Decls, rdE vN a.Nodes, rdE vH a.Hold] H) ?_ ?_
    · refine wpF_region ?_
      refine wpL_q (U := NoB) rfl (q_loadBlkA rfl a32_1 Try.isAgg26 Try.sizeOf26 rfl (hS29.blk 3 rfl) (fun h => h)) ?_
      refine wpL_q (U := NoB) rfl (q_move (v := I ((k : Int))) rfl a32_6) ?_
      refine wpL_q (U := NoB) rfl (q_move (v := vo) rfl a32_5) ?_
      refine wpL_o rfl ?_
      refine e_call rfl Try.call21 (arr3 (v0 := Value.agg #[vD, vN, vH]) (v1 := I ((k : Int))) (v2 := vo) rfl rfl rfl) (node_L vD vN vH vo a k (sortsTo a k) (hS29.rdN 4 rfl) (hS29.rdN 5 rfl) (hS29.rdN 6 rfl) (hS29.rowN 0 rfl) (by omega) (sortsTo_len _)) ?_
      rintro _ H33 ⟨hxx, rfl⟩
      have hS34 : St H0 NoB (fun b => S b ∧ b < H0.size) [rowE 3 vo (sortsTo a k : List Int), blkE g11 (.cells #[I (((declsF a.Decls)).1), I (((declsF a.Decls)).2)] 28), blkE g4 (.cells #[I (0), I (0)] 28), blkE g1 (.cells #[vD, vN, vH] 26), rdE vD a.Decls, rdE vN a.Nodes, rdE vH a.Hold] H33 := hS29.ext hxx
      refine wpL_q (U := NoB) rfl (q_move (v := Value.tuple #[I ((nodeF a k (sortsTo a k)).1), I ((nodeF a k (sortsTo a k)).2)]) rfl rfl) ?_
      refine wpL_q (U := NoB) rfl (q_extract (vs := #[I ((nodeF a k (sortsTo a k)).1), I ((nodeF a k (sortsTo a k)).2)]) (v := I ((nodeF a k (sortsTo a k)).1)) rfl rfl rfl) ?_
      refine wpL_q (U := NoB) rfl (q_extract (vs := #[I ((nodeF a k (sortsTo a k)).1), I ((nodeF a k (sortsTo a k)).2)]) (v := I ((nodeF a k (sortsTo a k)).2)) rfl rfl rfl) ?_
      refine wpL_q (U := NoB) rfl (q_assign (v := I ((nodeF a k (sortsTo a k)).1)) rfl rfl) ?_
      refine wpL_q (U := NoB) rfl (q_assign (v := I ((nodeF a k (sortsTo a k)).2)) rfl rfl) ?_
      exact ⟨a32_1, a32_3, a32_5, a32_6, rfl, rfl, a32_25, a32_26, hS34⟩
    rintro f36 H36 ⟨a36_1, a36_3, a36_5, a36_6, a36_7, a36_8, a36_25, a36_26, hS36⟩
    clear a32_1 a32_25 a32_26 a32_3 a32_5 a32_6
    refine wpF_seq ?_
    refine wpF_seq ?_
    refine wpF_cut (fun f H => f 1 = PT g1 0 ∧ f 3 = PT g4 0 ∧ f 5 = vo ∧ f 6 = I ((k : Int)) ∧ f 7 = I ((nodeF a k (sortsTo a k)).1) ∧ f 8 = I ((nodeF a k (sortsTo a k)).2) ∧ f 25 = I ((a.Nodes.length : Int)) ∧ f 26 = I ((k : Int)) ∧ f 37 = B (decide (((nodeF a k (sortsTo a k)).2) ≠ 0)) ∧ H36 = H) ?_ ?_
    · refine wpF_region ?_
      refine wpL_q (U := NoB) rfl (q_move (v := I ((nodeF a k (sortsTo a k)).2)) rfl a36_8) ?_
      refine wpL_q (U := NoB) rfl (q_neq rfl rfl rfl) ?_
      exact ⟨a36_1, a36_3, a36_5, a36_6, a36_7, a36_8, a36_25, a36_26, rfl, rfl⟩
    rintro f37 _ ⟨a37_1, a37_3, a37_5, a37_6, a37_7, a37_8, a37_25, a37_26, a37_37, rfl⟩
    clear a36_1 a36_25 a36_26 a36_3 a36_5 a36_6 a36_7 a36_8
    refine wpF_condP a37_37 (fun h37 => ?t53) (fun h37 => ?e53)
    case t53 =>
      refine wpF_seq ?_
      refine wpF_cut (fun f H => f 2 = (Value.slice none 0 0) ∧ f 3 = PT g4 0 ∧ St H0 NoB (fun b => S b ∧ b < H0.size) [blkE g4 (.cells #[I ((nodeF a k (sortsTo a k)).2), I ((k : Int))] 28), rowE 3 vo (sortsTo a k : List Int), blkE g11 (.cells #[I (((declsF a.Decls)).1), I (((declsF a.Decls)).2)] 28), blkE g1 (.cells #[vD, vN, vH] 26), rdE vD a.Decls, rdE vN a.Nodes, rdE vH a.Hold] H) ?_ ?_
      · refine wpF_region ?_
        refine wpL_q (U := NoB) rfl (q_move (v := I ((nodeF a k (sortsTo a k)).2)) rfl a37_8) ?_
        refine wpL_q (U := NoB) rfl (q_move (v := I ((k : Int))) rfl a37_6) ?_
        refine wpL_q (U := NoB) rfl (q_build (v := Value.agg #[I ((nodeF a k (sortsTo a k)).2), I ((k : Int))]) rfl (par2 (v0 := I ((nodeF a k (sortsTo a k)).2)) (v1 := I ((k : Int))) rfl rfl) (fun w => by kernel_rfl)) ?_
        refine wpL_q (U := NoB) rfl (q_assign (v := (Value.slice none 0 0)) rfl rfl) ?_
        refine wpL_o rfl ?_
        refine e_storeBlkA (cs' := #[I ((nodeF a k (sortsTo a k)).2), I ((k : Int))]) rfl a37_3 rfl Try.sizeOf28 rfl rfl (List.forall_mem_cons.2 ⟨rfl, List.forall_mem_cons.2 ⟨rfl, List.forall_mem_nil _⟩⟩) (hS36.front 2 rfl) (fun H39 hS40 hxx => ?_)
        replace hS40 : St H0 NoB (fun b => S b ∧ b < H0.size) [blkE g4 (.cells #[I ((nodeF a k (sortsTo a k)).2), I ((k : Int))] 28), rowE 3 vo (sortsTo a k : List Int), blkE g11 (.cells #[I (((declsF a.Decls)).1), I (((declsF a.Decls)).2)] 28), blkE g1 (.cells #[vD, vN, vH] 26), rdE vD a.Decls, rdE vN a.Nodes, rdE vH a.Hold] H39 := hS40
        exact ⟨rfl, a37_3, hS40⟩
      rintro f41 H41 ⟨a41_2, a41_3, hS41⟩
      clear a37_1 a37_25 a37_26 a37_3 a37_37 a37_5 a37_6 a37_7 a37_8
      refine wpF_ret ?_
      refine ⟨_, resT a41_2 (resC a41_3 (loadV_blkA Try.isAgg28 Try.sizeOf28 rfl (hS41.blk 0 rfl)) (resN)), hS41.frame, ?_⟩
      show ∃ w0_, (Value.tuple #[(Value.slice none 0 0), Value.agg #[I ((nodeF a k (sortsTo a k)).2), I ((k : Int))]]) = Value.tuple #[w0_, Value.agg #[I ((sortsF a)).1, I ((sortsF a)).2]] ∧ Rd (fun b => S b ∧ b < H0.size) H41 w0_ (sortsL a)
      have hq_ : sortsF a = _ := sortsF_node h16 h21 (by omega) hp h37
      exact ⟨_, by rw [hq_], by rw [sortsL_bad (by rw [hq_]; exact h37)]; exact rdNil⟩
    refine wpF_skip ?_
    refine wpF_cut (fun f H => ∃ (v47 : Value), f 1 = PT g1 0 ∧ f 3 = PT g4 0 ∧ f 5 = v47 ∧ f 25 = I ((a.Nodes.length : Int)) ∧ f 26 = I ((k : Int)) ∧ St H0 NoB (fun b => S b ∧ b < H0.size) [rowE 3 v47 (sortsTo a (k + 1) : List Int), blkE g11 (.cells #[I (((declsF a.Decls)).1), I (((declsF a.Decls)).2)] 28), blkE g4 (.cells #[I (0), I (0)] 28), blkE g1 (.cells #[vD, vN, vH] 26), rdE vD a.Decls, rdE vN a.Nodes, rdE vH a.Hold] H) ?_ ?_
    · refine wpF_region ?_
      refine wpL_q (U := NoB) rfl (q_move (v := vo) rfl a37_5) ?_
      refine wpL_q (U := NoB) rfl (q_move (v := I ((nodeF a k (sortsTo a k)).1)) rfl a37_7) ?_
      refine wpL_o rfl ?_
      refine e_buildSlice (vs := [I ((nodeF a k (sortsTo a k)).1)]) (xs := ([(nodeF a k (sortsTo a k)).1] : List Int)) rfl Try.underlying24 Try.zeroValue3 rfl Try.sizeOf3 (par1 (v0 := I ((nodeF a k (sortsTo a k)).1)) rfl) rfl hS36 (RdVs.cons (Rd.int.2 ⟨rfl, by first | assumption | (constructor <;> omega)⟩) (RdVs.nil)) (by decide) (by decide) (fun v42 H43 hS44 hxx hvv42 => ?_)
      replace hS44 : St H0 NoB (fun b => S b ∧ b < H0.size) [rowE 3 v42 ([(nodeF a k (sortsTo a k)).1] : List Int), rowE 3 vo (sortsTo a k : List Int), blkE g11 (.cells #[I (((declsF a.Decls)).1), I (((declsF a.Decls)).2)] 28), blkE g4 (.cells #[I (0), I (0)] 28), blkE g1 (.cells #[vD, vN, vH] 26), rdE vD a.Decls, rdE vN a.Nodes, rdE vH a.Hold] H43 := hS44
      have hS45 : St H0 NoB (fun b => S b ∧ b < H0.size) [rdE v42 ([(nodeF a k (sortsTo a k)).1] : List Int), rowE 3 vo (sortsTo a k : List Int), blkE g11 (.cells #[I (((declsF a.Decls)).1), I (((declsF a.Decls)).2)] 28), blkE g4 (.cells #[I (0), I (0)] 28), blkE g1 (.cells #[vD, vN, vH] 26), rdE vD a.Decls, rdE vN a.Nodes, rdE vH a.Hold] H43 := St.fin hS44
      have hS46 : St H0 NoB (fun b => S b ∧ b < H0.size) [rowE 3 vo (sortsTo a k : List Int), rdE v42 ([(nodeF a k (sortsTo a k)).1] : List Int), blkE g11 (.cells #[I (((declsF a.Decls)).1), I (((declsF a.Decls)).2)] 28), blkE g4 (.cells #[I (0), I (0)] 28), blkE g1 (.cells #[vD, vN, vH] 26), rdE vD a.Decls, rdE vN a.Nodes, rdE vH a.Hold] H43 := (hS45.front 1 rfl)
      refine wpL_o rfl ?_
      refine e_append rfl Try.underlying24 em_Int_3_AskC3 rfl rfl hS46 (hS46.rdS 1 rfl) (fun _ h => h) (by have hb : GoT.bytes Int = 8 := rfl; rw [hb]; simp only [List.length_append, List.length_cons, List.length_nil]; omega) (by decide) (fun v47 H48 hS49 hxx => ?_)
      replace hS49 : St H0 NoB (fun b => S b ∧ b < H0.size) [rowE 3 v47 ((sortsTo a k) ++ ([(nodeF a k (sortsTo a k)).1]) : List Int), rdE v42 ([(nodeF a k (sortsTo a k)).1] : List Int), blkE g11 (.cells #[I (((declsF a.Decls)).1), I (((declsF a.Decls)).2)] 28), blkE g4 (.cells #[I (0), I (0)] 28), blkE g1 (.cells #[vD, vN, vH] 26), rdE vD a.Decls, rdE vN a.Nodes, rdE vH a.Hold] H48 := hS49
      have hS50 : St H0 NoB (fun b => S b ∧ b < H0.size) [rowE 3 v47 (sortsTo a (k + 1) : List Int), rdE v42 ([(nodeF a k (sortsTo a k)).1] : List Int), blkE g11 (.cells #[I (((declsF a.Decls)).1), I (((declsF a.Decls)).2)] 28), blkE g4 (.cells #[I (0), I (0)] 28), blkE g1 (.cells #[vD, vN, vH] 26), rdE vD a.Decls, rdE vN a.Nodes, rdE vH a.Hold] H48 := by rw [show (sortsTo a (k + 1)) = ((sortsTo a k) ++ ([(nodeF a k (sortsTo a k)).1])) from rfl]; exact hS49
      refine wpL_q (U := NoB) rfl (q_assign (v := v47) rfl rfl) ?_
      exact ⟨v47, a37_1, a37_3, rfl, a37_25, a37_26, (hS50.drop (sk (sn (sk (sk (sk (sk (sk (sk (List.Sublist.slnil))))))))))⟩
    rintro f51 H51 ⟨v47, a51_1, a51_3, a51_5, a51_25, a51_26, hS51⟩
    clear a37_1 a37_25 a37_26 a37_3 a37_37 a37_5 a37_6 a37_7 a37_8
    refine wpF_cut (fun f H => f 1 = PT g1 0 ∧ f 3 = PT g4 0 ∧ f 5 = v47 ∧ f 25 = I ((a.Nodes.length : Int)) ∧ f 26 = I ((k : Int) + 1) ∧ H51 = H) ?_ ?_
    · refine wpF_region ?_
      refine wpL_q (U := NoB) rfl (q_add rfl a51_26 rfl (by constructor <;> omega)) ?_
      refine wpL_q (U := NoB) rfl (q_move (v := I ((k : Int) + 1)) rfl rfl) ?_
      exact ⟨a51_1, a51_3, a51_5, a51_25, rfl, rfl⟩
    rintro f52 _ ⟨a52_1, a52_3, a52_5, a52_25, a52_26, rfl⟩
    clear a51_1 a51_25 a51_26 a51_3 a51_5
    refine ⟨_, ?_, k + 1, v47, rfl, (by omega), (all_succ hp (Decidable.of_not_not h37)), a52_1, a52_3, a52_5, a52_25, (Eq.trans a52_26 (congrArg I (by omega))), hS51⟩
    omega
  obtain rfl : k = a.Nodes.length := by omega
  have hsk := sortsTo_len (a := a) a.Nodes.length
  refine wpF_exit ?_
  refine atX_here ?_
  refine wpF_seq ?_
  refine wpF_seq ?_
  refine wpF_cut (fun f H => f 1 = PT g1 0 ∧ f 3 = PT g4 0 ∧ f 5 = vo ∧ f 49 = B (decide (200 < (a.Hold.length : Int))) ∧ H29 = H) ?_ ?_
  · refine wpF_region ?_
    refine wpL_q (U := NoB) rfl (q_fieldAddr rfl Try.underlying26 rfl Try.sizeOf24 a30_1) ?_
    refine wpL_q (U := NoB) rfl (q_loadBlk rfl rfl Try.isAgg24 (hS29.blk 3 rfl) rfl (fun h => h)) ?_
    refine wpL_q (U := NoB) rfl (q_lenRd rfl Try.underlying24 rfl (hS29.rdl 6 rfl)) ?_
    refine wpL_q (U := NoB) rfl (q_gtr rfl rfl rfl) ?_
    exact ⟨a30_1, a30_3, a30_5, rfl, rfl⟩
  rintro f54 _ ⟨a54_1, a54_3, a54_5, a54_49, rfl⟩
  clear a30_1 a30_25 a30_26 a30_27 a30_3 a30_5
  refine wpF_condP a54_49 (fun h49 => ?t85) (fun h49 => ?e85)
  case t85 =>
    refine wpF_seq ?_
    refine wpF_cut (fun f H => f 2 = (Value.slice none 0 0) ∧ f 3 = PT g4 0 ∧ St H0 NoB (fun b => S b ∧ b < H0.size) [blkE g4 (.cells #[I (2), I (0)] 28), rowE 3 vo (sortsTo a a.Nodes.length : List Int), blkE g11 (.cells #[I (((declsF a.Decls)).1), I (((declsF a.Decls)).2)] 28), blkE g1 (.cells #[vD, vN, vH] 26), rdE vD a.Decls, rdE vN a.Nodes, rdE vH a.Hold] H) ?_ ?_
    · refine wpF_region ?_
      refine wpL_q (U := NoB) rfl (q_build (v := Value.agg #[I (2), I (0)]) rfl (par1 (v0 := I (2)) rfl) (fun w => by kernel_rfl)) ?_
      refine wpL_q (U := NoB) rfl (q_assign (v := (Value.slice none 0 0)) rfl rfl) ?_
      refine wpL_o rfl ?_
      refine e_storeBlkA (cs' := #[I (2), I (0)]) rfl a54_3 rfl Try.sizeOf28 rfl rfl (List.forall_mem_cons.2 ⟨rfl, List.forall_mem_cons.2 ⟨rfl, List.forall_mem_nil _⟩⟩) (hS29.front 2 rfl) (fun H56 hS57 hxx => ?_)
      replace hS57 : St H0 NoB (fun b => S b ∧ b < H0.size) [blkE g4 (.cells #[I (2), I (0)] 28), rowE 3 vo (sortsTo a a.Nodes.length : List Int), blkE g11 (.cells #[I (((declsF a.Decls)).1), I (((declsF a.Decls)).2)] 28), blkE g1 (.cells #[vD, vN, vH] 26), rdE vD a.Decls, rdE vN a.Nodes, rdE vH a.Hold] H56 := hS57
      exact ⟨rfl, a54_3, hS57⟩
    rintro f58 H58 ⟨a58_2, a58_3, hS58⟩
    clear a54_1 a54_3 a54_49 a54_5
    refine wpF_ret ?_
    refine ⟨_, resT a58_2 (resC a58_3 (loadV_blkA Try.isAgg28 Try.sizeOf28 rfl (hS58.blk 0 rfl)) (resN)), hS58.frame, ?_⟩
    show ∃ w0_, (Value.tuple #[(Value.slice none 0 0), Value.agg #[I (2), I (0)]]) = Value.tuple #[w0_, Value.agg #[I ((sortsF a)).1, I ((sortsF a)).2]] ∧ Rd (fun b => S b ∧ b < H0.size) H58 w0_ (sortsL a)
    have hq_ : sortsF a = _ := sortsF_holds h16 h21 hp h49
    exact ⟨_, by rw [hq_], by rw [sortsL_bad (by rw [hq_]; decide)]; exact rdNil⟩
  refine wpF_skip ?_
  refine wpF_seq ?_
  refine wpF_seq ?_
  refine wpF_cut (fun f H => f 3 = PT g4 0 ∧ f 5 = vo ∧ f 52 = vH ∧ f 53 = I ((a.Hold.length : Int)) ∧ f 54 = I (0) ∧ H29 = H) ?_ ?_
  · refine wpF_region ?_
    refine wpL_q (U := NoB) rfl (q_fieldAddr rfl Try.underlying26 rfl Try.sizeOf24 a54_1) ?_
    refine wpL_q (U := NoB) rfl (q_loadBlk rfl rfl Try.isAgg24 (hS29.blk 3 rfl) rfl (fun h => h)) ?_
    refine wpL_q (U := NoB) rfl (q_lenRd rfl Try.underlying24 rfl (hS29.rdl 6 rfl)) ?_
    refine wpL_q (U := NoB) rfl (q_move (v := I (0)) rfl rfl) ?_
    exact ⟨a54_3, a54_5, rfl, rfl, rfl, rfl⟩
  rintro f59 _ ⟨a59_3, a59_5, a59_52, a59_53, a59_54, rfl⟩
  clear a54_1 a54_3 a54_49 a54_5
  refine wpF_block ?_
  refine wpF_loop (fun mz f H => ∃ (u : Nat), mz = a.Hold.length - u ∧ (u ≤ a.Hold.length) ∧ (∀ j, j < u → holdBad a j = none) ∧ f 3 = PT g4 0 ∧ f 5 = vo ∧ f 52 = vH ∧ f 53 = I ((a.Hold.length : Int)) ∧ f 54 = I ((u : Int)) ∧ St H0 NoB (fun b => S b ∧ b < H0.size) [rowE 3 vo (sortsTo a a.Nodes.length : List Int), blkE g11 (.cells #[I (((declsF a.Decls)).1), I (((declsF a.Decls)).2)] 28), blkE g4 (.cells #[I (0), I (0)] 28), blkE g1 (.cells #[vD, vN, vH] 26), rdE vD a.Decls, rdE vN a.Nodes, rdE vH a.Hold] H) (a.Hold.length - 0) ?_ ?_
  · exact ⟨0, rfl, Nat.zero_le _, (fun j hj => absurd hj (Nat.not_lt_zero j)), a59_3, a59_5, a59_52, a59_53, (Eq.trans a59_54 (congrArg I (by omega))), hS29⟩
  intro m60 f60 H60 hI60
  obtain ⟨u, hm60, hu, hq, a60_3, a60_5, a60_52, a60_53, a60_54, hS60⟩ := hI60
  clear a59_3 a59_5 a59_52 a59_53 a59_54
  refine wpF_seq ?_
  refine wpF_cut (fun f H => f 3 = PT g4 0 ∧ f 5 = vo ∧ f 52 = vH ∧ f 53 = I ((a.Hold.length : Int)) ∧ f 54 = I ((u : Int)) ∧ f 55 = B (decide ((u : Int) < (a.Hold.length : Int))) ∧ H60 = H) ?_ ?_
  · refine wpF_region ?_
    refine wpL_q (U := NoB) rfl (q_lss rfl a60_54 a60_53) ?_
    exact ⟨a60_3, a60_5, a60_52, a60_53, a60_54, rfl, rfl⟩
  rintro f61 _ ⟨a61_3, a61_5, a61_52, a61_53, a61_54, a61_55, rfl⟩
  clear a60_3 a60_5 a60_52 a60_53 a60_54
  refine wpF_seq ?_
  refine wpF_condP a61_55 (fun hlt2 => ?t84) (fun hlt2 => ?e84)
  case e84 =>
    refine wpF_exit ?_
    refine atX_here ?_
    refine wpF_seq ?_
    refine wpF_cut (fun f H => f 2 = vo ∧ f 3 = PT g4 0 ∧ St H0 NoB (fun b => S b ∧ b < H0.size) [blkE g4 (.cells #[I (0), I (0)] 28), rowE 3 vo (sortsTo a a.Nodes.length : List Int), blkE g11 (.cells #[I (((declsF a.Decls)).1), I (((declsF a.Decls)).2)] 28), blkE g1 (.cells #[vD, vN, vH] 26), rdE vD a.Decls, rdE vN a.Nodes, rdE vH a.Hold] H) ?_ ?_
    · refine wpF_region ?_
      refine wpL_q (U := NoB) rfl (q_move (v := vo) rfl a61_5) ?_
      refine wpL_q (U := NoB) rfl (q_build (v := Value.agg #[I (0), I (0)]) rfl par0 (fun w => by kernel_rfl)) ?_
      refine wpL_q (U := NoB) rfl (q_assign (v := vo) rfl rfl) ?_
      refine wpL_o rfl ?_
      refine e_storeBlkA (cs' := #[I (0), I (0)]) rfl a61_3 rfl Try.sizeOf28 rfl rfl (List.forall_mem_cons.2 ⟨rfl, List.forall_mem_cons.2 ⟨rfl, List.forall_mem_nil _⟩⟩) (hS60.front 2 rfl) (fun H80 hS81 hxx => ?_)
      replace hS81 : St H0 NoB (fun b => S b ∧ b < H0.size) [blkE g4 (.cells #[I (0), I (0)] 28), rowE 3 vo (sortsTo a a.Nodes.length : List Int), blkE g11 (.cells #[I (((declsF a.Decls)).1), I (((declsF a.Decls)).2)] 28), blkE g1 (.cells #[vD, vN, vH] 26), rdE vD a.Decls, rdE vN a.Nodes, rdE vH a.Hold] H80 := hS81
      exact ⟨rfl, a61_3, hS81⟩
    rintro f82 H82 ⟨a82_2, a82_3, hS82⟩
    clear a61_3 a61_5 a61_52 a61_53 a61_54 a61_55
    refine wpF_ret ?_
    refine ⟨_, resT a82_2 (resC a82_3 (loadV_blkA Try.isAgg28 Try.sizeOf28 rfl (hS82.blk 0 rfl)) (resN)), hS82.frame, ?_⟩
    show ∃ w0_, (Value.tuple #[vo, Value.agg #[I (0), I (0)]]) = Value.tuple #[w0_, Value.agg #[I ((sortsF a)).1, I ((sortsF a)).2]] ∧ Rd (fun b => S b ∧ b < H0.size) H82 w0_ (sortsL a)
    have hS83 : St H0 NoB (fun b => S b ∧ b < H0.size) [rdE vo (sortsTo a a.Nodes.length), blkE g4 (.cells #[I (0), I (0)] 28), blkE g11 (.cells #[I (((declsF a.Decls)).1), I (((declsF a.Decls)).2)] 28), blkE g1 (.cells #[vD, vN, vH] 26), rdE vD a.Decls, rdE vN a.Nodes, rdE vH a.Hold] H82 := St.fin (hS82.front 1 rfl)
    have hq_ : sortsF a = _ := sortsF_ok h16 h21 hp h49 fun j hj => hq j (by omega)
    exact ⟨_, by rw [hq_], by rw [sortsL_ok hq_]; exact (hS83.result (hS83.rdS 0 rfl))⟩
  refine wpF_skip ?_
  refine wpF_seq ?_
  refine wpF_block ?_
  refine wpF_seq ?_
  refine wpF_cut (fun f H => f 3 = PT g4 0 ∧ f 5 = vo ∧ f 9 = I ((u : Int)) ∧ f 10 = I (nth a.Hold u) ∧ f 52 = vH ∧ f 53 = I ((a.Hold.length : Int)) ∧ f 54 = I ((u : Int)) ∧ H60 = H) ?_ ?_
  · refine wpF_region ?_
    refine wpL_q (U := NoB) rfl (q_move (v := I ((u : Int))) rfl a61_54) ?_
    refine wpL_q (U := NoB) rfl (q_indexRd (k := u) rfl Try.underlying24 el_Int_3_AskC3 a61_52 a61_54 (hS60.rdl 6 rfl) (by omega) (by omega)) ?_
    refine wpL_q (U := NoB) rfl (q_loadInt (k := u) rfl rfl el_Int_3_AskC3 (hS60.rdl 6 rfl) (by omega) (fun _ h => h)) ?_
    refine wpL_q (U := NoB) rfl (q_assign (v := I ((u : Int))) rfl rfl) ?_
    refine wpL_q (U := NoB) rfl (q_assign (v := I (nth a.Hold u)) rfl rfl) ?_
    exact ⟨a61_3, a61_5, rfl, rfl, a61_52, a61_53, a61_54, rfl⟩
  rintro f63 _ ⟨a63_3, a63_5, a63_9, a63_10, a63_52, a63_53, a63_54, rfl⟩
  clear a61_3 a61_5 a61_52 a61_53 a61_54 a61_55
  refine wpF_block ?_
  refine wpF_seq ?_
  refine wpF_cut (fun f H => f 3 = PT g4 0 ∧ f 5 = vo ∧ f 9 = I ((u : Int)) ∧ f 10 = I (nth a.Hold u) ∧ f 52 = vH ∧ f 53 = I ((a.Hold.length : Int)) ∧ f 54 = I ((u : Int)) ∧ f 59 = B (decide (((nth a.Hold u) < 0) ∨ (((sortsTo a a.Nodes.length).length : Int) ≤ (nth a.Hold u)))) ∧ H60 = H) ?_ ?_
  · refine wpF_region ?_
    refine wpL_q (U := NoB) rfl (q_move (v := I (nth a.Hold u)) rfl a63_10) ?_
    refine wpL_q (U := NoB) rfl (q_lss rfl rfl rfl) ?_
    refine wpL_q (U := NoB) rfl (q_move (v := B (decide ((nth a.Hold u) < 0))) rfl rfl) ?_
    by_cases hg64 : (nth a.Hold u) < 0
    · have hb65 := Eq.trans rfl (congrArg B (decide_eq_true hg64))
      refine wpL_gs rfl rfl rfl hb65 rfl ?_
      refine wpL_gs rfl rfl rfl hb65 rfl ?_
      refine wpL_gs rfl rfl rfl hb65 rfl ?_
      refine wpL_gs rfl rfl rfl hb65 rfl ?_
      refine wpL_q (U := NoB) rfl (q_pickT (v := B (true)) rfl hb65 rfl) ?_
      refine wpL_q (U := NoB) rfl (q_assign (v := B (true)) rfl rfl) ?_
      exact ⟨a63_3, a63_5, a63_9, a63_10, a63_52, a63_53, a63_54, (Eq.trans rfl (congrArg B ((decide_eq_true (Or.inl hg64)).symm))), rfl⟩
    · have hb66 := Eq.trans rfl (congrArg B (decide_eq_false hg64))
      refine wpL_gq (U := NoB) rfl rfl rfl hb66 (q_move (v := I (nth a.Hold u)) rfl a63_10) ?_
      refine wpL_gq (U := NoB) rfl rfl rfl hb66 (q_move (v := vo) rfl a63_5) ?_
      refine wpL_gq (U := NoB) rfl rfl rfl hb66 (q_lenRd rfl Try.underlying24 rfl (hS60.rowl 0 rfl)) ?_
      refine wpL_gq (U := NoB) rfl rfl rfl hb66 (q_geq rfl rfl rfl) ?_
      refine wpL_q (U := NoB) rfl (q_pickF (v := B (decide (((sortsTo a a.Nodes.length).length : Int) ≤ (nth a.Hold u)))) rfl hb66 rfl) ?_
      refine wpL_q (U := NoB) rfl (q_assign (v := B (decide (((sortsTo a a.Nodes.length).length : Int) ≤ (nth a.Hold u)))) rfl rfl) ?_
      exact ⟨a63_3, a63_5, a63_9, a63_10, a63_52, a63_53, a63_54, (Eq.trans rfl (congrArg B (decide_congr_of ((Iff.rfl).trans (((or_iff_right hg64).trans Iff.rfl)).symm)))), rfl⟩
  rintro f67 _ ⟨a67_3, a67_5, a67_9, a67_10, a67_52, a67_53, a67_54, a67_59, rfl⟩
  clear a63_10 a63_3 a63_5 a63_52 a63_53 a63_54 a63_9
  refine wpF_condP a67_59 (fun h59 => ?t79) (fun h59 => ?e79)
  case t79 =>
    refine wpF_seq ?_
    refine wpF_cut (fun f H => f 2 = (Value.slice none 0 0) ∧ f 3 = PT g4 0 ∧ St H0 NoB (fun b => S b ∧ b < H0.size) [blkE g4 (.cells #[I (3), I ((u : Int))] 28), rowE 3 vo (sortsTo a a.Nodes.length : List Int), blkE g11 (.cells #[I (((declsF a.Decls)).1), I (((declsF a.Decls)).2)] 28), blkE g1 (.cells #[vD, vN, vH] 26), rdE vD a.Decls, rdE vN a.Nodes, rdE vH a.Hold] H) ?_ ?_
    · refine wpF_region ?_
      refine wpL_q (U := NoB) rfl (q_move (v := I ((u : Int))) rfl a67_9) ?_
      refine wpL_q (U := NoB) rfl (q_build (v := Value.agg #[I (3), I ((u : Int))]) rfl (par2 (v0 := I (3)) (v1 := I ((u : Int))) rfl rfl) (fun w => by kernel_rfl)) ?_
      refine wpL_q (U := NoB) rfl (q_assign (v := (Value.slice none 0 0)) rfl rfl) ?_
      refine wpL_o rfl ?_
      refine e_storeBlkA (cs' := #[I (3), I ((u : Int))]) rfl a67_3 rfl Try.sizeOf28 rfl rfl (List.forall_mem_cons.2 ⟨rfl, List.forall_mem_cons.2 ⟨rfl, List.forall_mem_nil _⟩⟩) (hS60.front 2 rfl) (fun H69 hS70 hxx => ?_)
      replace hS70 : St H0 NoB (fun b => S b ∧ b < H0.size) [blkE g4 (.cells #[I (3), I ((u : Int))] 28), rowE 3 vo (sortsTo a a.Nodes.length : List Int), blkE g11 (.cells #[I (((declsF a.Decls)).1), I (((declsF a.Decls)).2)] 28), blkE g1 (.cells #[vD, vN, vH] 26), rdE vD a.Decls, rdE vN a.Nodes, rdE vH a.Hold] H69 := hS70
      exact ⟨rfl, a67_3, hS70⟩
    rintro f71 H71 ⟨a71_2, a71_3, hS71⟩
    clear a67_10 a67_3 a67_5 a67_52 a67_53 a67_54 a67_59 a67_9
    refine wpF_ret ?_
    refine ⟨_, resT a71_2 (resC a71_3 (loadV_blkA Try.isAgg28 Try.sizeOf28 rfl (hS71.blk 0 rfl)) (resN)), hS71.frame, ?_⟩
    show ∃ w0_, (Value.tuple #[(Value.slice none 0 0), Value.agg #[I (3), I ((u : Int))]]) = Value.tuple #[w0_, Value.agg #[I ((sortsF a)).1, I ((sortsF a)).2]] ∧ Rd (fun b => S b ∧ b < H0.size) H71 w0_ (sortsL a)
    have hq_ : sortsF a = _ := sortsF_hold h16 h21 hp h49 (by omega) hq (holdBad_range (by rw [sortsTo_len] at h59; exact h59))
    exact ⟨_, by rw [hq_], by rw [sortsL_bad (by rw [hq_]; exact (by decide : (3 : Int) ≠ 0))]; exact rdNil⟩
  refine wpF_seq ?_
  refine wpF_cut (fun f H => f 3 = PT g4 0 ∧ f 5 = vo ∧ f 9 = I ((u : Int)) ∧ f 52 = vH ∧ f 53 = I ((a.Hold.length : Int)) ∧ f 54 = I ((u : Int)) ∧ f 70 = B (decide ((nth (sortsTo a a.Nodes.length) ((nth a.Hold u).toNat)) ≠ 1)) ∧ H60 = H) ?_ ?_
  · refine wpF_region ?_
    refine wpL_q (U := NoB) rfl (q_move (v := vo) rfl a67_5) ?_
    refine wpL_q (U := NoB) rfl (q_move (v := I (nth a.Hold u)) rfl a67_10) ?_
    refine wpL_q (U := NoB) rfl (q_indexRd (k := (nth a.Hold u).toNat) rfl Try.underlying24 el_Int_3_AskC3 rfl rfl (hS60.rowl 0 rfl) (by omega) (by omega)) ?_
    refine wpL_q (U := NoB) rfl (q_loadInt (k := (nth a.Hold u).toNat) rfl rfl el_Int_3_AskC3 (hS60.rowl 0 rfl) (by omega) (fun _ h => h)) ?_
    refine wpL_q (U := NoB) rfl (q_neq rfl rfl rfl) ?_
    refine wpL_q (U := NoB) rfl (q_assign (v := B (decide ((nth (sortsTo a a.Nodes.length) ((nth a.Hold u).toNat)) ≠ 1))) rfl rfl) ?_
    exact ⟨a67_3, a67_5, a67_9, a67_52, a67_53, a67_54, rfl, rfl⟩
  rintro f72 _ ⟨a72_3, a72_5, a72_9, a72_52, a72_53, a72_54, a72_70, rfl⟩
  clear a67_10 a67_3 a67_5 a67_52 a67_53 a67_54 a67_59 a67_9
  refine wpF_condP a72_70 (fun h70 => ?t78) (fun h70 => ?e78)
  case e78 =>
    refine wpF_skip ?_
    refine wpF_cut (fun f H => f 3 = PT g4 0 ∧ f 5 = vo ∧ f 52 = vH ∧ f 53 = I ((a.Hold.length : Int)) ∧ f 54 = I ((u : Int) + 1) ∧ H60 = H) ?_ ?_
    · refine wpF_region ?_
      refine wpL_q (U := NoB) rfl (q_add rfl a72_54 rfl (by constructor <;> omega)) ?_
      refine wpL_q (U := NoB) rfl (q_move (v := I ((u : Int) + 1)) rfl rfl) ?_
      exact ⟨a72_3, a72_5, a72_52, a72_53, rfl, rfl⟩
    rintro f77 _ ⟨a77_3, a77_5, a77_52, a77_53, a77_54, rfl⟩
    clear a72_3 a72_5 a72_52 a72_53 a72_54 a72_70 a72_9
    refine ⟨_, ?_, u + 1, rfl, (by omega), (all_succ hq (holdBad_no (by rw [sortsTo_len] at h59; exact h59) h70)), a77_3, a77_5, a77_52, a77_53, (Eq.trans a77_54 (congrArg I (by omega))), hS60⟩
    omega
  refine wpF_seq ?_
  refine wpF_cut (fun f H => f 2 = (Value.slice none 0 0) ∧ f 3 = PT g4 0 ∧ St H0 NoB (fun b => S b ∧ b < H0.size) [blkE g4 (.cells #[I (8), I ((u : Int))] 28), rowE 3 vo (sortsTo a a.Nodes.length : List Int), blkE g11 (.cells #[I (((declsF a.Decls)).1), I (((declsF a.Decls)).2)] 28), blkE g1 (.cells #[vD, vN, vH] 26), rdE vD a.Decls, rdE vN a.Nodes, rdE vH a.Hold] H) ?_ ?_
  · refine wpF_region ?_
    refine wpL_q (U := NoB) rfl (q_move (v := I ((u : Int))) rfl a72_9) ?_
    refine wpL_q (U := NoB) rfl (q_build (v := Value.agg #[I (8), I ((u : Int))]) rfl (par2 (v0 := I (8)) (v1 := I ((u : Int))) rfl rfl) (fun w => by kernel_rfl)) ?_
    refine wpL_q (U := NoB) rfl (q_assign (v := (Value.slice none 0 0)) rfl rfl) ?_
    refine wpL_o rfl ?_
    refine e_storeBlkA (cs' := #[I (8), I ((u : Int))]) rfl a72_3 rfl Try.sizeOf28 rfl rfl (List.forall_mem_cons.2 ⟨rfl, List.forall_mem_cons.2 ⟨rfl, List.forall_mem_nil _⟩⟩) (hS60.front 2 rfl) (fun H74 hS75 hxx => ?_)
    replace hS75 : St H0 NoB (fun b => S b ∧ b < H0.size) [blkE g4 (.cells #[I (8), I ((u : Int))] 28), rowE 3 vo (sortsTo a a.Nodes.length : List Int), blkE g11 (.cells #[I (((declsF a.Decls)).1), I (((declsF a.Decls)).2)] 28), blkE g1 (.cells #[vD, vN, vH] 26), rdE vD a.Decls, rdE vN a.Nodes, rdE vH a.Hold] H74 := hS75
    exact ⟨rfl, a72_3, hS75⟩
  rintro f76 H76 ⟨a76_2, a76_3, hS76⟩
  clear a72_3 a72_5 a72_52 a72_53 a72_54 a72_70 a72_9
  refine wpF_ret ?_
  refine ⟨_, resT a76_2 (resC a76_3 (loadV_blkA Try.isAgg28 Try.sizeOf28 rfl (hS76.blk 0 rfl)) (resN)), hS76.frame, ?_⟩
  show ∃ w0_, (Value.tuple #[(Value.slice none 0 0), Value.agg #[I (8), I ((u : Int))]]) = Value.tuple #[w0_, Value.agg #[I ((sortsF a)).1, I ((sortsF a)).2]] ∧ Rd (fun b => S b ∧ b < H0.size) H76 w0_ (sortsL a)
  have hq_ : sortsF a = _ := sortsF_hold h16 h21 hp h49 (by omega) hq (holdBad_sort (by rw [sortsTo_len] at h59; exact h59) h70)
  exact ⟨_, by rw [hq_], by rw [sortsL_bad (by rw [hq_]; exact (by decide : (8 : Int) ≠ 0))]; exact rdNil⟩

end Go.Um
