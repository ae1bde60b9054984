import Derived.Test.YtpdcejallbbncaaProg
import Derived.Test.YtpdcejallbbncaaStepT1
import Derived.Test.YtpdcejallbbncaaUmSub
namespace Go.Um
open Go.Proofs
open GoT (sz ag rdc)
open KeyT (kv)

theorem el_Int_3_StepD1 : ElT Try.prog Int 3 := ⟨Try.isAgg3, Try.sizeOf3⟩

set_option maxHeartbeats 1000000 in
set_option maxRecDepth 100000 in
theorem check_E {H0 : Heap} {S : Nat → Prop} (vf vg va : Value) (q : Quest) (n : Int) (h6qFacts : In64 q.Facts) (rvf : Rd S H0 vf q.First) (rvg : Rd S H0 vg q.Goal) (rva : Rd S H0 va q.Acts) (hni : In64 n) : CallsH Try.prog 50 #[Value.agg #[I (q.Facts), vf, vg, va], I (n)] H0 (fun rv_ H' => Ext NoB H0 H' ∧ ∃ pe_ g_, rv_ = Value.tuple #[pe_, Value.agg #[I (chkF q n).1, I (chkF q n).2]] ∧ ((chkF q n).1 = 0 → pe_ = PT g_ 0) ∧ Fresh S [whenE ((chkF q n).1 = 0) (blkE g_ (.cells #[I q.Facts, vf, vg, va, I n, I 0, .slice none 0 0] 84))] H0 H') := by
  have hsa := (Rd.list.1 rva).small
  have hS0 : St H0 NoB (fun b => S b ∧ b < H0.size) [rdE vf q.First, rdE vg q.Goal, rdE va q.Acts] H0 := St.arg (St.arg (St.arg (St.start (fun _ h => h.2)) (Bl0.nil) rva (fun _ h => h.1)) (Bl0.cons (Bl0.nil)) rvg (fun _ h => h.1)) (Bl0.cons (Bl0.cons (Bl0.nil))) rvf (fun _ h => h.1)
  refine callsH_of_wpF (args := [Value.agg #[I (q.Facts), vf, vg, va], I (n)]) (rs := [.tmp 4, .cell 5 27]) Try.func50 rfl Try.ntmps50 Try.results50 (by kernel_rfl) (Nat.le_of_ble_eq_true rfl) ?_
  have a0_0 : argF [Value.agg #[I (q.Facts), vf, vg, va], I (n)] 0 = Value.agg #[I (q.Facts), vf, vg, va] := rfl
  have a0_1 : argF [Value.agg #[I (q.Facts), vf, vg, va], I (n)] 1 = I (n) := rfl
  generalize argF [Value.agg #[I (q.Facts), vf, vg, va], I (n)] = f0 at *
  refine wpF_seq ?_
  refine wpF_cut (fun f H => ∃ (g1 : Nat), ∃ (g4 : Nat), f 1 = I (n) ∧ f 2 = PT g1 0 ∧ f 5 = PT g4 0 ∧ St H0 NoB (fun b => S b ∧ b < H0.size) [blkE g4 (.cells #[I (0), I (0)] 27), blkE g1 (.cells #[I (q.Facts), vf, vg, va] 25), rdE vf q.First, rdE vg q.Goal, rdE va q.Acts] H) ?_ ?_
  · refine wpF_region ?_
    refine wpL_o rfl ?_
    refine e_box (v := Value.agg #[I (q.Facts), vf, vg, va]) rfl a0_0 hS0 (fun g1 H2 hS3 hxx => ?_)
    replace hS3 : St H0 NoB (fun b => S b ∧ b < H0.size) [blkE g1 (.cells #[I (q.Facts), vf, vg, va] 25), rdE vf q.First, rdE vg q.Goal, rdE va q.Acts] H2 := hS3
    refine wpL_q (U := NoB) rfl (q_assign (v := (Value.pointer none)) rfl rfl) ?_
    refine wpL_o rfl ?_
    refine e_alloc rfl Try.zeroValue27 hS3 (fun g4 H5 hS6 hxx => ?_)
    replace hS6 : St H0 NoB (fun b => S b ∧ b < H0.size) [blkE g4 (.cells #[I (0), I (0)] 27), blkE g1 (.cells #[I (q.Facts), vf, vg, va] 25), rdE vf q.First, rdE vg q.Goal, rdE va q.Acts] H5 := hS6
    exact ⟨g1, g4, a0_1, rfl, rfl, hS6⟩
  rintro f7 H7 ⟨g1, g4, a7_1, a7_2, a7_5, hS7⟩
  clear a0_0 a0_1
  refine wpF_seq ?_
  refine wpF_seq ?_
  refine wpF_cut (fun f H => ∃ (g11 : Nat), f 1 = I (n) ∧ f 2 = PT g1 0 ∧ f 5 = PT g4 0 ∧ f 6 = PT g11 0 ∧ St H0 NoB (fun b => S b ∧ b < H0.size) [blkE g11 (.cells #[I ((questFault q).1), I ((questFault q).2)] 27), blkE g4 (.cells #[I (0), I (0)] 27), blkE g1 (.cells #[I (q.Facts), vf, vg, va] 25), rdE vf q.First, rdE vg q.Goal, rdE va q.Acts] H) ?_ ?_
  · refine wpF_region ?_
    refine wpL_q (U := NoB) rfl (q_loadBlkA rfl a7_2 Try.isAgg25 Try.sizeOf25 rfl (hS7.blk 1 rfl) (fun h => h)) ?_
    refine wpL_o rfl ?_
    refine e_call rfl Try.call13 (arr1 (v0 := Value.agg #[I (q.Facts), vf, vg, va]) rfl) (Check_L vf vg va q (by first | assumption | (constructor <;> omega)) (hS7.rdN 2 rfl) (hS7.rdN 3 rfl) (hS7.rdN 4 rfl) ) ?_
    rintro _ H8 ⟨hxx, rfl⟩
    have hS9 : St H0 NoB (fun b => S b ∧ b < H0.size) [blkE g4 (.cells #[I (0), I (0)] 27), blkE g1 (.cells #[I (q.Facts), vf, vg, va] 25), rdE vf q.First, rdE vg q.Goal, rdE va q.Acts] H8 := hS7.ext hxx
    refine wpL_o rfl ?_
    refine e_alloc rfl Try.zeroValue27 hS9 (fun g11 H12 hS13 hxx => ?_)
    replace hS13 : St H0 NoB (fun b => S b ∧ b < H0.size) [blkE g11 (.cells #[I (0), I (0)] 27), blkE g4 (.cells #[I (0), I (0)] 27), blkE g1 (.cells #[I (q.Facts), vf, vg, va] 25), rdE vf q.First, rdE vg q.Goal, rdE va q.Acts] H12 := hS13
    refine wpL_o rfl ?_
    refine e_storeBlkA (cs' := #[I ((questFault q).1), I ((questFault q).2)]) rfl rfl rfl Try.sizeOf27 rfl rfl (List.forall_mem_cons.2 ⟨rfl, List.forall_mem_cons.2 ⟨rfl, List.forall_mem_nil _⟩⟩) hS13 (fun H14 hS15 hxx => ?_)
    replace hS15 : St H0 NoB (fun b => S b ∧ b < H0.size) [blkE g11 (.cells #[I ((questFault q).1), I ((questFault q).2)] 27), blkE g4 (.cells #[I (0), I (0)] 27), blkE g1 (.cells #[I (q.Facts), vf, vg, va] 25), rdE vf q.First, rdE vg q.Goal, rdE va q.Acts] H14 := hS15
    exact ⟨g11, a7_1, a7_2, a7_5, rfl, hS15⟩
  rintro f16 H16 ⟨g11, a16_1, a16_2, a16_5, a16_6, hS16⟩
  clear a7_1 a7_2 a7_5
  refine wpF_seq ?_
  refine wpF_cut (fun f H => f 1 = I (n) ∧ f 2 = PT g1 0 ∧ f 5 = PT g4 0 ∧ f 6 = PT g11 0 ∧ f 12 = B (decide (((questFault q).1) ≠ 0)) ∧ H16 = H) ?_ ?_
  · refine wpF_region ?_
    refine wpL_q (U := NoB) rfl (q_fieldAddr rfl Try.underlying27 rfl Try.sizeOf3 a16_6) ?_
    refine wpL_q (U := NoB) rfl (q_loadBlk rfl rfl Try.isAgg3 (hS16.blk 0 rfl) rfl (fun h => h)) ?_
    refine wpL_q (U := NoB) rfl (q_neq rfl rfl rfl) ?_
    exact ⟨a16_1, a16_2, a16_5, a16_6, rfl, rfl⟩
  rintro f17 _ ⟨a17_1, a17_2, a17_5, a17_6, a17_12, rfl⟩
  clear a16_1 a16_2 a16_5 a16_6
  refine wpF_condP a17_12 (fun h1 => ?t46) (fun h1 => ?e46)
  case t46 =>
    refine wpF_seq ?_
    refine wpF_cut (fun f H => f 4 = (Value.pointer none) ∧ f 5 = PT g4 0 ∧ St H0 NoB (fun b => S b ∧ b < H0.size) [blkE g4 (.cells #[I ((questFault q).1), I ((questFault q).2)] 27), blkE g11 (.cells #[I ((questFault q).1), I ((questFault q).2)] 27), blkE g1 (.cells #[I (q.Facts), vf, vg, va] 25), rdE vf q.First, rdE vg q.Goal, rdE va q.Acts] H) ?_ ?_
    · refine wpF_drawn [none, none, some 0] [[], [], []] (fun l b => match l with | 0 => True | _ => False) (by kernel_rfl) (by kernel_rfl) ?_
      refine wpR_q 0 (by kernel_rfl) rfl (quietAt rfl rfl (q_loadBlkA rfl a17_6 Try.isAgg27 Try.sizeOf27 rfl (hS16.blk 0 rfl) (labU_not [] rfl (List.forall_mem_nil _)))) ?_
      refine wpR_q 1 (by kernel_rfl) rfl (quietAt rfl rfl (q_assign (v := (Value.pointer none)) rfl rfl)) ?_
      refine wpR_n [2] (by kernel_rfl) ?_
      refine List.forall_mem_cons.2 ⟨?_, List.forall_mem_nil _⟩
      refine exE rfl rfl ?_
      refine e_storeBlkA (cs' := #[I ((questFault q).1), I ((questFault q).2)]) rfl a17_5 rfl Try.sizeOf27 rfl rfl (List.forall_mem_cons.2 ⟨rfl, List.forall_mem_cons.2 ⟨rfl, List.forall_mem_nil _⟩⟩) (hS16.front 1 rfl) (fun H19o2 hS19o2 hxx => ?_)
      replace hS19o2 : St H0 NoB (fun b => S b ∧ b < H0.size) [blkE g4 (.cells #[I ((questFault q).1), I ((questFault q).2)] 27), blkE g11 (.cells #[I ((questFault q).1), I ((questFault q).2)] 27), blkE g1 (.cells #[I (q.Facts), vf, vg, va] 25), rdE vf q.First, rdE vg q.Goal, rdE va q.Acts] H19o2 := hS19o2
      refine ⟨Ext.mono hxx (labS_of 0 rfl (fun _ _ => trivial)), ?_⟩
      refine wpR_end (by kernel_rfl) ?_
      exact ⟨rfl, a17_5, hS19o2⟩
    rintro f20 H20 ⟨a20_4, a20_5, hS20⟩
    clear a17_1 a17_12 a17_2 a17_5 a17_6
    refine wpF_ret ?_
    refine ⟨_, resT a20_4 (resC a20_5 (loadV_blkA Try.isAgg27 Try.sizeOf27 rfl (hS20.blk 0 rfl)) (resN)), hS20.frame, ?_⟩
    show ∃ pe_ g_, (Value.tuple #[(Value.pointer none), Value.agg #[I ((questFault q).1), I ((questFault q).2)]]) = Value.tuple #[pe_, Value.agg #[I (chkF q n).1, I (chkF q n).2]] ∧ ((chkF q n).1 = 0 → pe_ = PT g_ 0) ∧ Fresh S [whenE ((chkF q n).1 = 0) (blkE g_ (.cells #[I q.Facts, vf, vg, va, I n, I 0, .slice none 0 0] 84))] H0 H20
    have hc := chkF_1 (n := n) h1
    exact ⟨_, 0, by rw [hc], (fun h => absurd h (by rw [hc]; exact h1)), Fresh.none (by rw [hc]; exact h1)⟩
  have hQ := QW.of (Decidable.of_not_not h1)
  refine wpF_skip ?_
  refine wpF_seq ?_
  refine wpF_seq ?_
  refine wpF_cut (fun f H => f 1 = I (n) ∧ f 2 = PT g1 0 ∧ f 5 = PT g4 0 ∧ f 19 = B (decide ((n < 0) ∨ (20 < n))) ∧ H16 = H) ?_ ?_
  · refine wpF_region ?_
    refine wpL_q (U := NoB) rfl (q_move (v := I (n)) rfl a17_1) ?_
    refine wpL_q (U := NoB) rfl (q_lss rfl rfl rfl) ?_
    refine wpL_q (U := NoB) rfl (q_move (v := B (decide (n < 0))) rfl rfl) ?_
    by_cases hg21 : n < 0
    · have hb22 := Eq.trans rfl (congrArg B (decide_eq_true hg21))
      refine wpL_gs rfl rfl rfl hb22 rfl ?_
      refine wpL_gs rfl rfl rfl hb22 rfl ?_
      refine wpL_q (U := NoB) rfl (q_pickT (v := B (true)) rfl hb22 rfl) ?_
      exact ⟨a17_1, a17_2, a17_5, (Eq.trans rfl (congrArg B ((decide_eq_true (Or.inl hg21)).symm))), rfl⟩
    · have hb23 := Eq.trans rfl (congrArg B (decide_eq_false hg21))
      refine wpL_gq (U := NoB) rfl rfl rfl hb23 (q_move (v := I (n)) rfl a17_1) ?_
      refine wpL_gq (U := NoB) rfl rfl rfl hb23 (q_gtr rfl rfl rfl) ?_
      refine wpL_q (U := NoB) rfl (q_pickF (v := B (decide (20 < n))) rfl hb23 rfl) ?_
      exact ⟨a17_1, a17_2, a17_5, (Eq.trans rfl (congrArg B (decide_congr_of ((Iff.rfl).trans (((or_iff_right hg21).trans Iff.rfl)).symm)))), rfl⟩
  rintro f24 _ ⟨a24_1, a24_2, a24_5, a24_19, rfl⟩
  clear a17_1 a17_12 a17_2 a17_5 a17_6
  refine wpF_condP a24_19 (fun h2 => ?t45) (fun h2 => ?e45)
  case t45 =>
    refine wpF_seq ?_
    refine wpF_cut (fun f H => f 4 = (Value.pointer none) ∧ f 5 = PT g4 0 ∧ St H0 NoB (fun b => S b ∧ b < H0.size) [blkE g4 (.cells #[I (3), I (-2)] 27), blkE g11 (.cells #[I ((questFault q).1), I ((questFault q).2)] 27), blkE g1 (.cells #[I (q.Facts), vf, vg, va] 25), rdE vf q.First, rdE vg q.Goal, rdE va q.Acts] H) ?_ ?_
    · refine wpF_region ?_
      refine wpL_q (U := NoB) rfl (q_build (v := Value.agg #[I (3), I (-2)]) rfl (par2 (v0 := I (3)) (v1 := I (-2)) rfl rfl) (fun w => by kernel_rfl)) ?_
      refine wpL_q (U := NoB) rfl (q_assign (v := (Value.pointer none)) rfl rfl) ?_
      refine wpL_o rfl ?_
      refine e_storeBlkA (cs' := #[I (3), I (-2)]) rfl a24_5 rfl Try.sizeOf27 rfl rfl (List.forall_mem_cons.2 ⟨rfl, List.forall_mem_cons.2 ⟨rfl, List.forall_mem_nil _⟩⟩) (hS16.front 1 rfl) (fun H26 hS27 hxx => ?_)
      replace hS27 : St H0 NoB (fun b => S b ∧ b < H0.size) [blkE g4 (.cells #[I (3), I (-2)] 27), blkE g11 (.cells #[I ((questFault q).1), I ((questFault q).2)] 27), blkE g1 (.cells #[I (q.Facts), vf, vg, va] 25), rdE vf q.First, rdE vg q.Goal, rdE va q.Acts] H26 := hS27
      exact ⟨rfl, a24_5, hS27⟩
    rintro f28 H28 ⟨a28_4, a28_5, hS28⟩
    clear a24_1 a24_19 a24_2 a24_5
    refine wpF_ret ?_
    refine ⟨_, resT a28_4 (resC a28_5 (loadV_blkA Try.isAgg27 Try.sizeOf27 rfl (hS28.blk 0 rfl)) (resN)), hS28.frame, ?_⟩
    show ∃ pe_ g_, (Value.tuple #[(Value.pointer none), Value.agg #[I (3), I (-2)]]) = Value.tuple #[pe_, Value.agg #[I (chkF q n).1, I (chkF q n).2]] ∧ ((chkF q n).1 = 0 → pe_ = PT g_ 0) ∧ Fresh S [whenE ((chkF q n).1 = 0) (blkE g_ (.cells #[I q.Facts, vf, vg, va, I n, I 0, .slice none 0 0] 84))] H0 H28
    have hc := chkF_2 h1 h2
    exact ⟨_, 0, by rw [hc], (fun h => absurd h (by rw [hc]; decide)), Fresh.none (by rw [hc]; decide)⟩
  have hn : 0 ≤ n ∧ n ≤ 20 := by omega
  refine wpF_skip ?_
  refine wpF_seq ?_
  refine wpF_cut (fun f H => ∃ (g29 : Nat), f 5 = PT g4 0 ∧ f 7 = PT g29 0 ∧ St H0 NoB (fun b => S b ∧ b < H0.size) [blkE g29 (.cells #[I (q.Facts), vf, vg, va, I (n), I (0), (Value.slice none 0 0)] 84), blkE g11 (.cells #[I ((questFault q).1), I ((questFault q).2)] 27), blkE g4 (.cells #[I (0), I (0)] 27), blkE g1 (.cells #[I (q.Facts), vf, vg, va] 25), rdE vf q.First, rdE vg q.Goal, rdE va q.Acts] H) ?_ ?_
  · refine wpF_region ?_
    refine wpL_q (U := NoB) rfl (q_loadBlkA rfl a24_2 Try.isAgg25 Try.sizeOf25 rfl (hS16.blk 2 rfl) (fun h => h)) ?_
    refine wpL_q (U := NoB) rfl (q_move (v := I (n)) rfl a24_1) ?_
    refine wpL_q (U := NoB) rfl (q_build (v := Value.agg #[I (q.Facts), vf, vg, va, I (n), I (0), (Value.slice none 0 0)]) rfl (par2 (v0 := Value.agg #[I (q.Facts), vf, vg, va]) (v1 := I (n)) rfl rfl) (fun w => by kernel_rfl)) ?_
    refine wpL_o rfl ?_
    refine e_box (v := Value.agg #[I (q.Facts), vf, vg, va, I (n), I (0), (Value.slice none 0 0)]) rfl rfl hS16 (fun g29 H30 hS31 hxx => ?_)
    replace hS31 : St H0 NoB (fun b => S b ∧ b < H0.size) [blkE g29 (.cells #[I (q.Facts), vf, vg, va, I (n), I (0), (Value.slice none 0 0)] 84), blkE g11 (.cells #[I ((questFault q).1), I ((questFault q).2)] 27), blkE g4 (.cells #[I (0), I (0)] 27), blkE g1 (.cells #[I (q.Facts), vf, vg, va] 25), rdE vf q.First, rdE vg q.Goal, rdE va q.Acts] H30 := hS31
    refine wpL_q (U := NoB) rfl (q_assign (v := PT g29 0) rfl rfl) ?_
    exact ⟨g29, a24_5, rfl, hS31⟩
  rintro f32 H32 ⟨g29, a32_5, a32_7, hS32⟩
  clear a24_1 a24_19 a24_2 a24_5
  refine wpF_seq ?_
  refine wpF_seq ?_
  refine wpF_cut (fun f H => f 5 = PT g4 0 ∧ f 7 = PT g29 0 ∧ f 27 = B (decide (120 < (varsN q n))) ∧ St H0 NoB (fun b => S b ∧ b < H0.size) [blkE g29 (.cells #[I (q.Facts), vf, vg, va, I (n), I (0), (Value.slice none 0 0)] 84), blkE g11 (.cells #[I ((questFault q).1), I ((questFault q).2)] 27), blkE g4 (.cells #[I (0), I (0)] 27), blkE g1 (.cells #[I (q.Facts), vf, vg, va] 25), rdE vf q.First, rdE vg q.Goal, rdE va q.Acts] H) ?_ ?_
  · refine wpF_region ?_
    refine wpL_q (U := NoB) rfl (q_move (v := PT g29 0) rfl a32_7) ?_
    refine wpL_o rfl ?_
    refine e_call rfl Try.call51 (arr1 (v0 := PT g29 0) rfl) (vars_E g29 vf vg va ((Value.slice none 0 0)) q n 0  (hS32.blk 0 rfl) (hS32.rdN 6 rfl) hQ hn ) ?_
    rintro _ H33 ⟨hxx, rfl⟩
    have hS34 : St H0 NoB (fun b => S b ∧ b < H0.size) [blkE g29 (.cells #[I (q.Facts), vf, vg, va, I (n), I (0), (Value.slice none 0 0)] 84), blkE g11 (.cells #[I ((questFault q).1), I ((questFault q).2)] 27), blkE g4 (.cells #[I (0), I (0)] 27), blkE g1 (.cells #[I (q.Facts), vf, vg, va] 25), rdE vf q.First, rdE vg q.Goal, rdE va q.Acts] H33 := hS32.ext hxx
    refine wpL_q (U := NoB) rfl (q_gtr rfl rfl rfl) ?_
    exact ⟨a32_5, a32_7, rfl, hS34⟩
  rintro f36 H36 ⟨a36_5, a36_7, a36_27, hS36⟩
  clear a32_5 a32_7
  refine wpF_condP a36_27 (fun h3 => ?t44) (fun h3 => ?e44)
  case t44 =>
    refine wpF_seq ?_
    refine wpF_cut (fun f H => f 4 = (Value.pointer none) ∧ f 5 = PT g4 0 ∧ St H0 NoB (fun b => S b ∧ b < H0.size) [blkE g4 (.cells #[I (10), I (0)] 27), blkE g29 (.cells #[I (q.Facts), vf, vg, va, I (n), I (0), (Value.slice none 0 0)] 84), blkE g11 (.cells #[I ((questFault q).1), I ((questFault q).2)] 27), blkE g1 (.cells #[I (q.Facts), vf, vg, va] 25), rdE vf q.First, rdE vg q.Goal, rdE va q.Acts] H) ?_ ?_
    · refine wpF_region ?_
      refine wpL_q (U := NoB) rfl (q_build (v := Value.agg #[I (10), I (0)]) rfl (par1 (v0 := I (10)) rfl) (fun w => by kernel_rfl)) ?_
      refine wpL_q (U := NoB) rfl (q_assign (v := (Value.pointer none)) rfl rfl) ?_
      refine wpL_o rfl ?_
      refine e_storeBlkA (cs' := #[I (10), I (0)]) rfl a36_5 rfl Try.sizeOf27 rfl rfl (List.forall_mem_cons.2 ⟨rfl, List.forall_mem_cons.2 ⟨rfl, List.forall_mem_nil _⟩⟩) (hS36.front 2 rfl) (fun H38 hS39 hxx => ?_)
      replace hS39 : St H0 NoB (fun b => S b ∧ b < H0.size) [blkE g4 (.cells #[I (10), I (0)] 27), blkE g29 (.cells #[I (q.Facts), vf, vg, va, I (n), I (0), (Value.slice none 0 0)] 84), blkE g11 (.cells #[I ((questFault q).1), I ((questFault q).2)] 27), blkE g1 (.cells #[I (q.Facts), vf, vg, va] 25), rdE vf q.First, rdE vg q.Goal, rdE va q.Acts] H38 := hS39
      exact ⟨rfl, a36_5, hS39⟩
    rintro f40 H40 ⟨a40_4, a40_5, hS40⟩
    clear a36_27 a36_5 a36_7
    refine wpF_ret ?_
    refine ⟨_, resT a40_4 (resC a40_5 (loadV_blkA Try.isAgg27 Try.sizeOf27 rfl (hS40.blk 0 rfl)) (resN)), hS40.frame, ?_⟩
    show ∃ pe_ g_, (Value.tuple #[(Value.pointer none), Value.agg #[I (10), I (0)]]) = Value.tuple #[pe_, Value.agg #[I (chkF q n).1, I (chkF q n).2]] ∧ ((chkF q n).1 = 0 → pe_ = PT g_ 0) ∧ Fresh S [whenE ((chkF q n).1 = 0) (blkE g_ (.cells #[I q.Facts, vf, vg, va, I n, I 0, .slice none 0 0] 84))] H0 H40
    have hc := chkF_3 h1 h2 h3
    exact ⟨_, 0, by rw [hc], (fun h => absurd h (by rw [hc]; decide)), Fresh.none (by rw [hc]; decide)⟩
  refine wpF_skip ?_
  refine wpF_seq ?_
  refine wpF_cut (fun f H => f 4 = PT g29 0 ∧ f 5 = PT g4 0 ∧ St H0 NoB (fun b => S b ∧ b < H0.size) [blkE g4 (.cells #[I (0), I (0)] 27), blkE g29 (.cells #[I (q.Facts), vf, vg, va, I (n), I (0), (Value.slice none 0 0)] 84), blkE g11 (.cells #[I ((questFault q).1), I ((questFault q).2)] 27), blkE g1 (.cells #[I (q.Facts), vf, vg, va] 25), rdE vf q.First, rdE vg q.Goal, rdE va q.Acts] H) ?_ ?_
  · refine wpF_region ?_
    refine wpL_q (U := NoB) rfl (q_move (v := PT g29 0) rfl a36_7) ?_
    refine wpL_q (U := NoB) rfl (q_build (v := Value.agg #[I (0), I (0)]) rfl par0 (fun w => by kernel_rfl)) ?_
    refine wpL_q (U := NoB) rfl (q_assign (v := PT g29 0) rfl rfl) ?_
    refine wpL_o rfl ?_
    refine e_storeBlkA (cs' := #[I (0), I (0)]) rfl a36_5 rfl Try.sizeOf27 rfl rfl (List.forall_mem_cons.2 ⟨rfl, List.forall_mem_cons.2 ⟨rfl, List.forall_mem_nil _⟩⟩) (hS36.front 2 rfl) (fun H41 hS42 hxx => ?_)
    replace hS42 : St H0 NoB (fun b => S b ∧ b < H0.size) [blkE g4 (.cells #[I (0), I (0)] 27), blkE g29 (.cells #[I (q.Facts), vf, vg, va, I (n), I (0), (Value.slice none 0 0)] 84), blkE g11 (.cells #[I ((questFault q).1), I ((questFault q).2)] 27), blkE g1 (.cells #[I (q.Facts), vf, vg, va] 25), rdE vf q.First, rdE vg q.Goal, rdE va q.Acts] H41 := hS42
    exact ⟨rfl, a36_5, hS42⟩
  rintro f43 H43 ⟨a43_4, a43_5, hS43⟩
  clear a36_27 a36_5 a36_7
  refine wpF_ret ?_
  refine ⟨_, resT a43_4 (resC a43_5 (loadV_blkA Try.isAgg27 Try.sizeOf27 rfl (hS43.blk 0 rfl)) (resN)), hS43.frame, ?_⟩
  show ∃ pe_ g_, (Value.tuple #[PT g29 0, Value.agg #[I (0), I (0)]]) = Value.tuple #[pe_, Value.agg #[I (chkF q n).1, I (chkF q n).2]] ∧ ((chkF q n).1 = 0 → pe_ = PT g_ 0) ∧ Fresh S [whenE ((chkF q n).1 = 0) (blkE g_ (.cells #[I q.Facts, vf, vg, va, I n, I 0, .slice none 0 0] 84))] H0 H43
  have hc := chkF_4 h1 h2 h3
  have hL : St H0 NoB (fun b => S b ∧ b < H0.size) [blkE g29 (.cells #[I (q.Facts), vf, vg, va, I (n), I (0), (Value.slice none 0 0)] 84)] H43 := (hS43.drop (sn (sk (sn (sn (sn (sn (sn (List.Sublist.slnil)))))))))
  exact ⟨_, g29, by rw [hc], (fun _ => rfl), St.fresh1 hL (by rw [hc])⟩

set_option maxHeartbeats 4000000 in
set_option maxRecDepth 100000 in
theorem Do_E {H0 : Heap} {S : Nat → Prop} (vf vg va : Value) (q : Quest) (n : Int) (h6qFacts : In64 q.Facts) (rvf : Rd S H0 vf q.First) (rvg : Rd S H0 vg q.Goal) (rva : Rd S H0 va q.Acts) (hni : In64 n) : CallsH Try.prog 32 #[Value.agg #[I (q.Facts), vf, vg, va], I (n)] H0 (fun rv_ H' => Ext NoB H0 H' ∧ ∃ w_, rv_ = Value.tuple #[Value.agg #[I (doV q n), w_], Value.agg #[I (doF q n).1, I (doF q n).2]] ∧ Rd (fun b => S b ∧ b < H0.size) H' w_ (doC q n)) := by
  have hsa := (Rd.list.1 rva).small
  have hsg := (Rd.list.1 rvg).small
  have hS0 : St H0 NoB (fun b => S b ∧ b < H0.size) [rdE vf q.First, rdE vg q.Goal, rdE va q.Acts] H0 := St.arg (St.arg (St.arg (St.start (fun _ h => h.2)) (Bl0.nil) rva (fun _ h => h.1)) (Bl0.cons (Bl0.nil)) rvg (fun _ h => h.1)) (Bl0.cons (Bl0.cons (Bl0.nil))) rvf (fun _ h => h.1)
  refine callsH_of_wpF (args := [Value.agg #[I (q.Facts), vf, vg, va], I (n)]) (rs := [.cell 4 58, .cell 5 27]) Try.func32 rfl Try.ntmps32 Try.results32 (by kernel_rfl) (Nat.le_of_ble_eq_true rfl) ?_
  have a0_0 : argF [Value.agg #[I (q.Facts), vf, vg, va], I (n)] 0 = Value.agg #[I (q.Facts), vf, vg, va] := rfl
  have a0_1 : argF [Value.agg #[I (q.Facts), vf, vg, va], I (n)] 1 = I (n) := rfl
  generalize argF [Value.agg #[I (q.Facts), vf, vg, va], I (n)] = f0 at *
  refine wpF_seq ?_
  refine wpF_cut (fun f H => ∃ (g1 : Nat), ∃ (g4 : Nat), ∃ (g7 : Nat), f 1 = I (n) ∧ f 2 = PT g1 0 ∧ f 4 = PT g4 0 ∧ f 5 = PT g7 0 ∧ St H0 NoB (fun b => S b ∧ b < H0.size) [blkE g7 (.cells #[I (0), I (0)] 27), blkE g4 (.cells #[I (0), (Value.slice none 0 0)] 58), blkE g1 (.cells #[I (q.Facts), vf, vg, va] 25), rdE vf q.First, rdE vg q.Goal, rdE va q.Acts] H) ?_ ?_
  · refine wpF_region ?_
    refine wpL_o rfl ?_
    refine e_box (v := Value.agg #[I (q.Facts), vf, vg, va]) rfl a0_0 hS0 (fun g1 H2 hS3 hxx => ?_)
    replace hS3 : St H0 NoB (fun b => S b ∧ b < H0.size) [blkE g1 (.cells #[I (q.Facts), vf, vg, va] 25), rdE vf q.First, rdE vg q.Goal, rdE va q.Acts] H2 := hS3
    refine wpL_o rfl ?_
    refine e_alloc rfl Try.zeroValue58 hS3 (fun g4 H5 hS6 hxx => ?_)
    replace hS6 : St H0 NoB (fun b => S b ∧ b < H0.size) [blkE g4 (.cells #[I (0), (Value.slice none 0 0)] 58), blkE g1 (.cells #[I (q.Facts), vf, vg, va] 25), rdE vf q.First, rdE vg q.Goal, rdE va q.Acts] H5 := hS6
    refine wpL_o rfl ?_
    refine e_alloc rfl Try.zeroValue27 hS6 (fun g7 H8 hS9 hxx => ?_)
    replace hS9 : St H0 NoB (fun b => S b ∧ b < H0.size) [blkE g7 (.cells #[I (0), I (0)] 27), blkE g4 (.cells #[I (0), (Value.slice none 0 0)] 58), blkE g1 (.cells #[I (q.Facts), vf, vg, va] 25), rdE vf q.First, rdE vg q.Goal, rdE va q.Acts] H8 := hS9
    exact ⟨g1, g4, g7, a0_1, rfl, rfl, rfl, hS9⟩
  rintro f10 H10 ⟨g1, g4, g7, a10_1, a10_2, a10_4, a10_5, hS10⟩
  clear a0_0 a0_1
  refine wpF_seq ?_
  refine wpF_cut (fun f H => ∃ (r11 : Value), ∃ (g12 : Nat), ∃ (g16 : Nat), ((chkF q n).1 = 0 → r11 = PT g12 0) ∧ f 1 = I (n) ∧ f 2 = PT g1 0 ∧ f 4 = PT g4 0 ∧ f 5 = PT g7 0 ∧ f 6 = r11 ∧ f 7 = PT g16 0 ∧ St H0 NoB (fun b => S b ∧ b < H0.size) [blkE g16 (.cells #[I ((chkF q n).1), I ((chkF q n).2)] 27), whenE ((chkF q n).1 = 0) (blkE g12 (.cells #[I q.Facts, vf, vg, va, I n, I 0, .slice none 0 0] 84)), blkE g7 (.cells #[I (0), I (0)] 27), blkE g4 (.cells #[I (0), (Value.slice none 0 0)] 58), blkE g1 (.cells #[I (q.Facts), vf, vg, va] 25), rdE vf q.First, rdE vg q.Goal, rdE va q.Acts] H) ?_ ?_
  · refine wpF_region ?_
    refine wpL_q (U := NoB) rfl (q_loadBlkA rfl a10_2 Try.isAgg25 Try.sizeOf25 rfl (hS10.blk 2 rfl) (fun h => h)) ?_
    refine wpL_q (U := NoB) rfl (q_move (v := I (n)) rfl a10_1) ?_
    refine wpL_o rfl ?_
    refine e_call rfl Try.call50 (arr2 (v0 := Value.agg #[I (q.Facts), vf, vg, va]) (v1 := I (n)) rfl rfl) (check_E (S := SL (fun b => S b ∧ b < H0.size) [blkE g7 (.cells #[I (0), I (0)] 27), blkE g4 (.cells #[I (0), (Value.slice none 0 0)] 58), blkE g1 (.cells #[I (q.Facts), vf, vg, va] 25), rdE vf q.First, rdE vg q.Goal, rdE va q.Acts]) vf vg va q n (by first | assumption | (constructor <;> omega)) (hS10.rdS 3 rfl) (hS10.rdS 4 rfl) (hS10.rdS 5 rfl) hni) ?_
    rintro _ H13 ⟨hxx, r11, g12, rfl, hpr11, hfr11⟩
    have hS14 : St H0 NoB (fun b => S b ∧ b < H0.size) [whenE ((chkF q n).1 = 0) (blkE g12 (.cells #[I q.Facts, vf, vg, va, I n, I 0, .slice none 0 0] 84)), blkE g7 (.cells #[I (0), I (0)] 27), blkE g4 (.cells #[I (0), (Value.slice none 0 0)] 58), blkE g1 (.cells #[I (q.Facts), vf, vg, va] 25), rdE vf q.First, rdE vg q.Goal, rdE va q.Acts] H13 := St.gotF (A' := [whenE ((chkF q n).1 = 0) (blkE g12 (.cells #[I q.Facts, vf, vg, va, I n, I 0, .slice none 0 0] 84))]) hS10 hxx hfr11 pw1
    refine wpL_q (U := NoB) rfl (q_move (v := Value.tuple #[r11, Value.agg #[I ((chkF q n).1), I ((chkF q n).2)]]) rfl rfl) ?_
    refine wpL_q (U := NoB) rfl (q_extract (vs := #[r11, Value.agg #[I ((chkF q n).1), I ((chkF q n).2)]]) (v := r11) rfl rfl rfl) ?_
    refine wpL_q (U := NoB) rfl (q_extract (vs := #[r11, Value.agg #[I ((chkF q n).1), I ((chkF q n).2)]]) (v := Value.agg #[I ((chkF q n).1), I ((chkF q n).2)]) rfl rfl rfl) ?_
    refine wpL_o rfl ?_
    refine e_alloc rfl Try.zeroValue27 hS14 (fun g16 H17 hS18 hxx => ?_)
    replace hS18 : St H0 NoB (fun b => S b ∧ b < H0.size) [blkE g16 (.cells #[I (0), I (0)] 27), whenE ((chkF q n).1 = 0) (blkE g12 (.cells #[I q.Facts, vf, vg, va, I n, I 0, .slice none 0 0] 84)), blkE g7 (.cells #[I (0), I (0)] 27), blkE g4 (.cells #[I (0), (Value.slice none 0 0)] 58), blkE g1 (.cells #[I (q.Facts), vf, vg, va] 25), rdE vf q.First, rdE vg q.Goal, rdE va q.Acts] H17 := hS18
    refine wpL_q (U := NoB) rfl (q_assign (v := r11) rfl rfl) ?_
    refine wpL_o rfl ?_
    refine e_storeBlkA (cs' := #[I ((chkF q n).1), I ((chkF q n).2)]) rfl rfl rfl Try.sizeOf27 rfl rfl (List.forall_mem_cons.2 ⟨rfl, List.forall_mem_cons.2 ⟨rfl, List.forall_mem_nil _⟩⟩) hS18 (fun H19 hS20 hxx => ?_)
    replace hS20 : St H0 NoB (fun b => S b ∧ b < H0.size) [blkE g16 (.cells #[I ((chkF q n).1), I ((chkF q n).2)] 27), whenE ((chkF q n).1 = 0) (blkE g12 (.cells #[I q.Facts, vf, vg, va, I n, I 0, .slice none 0 0] 84)), blkE g7 (.cells #[I (0), I (0)] 27), blkE g4 (.cells #[I (0), (Value.slice none 0 0)] 58), blkE g1 (.cells #[I (q.Facts), vf, vg, va] 25), rdE vf q.First, rdE vg q.Goal, rdE va q.Acts] H19 := hS20
    exact ⟨r11, g12, g16, hpr11, a10_1, a10_2, a10_4, a10_5, rfl, rfl, hS20⟩
  rintro f21 H21 ⟨r11, g12, g16, hpr11, a21_1, a21_2, a21_4, a21_5, a21_6, a21_7, hS21⟩
  clear a10_1 a10_2 a10_4 a10_5
  refine wpF_seq ?_
  refine wpF_seq ?_
  refine wpF_cut (fun f H => f 1 = I (n) ∧ f 2 = PT g1 0 ∧ f 4 = PT g4 0 ∧ f 5 = PT g7 0 ∧ f 6 = r11 ∧ f 7 = PT g16 0 ∧ f 20 = B (decide (((chkF q n).1) ≠ 0)) ∧ H21 = H) ?_ ?_
  · refine wpF_region ?_
    refine wpL_q (U := NoB) rfl (q_fieldAddr rfl Try.underlying27 rfl Try.sizeOf3 a21_7) ?_
    refine wpL_q (U := NoB) rfl (q_loadBlk rfl rfl Try.isAgg3 (hS21.blk 0 rfl) rfl (fun h => h)) ?_
    refine wpL_q (U := NoB) rfl (q_neq rfl rfl rfl) ?_
    exact ⟨a21_1, a21_2, a21_4, a21_5, a21_6, a21_7, rfl, rfl⟩
  rintro f22 _ ⟨a22_1, a22_2, a22_4, a22_5, a22_6, a22_7, a22_20, rfl⟩
  clear a21_1 a21_2 a21_4 a21_5 a21_6 a21_7
  refine wpF_condP a22_20 (fun h20 => ?t122) (fun h20 => ?e122)
  case t122 =>
    refine wpF_seq ?_
    refine wpF_cut (fun f H => f 4 = PT g4 0 ∧ f 5 = PT g7 0 ∧ St H0 NoB (fun b => S b ∧ b < H0.size) [blkE g7 (.cells #[I ((chkF q n).1), I ((chkF q n).2)] 27), blkE g4 (.cells #[I (0), (Value.slice none 0 0)] 58), blkE g16 (.cells #[I ((chkF q n).1), I ((chkF q n).2)] 27), whenE ((chkF q n).1 = 0) (blkE g12 (.cells #[I q.Facts, vf, vg, va, I n, I 0, .slice none 0 0] 84)), blkE g1 (.cells #[I (q.Facts), vf, vg, va] 25), rdE vf q.First, rdE vg q.Goal, rdE va q.Acts] H) ?_ ?_
    · refine wpF_drawn [none, none, some 0, some 1] [[], [0], [], []] (fun l b => match l with | 0 => b = g4 | 1 => True | _ => False) (by kernel_rfl) (by kernel_rfl) ?_
      refine wpR_q 0 (by kernel_rfl) rfl (quietAt rfl rfl (q_build (v := Value.agg #[I (0), (Value.slice none 0 0)]) rfl par0 (fun w => by kernel_rfl))) ?_
      refine wpR_q 1 (by kernel_rfl) rfl (quietAt rfl rfl (q_loadBlkA rfl a22_7 Try.isAgg27 Try.sizeOf27 rfl (hS21.blk 0 rfl) (labU_not [0] rfl (List.forall_mem_cons.2 ⟨fun hb => hS21.dis 0 3 (by decide) rfl rfl _ rfl hb, List.forall_mem_nil _⟩)))) ?_
      refine wpR_n [2] (by kernel_rfl) ?_
      refine List.forall_mem_cons.2 ⟨?_, List.forall_mem_nil _⟩
      refine exE rfl rfl ?_
      refine e_storeBlkA (cs' := #[I (0), (Value.slice none 0 0)]) rfl a22_4 rfl Try.sizeOf58 rfl rfl (List.forall_mem_cons.2 ⟨rfl, List.forall_mem_cons.2 ⟨rfl, List.forall_mem_nil _⟩⟩) (hS21.front 3 rfl) (fun H26o2 hS26o2 hxx => ?_)
      replace hS26o2 : St H0 NoB (fun b => S b ∧ b < H0.size) [blkE g4 (.cells #[I (0), (Value.slice none 0 0)] 58), blkE g16 (.cells #[I ((chkF q n).1), I ((chkF q n).2)] 27), whenE ((chkF q n).1 = 0) (blkE g12 (.cells #[I q.Facts, vf, vg, va, I n, I 0, .slice none 0 0] 84)), blkE g7 (.cells #[I (0), I (0)] 27), blkE g1 (.cells #[I (q.Facts), vf, vg, va] 25), rdE vf q.First, rdE vg q.Goal, rdE va q.Acts] H26o2 := hS26o2
      refine ⟨Ext.mono hxx (labS_of 0 rfl (fun b hb => hb)), ?_⟩
      refine wpR_n [3] (by kernel_rfl) ?_
      refine List.forall_mem_cons.2 ⟨?_, List.forall_mem_nil _⟩
      refine exE rfl rfl ?_
      refine e_storeBlkA (cs' := #[I ((chkF q n).1), I ((chkF q n).2)]) rfl a22_5 rfl Try.sizeOf27 rfl rfl (List.forall_mem_cons.2 ⟨rfl, List.forall_mem_cons.2 ⟨rfl, List.forall_mem_nil _⟩⟩) (hS26o2.front 3 rfl) (fun H26o3 hS26o3 hxx => ?_)
      replace hS26o3 : St H0 NoB (fun b => S b ∧ b < H0.size) [blkE g7 (.cells #[I ((chkF q n).1), I ((chkF q n).2)] 27), blkE g4 (.cells #[I (0), (Value.slice none 0 0)] 58), blkE g16 (.cells #[I ((chkF q n).1), I ((chkF q n).2)] 27), whenE ((chkF q n).1 = 0) (blkE g12 (.cells #[I q.Facts, vf, vg, va, I n, I 0, .slice none 0 0] 84)), blkE g1 (.cells #[I (q.Facts), vf, vg, va] 25), rdE vf q.First, rdE vg q.Goal, rdE va q.Acts] H26o3 := hS26o3
      refine ⟨Ext.mono hxx (labS_of 1 rfl (fun _ _ => trivial)), ?_⟩
      refine wpR_end (by kernel_rfl) ?_
      exact ⟨a22_4, a22_5, hS26o3⟩
    rintro f27 H27 ⟨a27_4, a27_5, hS27⟩
    clear a22_1 a22_2 a22_20 a22_4 a22_5 a22_6 a22_7
    refine wpF_ret ?_
    refine ⟨_, resC a27_4 (loadV_blkA Try.isAgg58 Try.sizeOf58 rfl (hS27.blk 1 rfl)) (resC a27_5 (loadV_blkA Try.isAgg27 Try.sizeOf27 rfl (hS27.blk 0 rfl)) (resN)), hS27.frame, ?_⟩
    show ∃ w_, (Value.tuple #[Value.agg #[I (0), (Value.slice none 0 0)], Value.agg #[I ((chkF q n).1), I ((chkF q n).2)]]) = Value.tuple #[Value.agg #[I (doV q n), w_], Value.agg #[I (doF q n).1, I (doF q n).2]] ∧ Rd (fun b => S b ∧ b < H0.size) H27 w_ (doC q n)
    obtain ⟨d1, d2, d3⟩ := doF_chk h20
    exact ⟨_, by rw [d1, d2], by rw [d3]; exact rdNil⟩
  obtain ⟨hcz, hQ, hqz, hn, hv120⟩ := chkF_zero (Decidable.of_not_not h20)
  have hS24 : St H0 NoB (fun b => S b ∧ b < H0.size) [blkE g16 (.cells #[I ((chkF q n).1), I ((chkF q n).2)] 27), blkE g12 (.cells #[I (q.Facts), vf, vg, va, I (n), I (0), (Value.slice none 0 0)] 84), blkE g7 (.cells #[I (0), I (0)] 27), blkE g4 (.cells #[I (0), (Value.slice none 0 0)] 58), blkE g1 (.cells #[I (q.Facts), vf, vg, va] 25), rdE vf q.First, rdE vg q.Goal, rdE va q.Acts] H21 := by have h__ := hS21; rw [whenE_yes (Decidable.of_not_not h20)] at h__; exact h__
  have b25 := Eq.trans a22_6 (hpr11 (Decidable.of_not_not h20))
  have hfx := hQ.facts
  have hmy := hQ.many
  have hvr := vars_rng hQ hn
  refine wpF_skip ?_
  refine wpF_seq ?_
  refine wpF_cut (fun f H => f 1 = I (n) ∧ f 2 = PT g1 0 ∧ f 4 = PT g4 0 ∧ f 5 = PT g7 0 ∧ f 6 = PT g12 0 ∧ St H0 NoB (fun b => S b ∧ b < H0.size) [blkE g12 (.cells #[I (q.Facts), vf, vg, va, I (n), I (varsN q n), (Value.slice none 0 0)] 84), blkE g16 (.cells #[I ((chkF q n).1), I ((chkF q n).2)] 27), blkE g7 (.cells #[I (0), I (0)] 27), blkE g4 (.cells #[I (0), (Value.slice none 0 0)] 58), blkE g1 (.cells #[I (q.Facts), vf, vg, va] 25), rdE vf q.First, rdE vg q.Goal, rdE va q.Acts] H) ?_ ?_
  · refine wpF_region ?_
    refine wpL_q (U := NoB) rfl (q_move (v := PT g12 0) rfl b25) ?_
    refine wpL_q (U := NoB) rfl (q_move (v := PT g12 0) rfl b25) ?_
    refine wpL_o rfl ?_
    refine e_call rfl Try.call51 (arr1 (v0 := PT g12 0) rfl) (vars_E g12 vf vg va ((Value.slice none 0 0)) q n 0  (hS24.blk 1 rfl) (hS24.rdN 7 rfl) hQ hn ) ?_
    rintro _ H28 ⟨hxx, rfl⟩
    have hS29 : St H0 NoB (fun b => S b ∧ b < H0.size) [blkE g16 (.cells #[I ((chkF q n).1), I ((chkF q n).2)] 27), blkE g12 (.cells #[I (q.Facts), vf, vg, va, I (n), I (0), (Value.slice none 0 0)] 84), blkE g7 (.cells #[I (0), I (0)] 27), blkE g4 (.cells #[I (0), (Value.slice none 0 0)] 58), blkE g1 (.cells #[I (q.Facts), vf, vg, va] 25), rdE vf q.First, rdE vg q.Goal, rdE va q.Acts] H28 := hS24.ext hxx
    refine wpL_q (U := NoB) rfl (q_nilCheck rfl rfl) ?_
    refine wpL_q (U := NoB) rfl (q_fieldAddr rfl Try.underlying84 rfl Try.sizeOf58 rfl) ?_
    refine wpL_q (U := NoB) rfl (q_fieldAddr rfl Try.underlying58 rfl Try.sizeOf3 rfl) ?_
    refine wpL_o rfl ?_
    refine e_storeBlk (v := I (varsN q n)) rfl rfl rfl rfl Try.sizeOf3 (by show _ < 7; decide) (hS29.front 1 rfl) (fun H31 hS32 hxx => ?_)
    replace hS32 : St H0 NoB (fun b => S b ∧ b < H0.size) [blkE g12 (.cells #[I (q.Facts), vf, vg, va, I (n), I (varsN q n), (Value.slice none 0 0)] 84), blkE g16 (.cells #[I ((chkF q n).1), I ((chkF q n).2)] 27), blkE g7 (.cells #[I (0), I (0)] 27), blkE g4 (.cells #[I (0), (Value.slice none 0 0)] 58), blkE g1 (.cells #[I (q.Facts), vf, vg, va] 25), rdE vf q.First, rdE vg q.Goal, rdE va q.Acts] H31 := hS32
    exact ⟨a22_1, a22_2, a22_4, a22_5, b25, hS32⟩
  rintro f33 H33 ⟨a33_1, a33_2, a33_4, a33_5, a33_6, hS33⟩
  clear a22_1 a22_2 a22_20 a22_4 a22_5 a22_7
  have hS34 : St H0 NoB (fun b => S b ∧ b < H0.size) [rowE 22 (Value.slice none 0 0) ([] : List (List Int)), blkE g12 (.cells #[I (q.Facts), vf, vg, va, I (n), I (varsN q n), (Value.slice none 0 0)] 84), blkE g16 (.cells #[I ((chkF q n).1), I ((chkF q n).2)] 27), blkE g7 (.cells #[I (0), I (0)] 27), blkE g4 (.cells #[I (0), (Value.slice none 0 0)] 58), blkE g1 (.cells #[I (q.Facts), vf, vg, va] 25), rdE vf q.First, rdE vg q.Goal, rdE va q.Acts] H33 := hS33.row0 22
  refine wpF_seq ?_
  refine wpF_seq ?_
  refine wpF_cut (fun f H => f 1 = I (n) ∧ f 2 = PT g1 0 ∧ f 4 = PT g4 0 ∧ f 5 = PT g7 0 ∧ f 6 = PT g12 0 ∧ f 30 = I (q.Facts) ∧ f 31 = I (0) ∧ H33 = H) ?_ ?_
  · refine wpF_region ?_
    refine wpL_q (U := NoB) rfl (q_fieldAddr rfl Try.underlying25 rfl Try.sizeOf3 a33_2) ?_
    refine wpL_q (U := NoB) rfl (q_loadBlk rfl rfl Try.isAgg3 (hS34.blk 5 rfl) rfl (fun h => h)) ?_
    refine wpL_q (U := NoB) rfl (q_move (v := I (0)) rfl rfl) ?_
    exact ⟨a33_1, a33_2, a33_4, a33_5, a33_6, rfl, rfl, rfl⟩
  rintro f35 _ ⟨a35_1, a35_2, a35_4, a35_5, a35_6, a35_30, a35_31, rfl⟩
  clear a33_1 a33_2 a33_4 a33_5 a33_6
  refine wpF_block ?_
  refine wpF_loop (fun mz f H => ∃ (k : Nat), ∃ (c0 : List (List Int)), ∃ (v0 : Value), mz = q.Facts.toNat - k ∧ (k ≤ q.Facts.toNat) ∧ (c0 = cFirst q k) ∧ (c0.length ≤ k) ∧ f 1 = I (n) ∧ f 2 = PT g1 0 ∧ f 4 = PT g4 0 ∧ f 5 = PT g7 0 ∧ f 6 = PT g12 0 ∧ f 30 = I (q.Facts) ∧ f 31 = I ((k : Int)) ∧ St H0 NoB (fun b => S b ∧ b < H0.size) [rowE 22 v0 (c0 : List (List Int)), blkE g12 (.cells #[I (q.Facts), vf, vg, va, I (n), I (varsN q n), v0] 84), blkE g16 (.cells #[I ((chkF q n).1), I ((chkF q n).2)] 27), blkE g7 (.cells #[I (0), I (0)] 27), blkE g4 (.cells #[I (0), (Value.slice none 0 0)] 58), blkE g1 (.cells #[I (q.Facts), vf, vg, va] 25), rdE vf q.First, rdE vg q.Goal, rdE va q.Acts] H) (q.Facts.toNat - 0) ?_ ?_
  · exact ⟨0, [], (Value.slice none 0 0), rfl, Nat.zero_le _, rfl, (Nat.le_refl _), a35_1, a35_2, a35_4, a35_5, a35_6, a35_30, (Eq.trans a35_31 (congrArg I (by omega))), (show St H0 NoB (fun b => S b ∧ b < H0.size) [rowE 22 (Value.slice none 0 0) (([]) : List (List Int)), blkE g12 (.cells #[I (q.Facts), vf, vg, va, I (n), I (varsN q n), (Value.slice none 0 0)] 84), blkE g16 (.cells #[I ((chkF q n).1), I ((chkF q n).2)] 27), blkE g7 (.cells #[I (0), I (0)] 27), blkE g4 (.cells #[I (0), (Value.slice none 0 0)] 58), blkE g1 (.cells #[I (q.Facts), vf, vg, va] 25), rdE vf q.First, rdE vg q.Goal, rdE va q.Acts] H33 from hS34)⟩
  intro m36 f36 H36 hI36
  obtain ⟨k, c0, v0, hm36, hk, e0, l0, a36_1, a36_2, a36_4, a36_5, a36_6, a36_30, a36_31, hS36⟩ := hI36
  clear a35_1 a35_2 a35_30 a35_31 a35_4 a35_5 a35_6
  refine wpF_seq ?_
  refine wpF_cut (fun f H => f 1 = I (n) ∧ f 2 = PT g1 0 ∧ f 4 = PT g4 0 ∧ f 5 = PT g7 0 ∧ f 6 = PT g12 0 ∧ f 30 = I (q.Facts) ∧ f 31 = I ((k : Int)) ∧ f 32 = B (decide ((k : Int) < q.Facts)) ∧ H36 = H) ?_ ?_
  · refine wpF_region ?_
    refine wpL_q (U := NoB) rfl (q_lss rfl a36_31 a36_30) ?_
    exact ⟨a36_1, a36_2, a36_4, a36_5, a36_6, a36_30, a36_31, rfl, rfl⟩
  rintro f37 _ ⟨a37_1, a37_2, a37_4, a37_5, a37_6, a37_30, a37_31, a37_32, rfl⟩
  clear a36_1 a36_2 a36_30 a36_31 a36_4 a36_5 a36_6
  refine wpF_seq ?_
  refine wpF_condP a37_32 (fun h32 => ?t121) (fun h32 => ?e121)
  case t121 =>
    have hfg := fact_rng hQ (f := (k : Int)) (t := 0) (by omega) (by omega)
    refine wpF_skip ?_
    refine wpF_seq ?_
    refine wpF_block ?_
    refine wpF_seq ?_
    refine wpF_cut (fun f H => f 1 = I (n) ∧ f 2 = PT g1 0 ∧ f 4 = PT g4 0 ∧ f 5 = PT g7 0 ∧ f 6 = PT g12 0 ∧ f 8 = I ((k : Int)) ∧ f 30 = I (q.Facts) ∧ f 31 = I ((k : Int)) ∧ H36 = H) ?_ ?_
    · refine wpF_region ?_
      refine wpL_q (U := NoB) rfl (q_move (v := I ((k : Int))) rfl a37_31) ?_
      refine wpL_q (U := NoB) rfl (q_assign (v := I ((k : Int))) rfl rfl) ?_
      exact ⟨a37_1, a37_2, a37_4, a37_5, a37_6, rfl, a37_30, a37_31, rfl⟩
    rintro f39 _ ⟨a39_1, a39_2, a39_4, a39_5, a39_6, a39_8, a39_30, a39_31, rfl⟩
    clear a37_1 a37_2 a37_30 a37_31 a37_32 a37_4 a37_5 a37_6
    refine wpF_seq ?_
    refine wpF_cut (fun f H => f 1 = I (n) ∧ f 2 = PT g1 0 ∧ f 4 = PT g4 0 ∧ f 5 = PT g7 0 ∧ f 6 = PT g12 0 ∧ f 8 = I ((k : Int)) ∧ f 30 = I (q.Facts) ∧ f 31 = I ((k : Int)) ∧ f 37 = B (hasB q.First (k : Int)) ∧ St H0 NoB (fun b => S b ∧ b < H0.size) [rowE 22 v0 (c0 : List (List Int)), blkE g12 (.cells #[I (q.Facts), vf, vg, va, I (n), I (varsN q n), v0] 84), blkE g16 (.cells #[I ((chkF q n).1), I ((chkF q n).2)] 27), blkE g7 (.cells #[I (0), I (0)] 27), blkE g4 (.cells #[I (0), (Value.slice none 0 0)] 58), blkE g1 (.cells #[I (q.Facts), vf, vg, va] 25), rdE vf q.First, rdE vg q.Goal, rdE va q.Acts] H) ?_ ?_
    · refine wpF_region ?_
      refine wpL_q (U := NoB) rfl (q_fieldAddr rfl Try.underlying25 rfl Try.sizeOf22 a39_2) ?_
      refine wpL_q (U := NoB) rfl (q_loadBlk rfl rfl Try.isAgg22 (hS36.blk 5 rfl) rfl (fun h => h)) ?_
      refine wpL_q (U := NoB) rfl (q_move (v := I ((k : Int))) rfl a39_8) ?_
      refine wpL_o rfl ?_
      refine e_call rfl Try.call52 (arr2 (v0 := vf) (v1 := I ((k : Int))) rfl rfl) (Contains vf q.First (k : Int) (hS36.rdN 6 rfl) ) ?_
      rintro _ H40 ⟨hxx, rfl⟩
      have hS41 : St H0 NoB (fun b => S b ∧ b < H0.size) [rowE 22 v0 (c0 : List (List Int)), blkE g12 (.cells #[I (q.Facts), vf, vg, va, I (n), I (varsN q n), v0] 84), blkE g16 (.cells #[I ((chkF q n).1), I ((chkF q n).2)] 27), blkE g7 (.cells #[I (0), I (0)] 27), blkE g4 (.cells #[I (0), (Value.slice none 0 0)] 58), blkE g1 (.cells #[I (q.Facts), vf, vg, va] 25), rdE vf q.First, rdE vg q.Goal, rdE va q.Acts] H40 := hS36.ext hxx
      exact ⟨a39_1, a39_2, a39_4, a39_5, a39_6, a39_8, a39_30, a39_31, rfl, hS41⟩
    rintro f43 H43 ⟨a43_1, a43_2, a43_4, a43_5, a43_6, a43_8, a43_30, a43_31, a43_37, hS43⟩
    clear a39_1 a39_2 a39_30 a39_31 a39_4 a39_5 a39_6 a39_8
    refine wpF_cut (fun f H => ∃ (vN : Value), ∃ (cN : List (List Int)), (cN = cFirst q (k + 1)) ∧ (cN.length ≤ k + 1) ∧ f 1 = I (n) ∧ f 2 = PT g1 0 ∧ f 4 = PT g4 0 ∧ f 5 = PT g7 0 ∧ f 6 = PT g12 0 ∧ f 30 = I (q.Facts) ∧ f 31 = I ((k : Int)) ∧ St H0 NoB (fun b => S b ∧ b < H0.size) [rowE 22 vN (cN : List (List Int)), blkE g12 (.cells #[I (q.Facts), vf, vg, va, I (n), I (varsN q n), vN] 84), blkE g16 (.cells #[I ((chkF q n).1), I ((chkF q n).2)] 27), blkE g7 (.cells #[I (0), I (0)] 27), blkE g4 (.cells #[I (0), (Value.slice none 0 0)] 58), blkE g1 (.cells #[I (q.Facts), vf, vg, va] 25), rdE vf q.First, rdE vg q.Goal, rdE va q.Acts] H) ?_ ?_
    · refine wpF_cond a43_37 (fun h37 => ?t72) (fun h37 => ?e72)
      case t72 =>
        refine wpF_cut (fun f H => ∃ (r54 : Value), f 1 = I (n) ∧ f 2 = PT g1 0 ∧ f 4 = PT g4 0 ∧ f 5 = PT g7 0 ∧ f 6 = PT g12 0 ∧ f 30 = I (q.Facts) ∧ f 31 = I ((k : Int)) ∧ St H0 NoB (fun b => S b ∧ b < H0.size) [rowE 22 r54 (c0 ++ [([factV q (k : Int) (0 : Int)])] : List (List Int)), blkE g12 (.cells #[I (q.Facts), vf, vg, va, I (n), I (varsN q n), r54] 84), blkE g16 (.cells #[I ((chkF q n).1), I ((chkF q n).2)] 27), blkE g7 (.cells #[I (0), I (0)] 27), blkE g4 (.cells #[I (0), (Value.slice none 0 0)] 58), blkE g1 (.cells #[I (q.Facts), vf, vg, va] 25), rdE vf q.First, rdE vg q.Goal, rdE va q.Acts] H) ?_ ?_
        · refine wpF_region ?_
          refine wpL_q (U := NoB) rfl (q_move (v := PT g12 0) rfl a43_6) ?_
          refine wpL_q (U := NoB) rfl (q_move (v := PT g12 0) rfl a43_6) ?_
          refine wpL_q (U := NoB) rfl (q_move (v := I ((k : Int))) rfl a43_8) ?_
          refine wpL_o rfl ?_
          refine e_call rfl Try.call54 (arr3 (v0 := PT g12 0) (v1 := I ((k : Int))) (v2 := I (0)) rfl rfl rfl) (fact_E g12 vf vg va v0 q n (varsN q n) (k : Int) (0 : Int) (hS43.blk 1 rfl) (hS43.rdN 8 rfl) hQ hn (by omega) (by omega)) ?_
          rintro _ H46 ⟨hxx, rfl⟩
          have hS47 : St H0 NoB (fun b => S b ∧ b < H0.size) [rowE 22 v0 (c0 : List (List Int)), blkE g12 (.cells #[I (q.Facts), vf, vg, va, I (n), I (varsN q n), v0] 84), blkE g16 (.cells #[I ((chkF q n).1), I ((chkF q n).2)] 27), blkE g7 (.cells #[I (0), I (0)] 27), blkE g4 (.cells #[I (0), (Value.slice none 0 0)] 58), blkE g1 (.cells #[I (q.Facts), vf, vg, va] 25), rdE vf q.First, rdE vg q.Goal, rdE va q.Acts] H46 := hS43.ext hxx
          refine wpL_o rfl ?_
          refine e_buildSlice (vs := [I (factV q (k : Int) (0 : Int))]) (xs := ([factV q (k : Int) (0 : Int)] : List Int)) rfl Try.underlying22 Try.zeroValue3 rfl Try.sizeOf3 (par1 (v0 := I (factV q (k : Int) (0 : Int))) rfl) rfl hS47 (RdVs.cons (Rd.int.2 ⟨rfl, by first | assumption | (constructor <;> omega)⟩) (RdVs.nil)) (by decide) (by decide) (fun v49 H50 hS51 hxx hvv49 => ?_)
          replace hS51 : St H0 NoB (fun b => S b ∧ b < H0.size) [rowE 3 v49 ([factV q (k : Int) (0 : Int)] : List Int), rowE 22 v0 (c0 : List (List Int)), blkE g12 (.cells #[I (q.Facts), vf, vg, va, I (n), I (varsN q n), v0] 84), blkE g16 (.cells #[I ((chkF q n).1), I ((chkF q n).2)] 27), blkE g7 (.cells #[I (0), I (0)] 27), blkE g4 (.cells #[I (0), (Value.slice none 0 0)] 58), blkE g1 (.cells #[I (q.Facts), vf, vg, va] 25), rdE vf q.First, rdE vg q.Goal, rdE va q.Acts] H50 := hS51
          have hS52 : St H0 NoB (fun b => S b ∧ b < H0.size) [rdE v49 ([factV q (k : Int) (0 : Int)] : List Int), rowE 22 v0 (c0 : List (List Int)), blkE g12 (.cells #[I (q.Facts), vf, vg, va, I (n), I (varsN q n), v0] 84), blkE g16 (.cells #[I ((chkF q n).1), I ((chkF q n).2)] 27), blkE g7 (.cells #[I (0), I (0)] 27), blkE g4 (.cells #[I (0), (Value.slice none 0 0)] 58), blkE g1 (.cells #[I (q.Facts), vf, vg, va] 25), rdE vf q.First, rdE vg q.Goal, rdE va q.Acts] H50 := St.fin hS51
          have hS53 : St H0 NoB (fun b => S b ∧ b < H0.size) [rowE 22 v0 (c0 : List (List Int)), blkE g12 (.cells #[I (q.Facts), vf, vg, va, I (n), I (varsN q n), v0] 84), rdE v49 ([factV q (k : Int) (0 : Int)] : List Int), blkE g16 (.cells #[I ((chkF q n).1), I ((chkF q n).2)] 27), blkE g7 (.cells #[I (0), I (0)] 27), blkE g4 (.cells #[I (0), (Value.slice none 0 0)] 58), blkE g1 (.cells #[I (q.Facts), vf, vg, va] 25), rdE vf q.First, rdE vg q.Goal, rdE va q.Acts] H50 := (St.drop (show St H0 NoB (fun b => S b ∧ b < H0.size) [rowE 22 v0 (c0 : List (List Int)), blkE g12 (.cells #[I (q.Facts), vf, vg, va, I (n), I (varsN q n), v0] 84), rdE v49 ([factV q (k : Int) (0 : Int)] : List Int), blkE g16 (.cells #[I ((chkF q n).1), I ((chkF q n).2)] 27), blkE g7 (.cells #[I (0), I (0)] 27), blkE g4 (.cells #[I (0), (Value.slice none 0 0)] 58), blkE g1 (.cells #[I (q.Facts), vf, vg, va] 25), rdE vf q.First, rdE vg q.Goal, rdE va q.Acts] H50 from ((hS52.front 2 rfl).front 2 rfl)) (sk (sk (sk (sk (sk (sk (sk (sk (sk (sk (List.Sublist.slnil))))))))))))
          refine wpL_o rfl ?_
          refine e_call rfl Try.call53 (arr2 (v0 := PT g12 0) (v1 := v49) rfl rfl) (add_E _ g12 vf vg va v0 v49 q n (varsN q n) c0 ([factV q (k : Int) (0 : Int)]) (fun e he => hS53.ok e (List.mem_append_left [rdE v49 ([factV q (k : Int) (0 : Int)] : List Int), blkE g16 (.cells #[I ((chkF q n).1), I ((chkF q n).2)] 27), blkE g7 (.cells #[I (0), I (0)] 27), blkE g4 (.cells #[I (0), (Value.slice none 0 0)] 58), blkE g1 (.cells #[I (q.Facts), vf, vg, va] 25), rdE vf q.First, rdE vg q.Goal, rdE va q.Acts] he)) (fun b hb => SL.lt hS53 hb) (fun b ⟨e, he, hb⟩ => .inr ⟨e, List.mem_append_left [rdE v49 ([factV q (k : Int) (0 : Int)] : List Int), blkE g16 (.cells #[I ((chkF q n).1), I ((chkF q n).2)] 27), blkE g7 (.cells #[I (0), I (0)] 27), blkE g4 (.cells #[I (0), (Value.slice none 0 0)] 58), blkE g1 (.cells #[I (q.Facts), vf, vg, va] 25), rdE vf q.First, rdE vg q.Goal, rdE va q.Acts] he, hb⟩) (fun b hb e => hS53.dis 0 1 (by decide) rfl rfl b hb e) (hS53.rdS 2 rfl) (by first | omega | (simp only [List.length_append, List.length_singleton]; omega))) ?_
          rintro _ H55 ⟨hxx, r54, rfl, hgo⟩
          have hS56 : St H0 NoB (fun b => S b ∧ b < H0.size) [rowE 22 r54 (c0 ++ [([factV q (k : Int) (0 : Int)])] : List (List Int)), blkE g12 (.cells #[I (q.Facts), vf, vg, va, I (n), I (varsN q n), r54] 84), rdE v49 ([factV q (k : Int) (0 : Int)] : List Int), blkE g16 (.cells #[I ((chkF q n).1), I ((chkF q n).2)] 27), blkE g7 (.cells #[I (0), I (0)] 27), blkE g4 (.cells #[I (0), (Value.slice none 0 0)] 58), blkE g1 (.cells #[I (q.Facts), vf, vg, va] 25), rdE vf q.First, rdE vg q.Goal, rdE va q.Acts] H55 := St.back3 (A := [rowE 22 v0 (c0 : List (List Int)), blkE g12 (.cells #[I (q.Facts), vf, vg, va, I (n), I (varsN q n), v0] 84)]) (A' := [rowE 22 r54 (c0 ++ [([factV q (k : Int) (0 : Int)])] : List (List Int)), blkE g12 (.cells #[I (q.Facts), vf, vg, va, I (n), I (varsN q n), r54] 84)]) (L := [rdE v49 ([factV q (k : Int) (0 : Int)] : List Int), blkE g16 (.cells #[I ((chkF q n).1), I ((chkF q n).2)] 27), blkE g7 (.cells #[I (0), I (0)] 27), blkE g4 (.cells #[I (0), (Value.slice none 0 0)] 58), blkE g1 (.cells #[I (q.Facts), vf, vg, va] 25), rdE vf q.First, rdE vg q.Goal, rdE va q.Acts]) hS53 hxx hgo
          exact ⟨r54, a43_1, a43_2, a43_4, a43_5, a43_6, a43_30, a43_31, (hS56.drop (sk (sk (sn (sk (sk (sk (sk (sk (sk (sk (List.Sublist.slnil))))))))))))⟩
        rintro f58 H58 ⟨r54, a58_1, a58_2, a58_4, a58_5, a58_6, a58_30, a58_31, hS58⟩
        clear a43_1 a43_2 a43_30 a43_31 a43_37 a43_4 a43_5 a43_6 a43_8
        exact ⟨r54, c0 ++ [([factV q (k : Int) (0 : Int)])], (by rw [e0, cFirst_yes h37]), (by rw [List.length_append, List.length_singleton]; omega), a58_1, a58_2, a58_4, a58_5, a58_6, a58_30, a58_31, (show St H0 NoB (fun b => S b ∧ b < H0.size) [rowE 22 r54 ((c0 ++ [([factV q (k : Int) (0 : Int)])]) : List (List Int)), blkE g12 (.cells #[I (q.Facts), vf, vg, va, I (n), I (varsN q n), r54] 84), blkE g16 (.cells #[I ((chkF q n).1), I ((chkF q n).2)] 27), blkE g7 (.cells #[I (0), I (0)] 27), blkE g4 (.cells #[I (0), (Value.slice none 0 0)] 58), blkE g1 (.cells #[I (q.Facts), vf, vg, va] 25), rdE vf q.First, rdE vg q.Goal, rdE va q.Acts] H58 from hS58)⟩
      refine wpF_cut (fun f H => ∃ (r67 : Value), f 1 = I (n) ∧ f 2 = PT g1 0 ∧ f 4 = PT g4 0 ∧ f 5 = PT g7 0 ∧ f 6 = PT g12 0 ∧ f 30 = I (q.Facts) ∧ f 31 = I ((k : Int)) ∧ St H0 NoB (fun b => S b ∧ b < H0.size) [rowE 22 r67 (c0 ++ [([-(factV q (k : Int) (0 : Int))])] : List (List Int)), blkE g12 (.cells #[I (q.Facts), vf, vg, va, I (n), I (varsN q n), r67] 84), blkE g16 (.cells #[I ((chkF q n).1), I ((chkF q n).2)] 27), blkE g7 (.cells #[I (0), I (0)] 27), blkE g4 (.cells #[I (0), (Value.slice none 0 0)] 58), blkE g1 (.cells #[I (q.Facts), vf, vg, va] 25), rdE vf q.First, rdE vg q.Goal, rdE va q.Acts] H) ?_ ?_
      · refine wpF_region ?_
        refine wpL_q (U := NoB) rfl (q_move (v := PT g12 0) rfl a43_6) ?_
        refine wpL_q (U := NoB) rfl (q_move (v := PT g12 0) rfl a43_6) ?_
        refine wpL_q (U := NoB) rfl (q_move (v := I ((k : Int))) rfl a43_8) ?_
        refine wpL_o rfl ?_
        refine e_call rfl Try.call54 (arr3 (v0 := PT g12 0) (v1 := I ((k : Int))) (v2 := I (0)) rfl rfl rfl) (fact_E g12 vf vg va v0 q n (varsN q n) (k : Int) (0 : Int) (hS43.blk 1 rfl) (hS43.rdN 8 rfl) hQ hn (by omega) (by omega)) ?_
        rintro _ H59 ⟨hxx, rfl⟩
        have hS60 : St H0 NoB (fun b => S b ∧ b < H0.size) [rowE 22 v0 (c0 : List (List Int)), blkE g12 (.cells #[I (q.Facts), vf, vg, va, I (n), I (varsN q n), v0] 84), blkE g16 (.cells #[I ((chkF q n).1), I ((chkF q n).2)] 27), blkE g7 (.cells #[I (0), I (0)] 27), blkE g4 (.cells #[I (0), (Value.slice none 0 0)] 58), blkE g1 (.cells #[I (q.Facts), vf, vg, va] 25), rdE vf q.First, rdE vg q.Goal, rdE va q.Acts] H59 := hS43.ext hxx
        refine wpL_q (U := NoB) rfl (q_neg rfl rfl (by constructor <;> omega)) ?_
        refine wpL_o rfl ?_
        refine e_buildSlice (vs := [I (-(factV q (k : Int) (0 : Int)))]) (xs := ([-(factV q (k : Int) (0 : Int))] : List Int)) rfl Try.underlying22 Try.zeroValue3 rfl Try.sizeOf3 (par1 (v0 := I (-(factV q (k : Int) (0 : Int)))) rfl) rfl hS60 (RdVs.cons (Rd.int.2 ⟨rfl, by first | assumption | (constructor <;> omega)⟩) (RdVs.nil)) (by decide) (by decide) (fun v62 H63 hS64 hxx hvv62 => ?_)
        replace hS64 : St H0 NoB (fun b => S b ∧ b < H0.size) [rowE 3 v62 ([-(factV q (k : Int) (0 : Int))] : List Int), rowE 22 v0 (c0 : List (List Int)), blkE g12 (.cells #[I (q.Facts), vf, vg, va, I (n), I (varsN q n), v0] 84), blkE g16 (.cells #[I ((chkF q n).1), I ((chkF q n).2)] 27), blkE g7 (.cells #[I (0), I (0)] 27), blkE g4 (.cells #[I (0), (Value.slice none 0 0)] 58), blkE g1 (.cells #[I (q.Facts), vf, vg, va] 25), rdE vf q.First, rdE vg q.Goal, rdE va q.Acts] H63 := hS64
        have hS65 : St H0 NoB (fun b => S b ∧ b < H0.size) [rdE v62 ([-(factV q (k : Int) (0 : Int))] : List Int), rowE 22 v0 (c0 : List (List Int)), blkE g12 (.cells #[I (q.Facts), vf, vg, va, I (n), I (varsN q n), v0] 84), blkE g16 (.cells #[I ((chkF q n).1), I ((chkF q n).2)] 27), blkE g7 (.cells #[I (0), I (0)] 27), blkE g4 (.cells #[I (0), (Value.slice none 0 0)] 58), blkE g1 (.cells #[I (q.Facts), vf, vg, va] 25), rdE vf q.First, rdE vg q.Goal, rdE va q.Acts] H63 := St.fin hS64
        have hS66 : St H0 NoB (fun b => S b ∧ b < H0.size) [rowE 22 v0 (c0 : List (List Int)), blkE g12 (.cells #[I (q.Facts), vf, vg, va, I (n), I (varsN q n), v0] 84), rdE v62 ([-(factV q (k : Int) (0 : Int))] : List Int), blkE g16 (.cells #[I ((chkF q n).1), I ((chkF q n).2)] 27), blkE g7 (.cells #[I (0), I (0)] 27), blkE g4 (.cells #[I (0), (Value.slice none 0 0)] 58), blkE g1 (.cells #[I (q.Facts), vf, vg, va] 25), rdE vf q.First, rdE vg q.Goal, rdE va q.Acts] H63 := (St.drop (show St H0 NoB (fun b => S b ∧ b < H0.size) [rowE 22 v0 (c0 : List (List Int)), blkE g12 (.cells #[I (q.Facts), vf, vg, va, I (n), I (varsN q n), v0] 84), rdE v62 ([-(factV q (k : Int) (0 : Int))] : List Int), blkE g16 (.cells #[I ((chkF q n).1), I ((chkF q n).2)] 27), blkE g7 (.cells #[I (0), I (0)] 27), blkE g4 (.cells #[I (0), (Value.slice none 0 0)] 58), blkE g1 (.cells #[I (q.Facts), vf, vg, va] 25), rdE vf q.First, rdE vg q.Goal, rdE va q.Acts] H63 from ((hS65.front 2 rfl).front 2 rfl)) (sk (sk (sk (sk (sk (sk (sk (sk (sk (sk (List.Sublist.slnil))))))))))))
        refine wpL_o rfl ?_
        refine e_call rfl Try.call53 (arr2 (v0 := PT g12 0) (v1 := v62) rfl rfl) (add_E _ g12 vf vg va v0 v62 q n (varsN q n) c0 ([-(factV q (k : Int) (0 : Int))]) (fun e he => hS66.ok e (List.mem_append_left [rdE v62 ([-(factV q (k : Int) (0 : Int))] : List Int), blkE g16 (.cells #[I ((chkF q n).1), I ((chkF q n).2)] 27), blkE g7 (.cells #[I (0), I (0)] 27), blkE g4 (.cells #[I (0), (Value.slice none 0 0)] 58), blkE g1 (.cells #[I (q.Facts), vf, vg, va] 25), rdE vf q.First, rdE vg q.Goal, rdE va q.Acts] he)) (fun b hb => SL.lt hS66 hb) (fun b ⟨e, he, hb⟩ => .inr ⟨e, List.mem_append_left [rdE v62 ([-(factV q (k : Int) (0 : Int))] : List Int), blkE g16 (.cells #[I ((chkF q n).1), I ((chkF q n).2)] 27), blkE g7 (.cells #[I (0), I (0)] 27), blkE g4 (.cells #[I (0), (Value.slice none 0 0)] 58), blkE g1 (.cells #[I (q.Facts), vf, vg, va] 25), rdE vf q.First, rdE vg q.Goal, rdE va q.Acts] he, hb⟩) (fun b hb e => hS66.dis 0 1 (by decide) rfl rfl b hb e) (hS66.rdS 2 rfl) (by first | omega | (simp only [List.length_append, List.length_singleton]; omega))) ?_
        rintro _ H68 ⟨hxx, r67, rfl, hgo⟩
        have hS69 : St H0 NoB (fun b => S b ∧ b < H0.size) [rowE 22 r67 (c0 ++ [([-(factV q (k : Int) (0 : Int))])] : List (List Int)), blkE g12 (.cells #[I (q.Facts), vf, vg, va, I (n), I (varsN q n), r67] 84), rdE v62 ([-(factV q (k : Int) (0 : Int))] : List Int), blkE g16 (.cells #[I ((chkF q n).1), I ((chkF q n).2)] 27), blkE g7 (.cells #[I (0), I (0)] 27), blkE g4 (.cells #[I (0), (Value.slice none 0 0)] 58), blkE g1 (.cells #[I (q.Facts), vf, vg, va] 25), rdE vf q.First, rdE vg q.Goal, rdE va q.Acts] H68 := St.back3 (A := [rowE 22 v0 (c0 : List (List Int)), blkE g12 (.cells #[I (q.Facts), vf, vg, va, I (n), I (varsN q n), v0] 84)]) (A' := [rowE 22 r67 (c0 ++ [([-(factV q (k : Int) (0 : Int))])] : List (List Int)), blkE g12 (.cells #[I (q.Facts), vf, vg, va, I (n), I (varsN q n), r67] 84)]) (L := [rdE v62 ([-(factV q (k : Int) (0 : Int))] : List Int), blkE g16 (.cells #[I ((chkF q n).1), I ((chkF q n).2)] 27), blkE g7 (.cells #[I (0), I (0)] 27), blkE g4 (.cells #[I (0), (Value.slice none 0 0)] 58), blkE g1 (.cells #[I (q.Facts), vf, vg, va] 25), rdE vf q.First, rdE vg q.Goal, rdE va q.Acts]) hS66 hxx hgo
        exact ⟨r67, a43_1, a43_2, a43_4, a43_5, a43_6, a43_30, a43_31, (hS69.drop (sk (sk (sn (sk (sk (sk (sk (sk (sk (sk (List.Sublist.slnil))))))))))))⟩
      rintro f71 H71 ⟨r67, a71_1, a71_2, a71_4, a71_5, a71_6, a71_30, a71_31, hS71⟩
      clear a43_1 a43_2 a43_30 a43_31 a43_37 a43_4 a43_5 a43_6 a43_8
      exact ⟨r67, c0 ++ [([-(factV q (k : Int) (0 : Int))])], (by rw [e0, cFirst_no (by simp [h37])]), (by rw [List.length_append, List.length_singleton]; omega), a71_1, a71_2, a71_4, a71_5, a71_6, a71_30, a71_31, (show St H0 NoB (fun b => S b ∧ b < H0.size) [rowE 22 r67 ((c0 ++ [([-(factV q (k : Int) (0 : Int))])]) : List (List Int)), blkE g12 (.cells #[I (q.Facts), vf, vg, va, I (n), I (varsN q n), r67] 84), blkE g16 (.cells #[I ((chkF q n).1), I ((chkF q n).2)] 27), blkE g7 (.cells #[I (0), I (0)] 27), blkE g4 (.cells #[I (0), (Value.slice none 0 0)] 58), blkE g1 (.cells #[I (q.Facts), vf, vg, va] 25), rdE vf q.First, rdE vg q.Goal, rdE va q.Acts] H71 from hS71)⟩
    rintro f44 H44 ⟨vN, cN, eN, lN, a44_1, a44_2, a44_4, a44_5, a44_6, a44_30, a44_31, hS44⟩
    clear a43_1 a43_2 a43_30 a43_31 a43_37 a43_4 a43_5 a43_6 a43_8
    refine wpF_cut (fun f H => f 1 = I (n) ∧ f 2 = PT g1 0 ∧ f 4 = PT g4 0 ∧ f 5 = PT g7 0 ∧ f 6 = PT g12 0 ∧ f 30 = I (q.Facts) ∧ f 31 = I ((k : Int) + 1) ∧ H44 = H) ?_ ?_
    · refine wpF_region ?_
      refine wpL_q (U := NoB) rfl (q_add rfl a44_31 rfl (by constructor <;> omega)) ?_
      refine wpL_q (U := NoB) rfl (q_move (v := I ((k : Int) + 1)) rfl rfl) ?_
      exact ⟨a44_1, a44_2, a44_4, a44_5, a44_6, a44_30, rfl, rfl⟩
    rintro f73 _ ⟨a73_1, a73_2, a73_4, a73_5, a73_6, a73_30, a73_31, rfl⟩
    clear a44_1 a44_2 a44_30 a44_31 a44_4 a44_5 a44_6
    refine ⟨_, ?_, k + 1, cN, vN, rfl, (by omega), eN, lN, a73_1, a73_2, a73_4, a73_5, a73_6, a73_30, (Eq.trans a73_31 (congrArg I (by omega))), hS44⟩
    omega
  have hkF : k = q.Facts.toNat := by omega
  rw [hkF] at e0
  refine wpF_exit ?_
  refine atX_here ?_
  refine wpF_seq ?_
  refine wpF_seq ?_
  refine wpF_cut (fun f H => f 1 = I (n) ∧ f 2 = PT g1 0 ∧ f 4 = PT g4 0 ∧ f 5 = PT g7 0 ∧ f 6 = PT g12 0 ∧ f 52 = I (n) ∧ f 53 = I (0) ∧ H36 = H) ?_ ?_
  · refine wpF_region ?_
    refine wpL_q (U := NoB) rfl (q_move (v := I (n)) rfl a37_1) ?_
    refine wpL_q (U := NoB) rfl (q_move (v := I (0)) rfl rfl) ?_
    exact ⟨a37_1, a37_2, a37_4, a37_5, a37_6, rfl, rfl, rfl⟩
  rintro f74 _ ⟨a74_1, a74_2, a74_4, a74_5, a74_6, a74_52, a74_53, rfl⟩
  clear a37_1 a37_2 a37_30 a37_31 a37_32 a37_4 a37_5 a37_6
  refine wpF_block ?_
  refine wpF_loop (fun mz f H => ∃ (u : Nat), ∃ (c1 : List (List Int)), ∃ (v1 : Value), mz = n.toNat - u ∧ (u ≤ n.toNat) ∧ (c1 = c0 ++ cTimes q n u) ∧ (c1.length ≤ c0.length + 2000 * u) ∧ f 1 = I (n) ∧ f 2 = PT g1 0 ∧ f 4 = PT g4 0 ∧ f 5 = PT g7 0 ∧ f 6 = PT g12 0 ∧ f 52 = I (n) ∧ f 53 = I ((u : Int)) ∧ St H0 NoB (fun b => S b ∧ b < H0.size) [rowE 22 v1 (c1 : List (List Int)), blkE g12 (.cells #[I (q.Facts), vf, vg, va, I (n), I (varsN q n), v1] 84), blkE g16 (.cells #[I ((chkF q n).1), I ((chkF q n).2)] 27), blkE g7 (.cells #[I (0), I (0)] 27), blkE g4 (.cells #[I (0), (Value.slice none 0 0)] 58), blkE g1 (.cells #[I (q.Facts), vf, vg, va] 25), rdE vf q.First, rdE vg q.Goal, rdE va q.Acts] H) (n.toNat - 0) ?_ ?_
  · exact ⟨0, c0, v0, rfl, Nat.zero_le _, (by simp [cTimes]), (Nat.le_refl _), a74_1, a74_2, a74_4, a74_5, a74_6, a74_52, (Eq.trans a74_53 (congrArg I (by omega))), hS36⟩
  intro m75 f75 H75 hI75
  obtain ⟨u, c1, v1, hm75, hu, e1, l1, a75_1, a75_2, a75_4, a75_5, a75_6, a75_52, a75_53, hS75⟩ := hI75
  clear a74_1 a74_2 a74_4 a74_5 a74_52 a74_53 a74_6
  refine wpF_seq ?_
  refine wpF_cut (fun f H => f 1 = I (n) ∧ f 2 = PT g1 0 ∧ f 4 = PT g4 0 ∧ f 5 = PT g7 0 ∧ f 6 = PT g12 0 ∧ f 52 = I (n) ∧ f 53 = I ((u : Int)) ∧ f 54 = B (decide ((u : Int) < n)) ∧ H75 = H) ?_ ?_
  · refine wpF_region ?_
    refine wpL_q (U := NoB) rfl (q_lss rfl a75_53 a75_52) ?_
    exact ⟨a75_1, a75_2, a75_4, a75_5, a75_6, a75_52, a75_53, rfl, rfl⟩
  rintro f76 _ ⟨a76_1, a76_2, a76_4, a76_5, a76_6, a76_52, a76_53, a76_54, rfl⟩
  clear a75_1 a75_2 a75_4 a75_5 a75_52 a75_53 a75_6
  refine wpF_seq ?_
  refine wpF_condP a76_54 (fun h54 => ?t120) (fun h54 => ?e120)
  case t120 =>
    have htl := timeC_len (n := n) (t := (u : Int)) hQ
    refine wpF_skip ?_
    refine wpF_seq ?_
    refine wpF_block ?_
    refine wpF_seq ?_
    refine wpF_cut (fun f H => f 1 = I (n) ∧ f 2 = PT g1 0 ∧ f 4 = PT g4 0 ∧ f 5 = PT g7 0 ∧ f 6 = PT g12 0 ∧ f 9 = I ((u : Int)) ∧ f 52 = I (n) ∧ f 53 = I ((u : Int)) ∧ H75 = H) ?_ ?_
    · refine wpF_region ?_
      refine wpL_q (U := NoB) rfl (q_move (v := I ((u : Int))) rfl a76_53) ?_
      refine wpL_q (U := NoB) rfl (q_assign (v := I ((u : Int))) rfl rfl) ?_
      exact ⟨a76_1, a76_2, a76_4, a76_5, a76_6, rfl, a76_52, a76_53, rfl⟩
    rintro f78 _ ⟨a78_1, a78_2, a78_4, a78_5, a78_6, a78_9, a78_52, a78_53, rfl⟩
    clear a76_1 a76_2 a76_4 a76_5 a76_52 a76_53 a76_54 a76_6
    refine wpF_cut (fun f H => ∃ (r80 : Value), f 1 = I (n) ∧ f 2 = PT g1 0 ∧ f 4 = PT g4 0 ∧ f 5 = PT g7 0 ∧ f 6 = PT g12 0 ∧ f 52 = I (n) ∧ f 53 = I ((u : Int)) ∧ St H0 NoB (fun b => S b ∧ b < H0.size) [rowE 22 r80 (c1 ++ timeC q n (u : Int) : List (List Int)), blkE g12 (.cells #[I (q.Facts), vf, vg, va, I (n), I (varsN q n), r80] 84), blkE g16 (.cells #[I ((chkF q n).1), I ((chkF q n).2)] 27), blkE g7 (.cells #[I (0), I (0)] 27), blkE g4 (.cells #[I (0), (Value.slice none 0 0)] 58), blkE g1 (.cells #[I (q.Facts), vf, vg, va] 25), rdE vf q.First, rdE vg q.Goal, rdE va q.Acts] H) ?_ ?_
    · refine wpF_region ?_
      refine wpL_q (U := NoB) rfl (q_move (v := PT g12 0) rfl a78_6) ?_
      refine wpL_q (U := NoB) rfl (q_move (v := I ((u : Int))) rfl a78_9) ?_
      have hS79 : St H0 NoB (fun b => S b ∧ b < H0.size) [rowE 22 v1 (c1 : List (List Int)), blkE g12 (.cells #[I (q.Facts), vf, vg, va, I (n), I (varsN q n), v1] 84), blkE g16 (.cells #[I ((chkF q n).1), I ((chkF q n).2)] 27), blkE g7 (.cells #[I (0), I (0)] 27), blkE g4 (.cells #[I (0), (Value.slice none 0 0)] 58), blkE g1 (.cells #[I (q.Facts), vf, vg, va] 25), rdE vf q.First, rdE vg q.Goal, rdE va q.Acts] H75 := hS75
      refine wpL_o rfl ?_
      refine e_call rfl Try.call55 (arr2 (v0 := PT g12 0) (v1 := I ((u : Int))) rfl rfl) (time_E _ g12 vf vg va v1 q n (varsN q n) (u : Int) c1 (fun e he => hS79.ok e (List.mem_append_left [blkE g16 (.cells #[I ((chkF q n).1), I ((chkF q n).2)] 27), blkE g7 (.cells #[I (0), I (0)] 27), blkE g4 (.cells #[I (0), (Value.slice none 0 0)] 58), blkE g1 (.cells #[I (q.Facts), vf, vg, va] 25), rdE vf q.First, rdE vg q.Goal, rdE va q.Acts] he)) (fun b hb => SL.lt hS79 hb) (fun b ⟨e, he, hb⟩ => .inr ⟨e, List.mem_append_left [blkE g16 (.cells #[I ((chkF q n).1), I ((chkF q n).2)] 27), blkE g7 (.cells #[I (0), I (0)] 27), blkE g4 (.cells #[I (0), (Value.slice none 0 0)] 58), blkE g1 (.cells #[I (q.Facts), vf, vg, va] 25), rdE vf q.First, rdE vg q.Goal, rdE va q.Acts] he, hb⟩) (fun b hb e => hS79.dis 0 1 (by decide) rfl rfl b hb e) (hS79.rdS 8 rfl) hQ hn (by omega) (by omega)) ?_
      rintro _ H81 ⟨hxx, r80, rfl, hgo⟩
      have hS82 : St H0 NoB (fun b => S b ∧ b < H0.size) [rowE 22 r80 (c1 ++ timeC q n (u : Int) : List (List Int)), blkE g12 (.cells #[I (q.Facts), vf, vg, va, I (n), I (varsN q n), r80] 84), blkE g16 (.cells #[I ((chkF q n).1), I ((chkF q n).2)] 27), blkE g7 (.cells #[I (0), I (0)] 27), blkE g4 (.cells #[I (0), (Value.slice none 0 0)] 58), blkE g1 (.cells #[I (q.Facts), vf, vg, va] 25), rdE vf q.First, rdE vg q.Goal, rdE va q.Acts] H81 := St.back3 (A := [rowE 22 v1 (c1 : List (List Int)), blkE g12 (.cells #[I (q.Facts), vf, vg, va, I (n), I (varsN q n), v1] 84)]) (A' := [rowE 22 r80 (c1 ++ timeC q n (u : Int) : List (List Int)), blkE g12 (.cells #[I (q.Facts), vf, vg, va, I (n), I (varsN q n), r80] 84)]) (L := [blkE g16 (.cells #[I ((chkF q n).1), I ((chkF q n).2)] 27), blkE g7 (.cells #[I (0), I (0)] 27), blkE g4 (.cells #[I (0), (Value.slice none 0 0)] 58), blkE g1 (.cells #[I (q.Facts), vf, vg, va] 25), rdE vf q.First, rdE vg q.Goal, rdE va q.Acts]) hS79 hxx hgo
      exact ⟨r80, a78_1, a78_2, a78_4, a78_5, a78_6, a78_52, a78_53, hS82⟩
    rintro f84 H84 ⟨r80, a84_1, a84_2, a84_4, a84_5, a84_6, a84_52, a84_53, hS84⟩
    clear a78_1 a78_2 a78_4 a78_5 a78_52 a78_53 a78_6 a78_9
    refine wpF_cut (fun f H => f 1 = I (n) ∧ f 2 = PT g1 0 ∧ f 4 = PT g4 0 ∧ f 5 = PT g7 0 ∧ f 6 = PT g12 0 ∧ f 52 = I (n) ∧ f 53 = I ((u : Int) + 1) ∧ H84 = H) ?_ ?_
    · refine wpF_region ?_
      refine wpL_q (U := NoB) rfl (q_add rfl a84_53 rfl (by constructor <;> omega)) ?_
      refine wpL_q (U := NoB) rfl (q_move (v := I ((u : Int) + 1)) rfl rfl) ?_
      exact ⟨a84_1, a84_2, a84_4, a84_5, a84_6, a84_52, rfl, rfl⟩
    rintro f85 _ ⟨a85_1, a85_2, a85_4, a85_5, a85_6, a85_52, a85_53, rfl⟩
    clear a84_1 a84_2 a84_4 a84_5 a84_52 a84_53 a84_6
    refine ⟨_, ?_, u + 1, c1 ++ timeC q n (u : Int), r80, rfl, (by omega), (by rw [e1, cTimes_next, List.append_assoc]), (by rw [List.length_append]; omega), a85_1, a85_2, a85_4, a85_5, a85_6, a85_52, (Eq.trans a85_53 (congrArg I (by omega))), (show St H0 NoB (fun b => S b ∧ b < H0.size) [rowE 22 r80 ((c1 ++ timeC q n (u : Int)) : List (List Int)), blkE g12 (.cells #[I (q.Facts), vf, vg, va, I (n), I (varsN q n), r80] 84), blkE g16 (.cells #[I ((chkF q n).1), I ((chkF q n).2)] 27), blkE g7 (.cells #[I (0), I (0)] 27), blkE g4 (.cells #[I (0), (Value.slice none 0 0)] 58), blkE g1 (.cells #[I (q.Facts), vf, vg, va] 25), rdE vf q.First, rdE vg q.Goal, rdE va q.Acts] H84 from hS84)⟩
    omega
  have hun : u = n.toNat := by omega
  rw [hun, e0] at e1
  refine wpF_exit ?_
  refine atX_here ?_
  refine wpF_seq ?_
  refine wpF_seq ?_
  refine wpF_cut (fun f H => f 1 = I (n) ∧ f 4 = PT g4 0 ∧ f 5 = PT g7 0 ∧ f 6 = PT g12 0 ∧ f 61 = vg ∧ f 62 = I ((q.Goal.length : Int)) ∧ f 63 = I (0) ∧ H75 = H) ?_ ?_
  · refine wpF_region ?_
    refine wpL_q (U := NoB) rfl (q_fieldAddr rfl Try.underlying25 rfl Try.sizeOf22 a76_2) ?_
    refine wpL_q (U := NoB) rfl (q_loadBlk rfl rfl Try.isAgg22 (hS75.blk 5 rfl) rfl (fun h => h)) ?_
    refine wpL_q (U := NoB) rfl (q_lenRd rfl Try.underlying22 rfl (hS75.rdl 7 rfl)) ?_
    refine wpL_q (U := NoB) rfl (q_move (v := I (0)) rfl rfl) ?_
    exact ⟨a76_1, a76_4, a76_5, a76_6, rfl, rfl, rfl, rfl⟩
  rintro f86 _ ⟨a86_1, a86_4, a86_5, a86_6, a86_61, a86_62, a86_63, rfl⟩
  clear a76_1 a76_2 a76_4 a76_5 a76_52 a76_53 a76_54 a76_6
  refine wpF_block ?_
  refine wpF_loop (fun mz f H => ∃ (i : Nat), ∃ (c2 : List (List Int)), ∃ (v2 : Value), mz = q.Goal.length - i ∧ (i ≤ q.Goal.length) ∧ (c2 = c1 ++ cGoal q n (q.Goal.take i)) ∧ (c2.length ≤ c1.length + i) ∧ f 1 = I (n) ∧ f 4 = PT g4 0 ∧ f 5 = PT g7 0 ∧ f 6 = PT g12 0 ∧ f 61 = vg ∧ f 62 = I ((q.Goal.length : Int)) ∧ f 63 = I ((i : Int)) ∧ St H0 NoB (fun b => S b ∧ b < H0.size) [rowE 22 v2 (c2 : List (List Int)), blkE g12 (.cells #[I (q.Facts), vf, vg, va, I (n), I (varsN q n), v2] 84), blkE g16 (.cells #[I ((chkF q n).1), I ((chkF q n).2)] 27), blkE g7 (.cells #[I (0), I (0)] 27), blkE g4 (.cells #[I (0), (Value.slice none 0 0)] 58), blkE g1 (.cells #[I (q.Facts), vf, vg, va] 25), rdE vf q.First, rdE vg q.Goal, rdE va q.Acts] H) (q.Goal.length - 0) ?_ ?_
  · exact ⟨0, c1, v1, rfl, Nat.zero_le _, (by simp [cGoal]), (Nat.le_refl _), a86_1, a86_4, a86_5, a86_6, a86_61, a86_62, (Eq.trans a86_63 (congrArg I (by omega))), hS75⟩
  intro m87 f87 H87 hI87
  obtain ⟨i, c2, v2, hm87, hi, e2, l2, a87_1, a87_4, a87_5, a87_6, a87_61, a87_62, a87_63, hS87⟩ := hI87
  clear a86_1 a86_4 a86_5 a86_6 a86_61 a86_62 a86_63
  refine wpF_seq ?_
  refine wpF_cut (fun f H => f 1 = I (n) ∧ f 4 = PT g4 0 ∧ f 5 = PT g7 0 ∧ f 6 = PT g12 0 ∧ f 61 = vg ∧ f 62 = I ((q.Goal.length : Int)) ∧ f 63 = I ((i : Int)) ∧ f 64 = B (decide ((i : Int) < (q.Goal.length : Int))) ∧ H87 = H) ?_ ?_
  · refine wpF_region ?_
    refine wpL_q (U := NoB) rfl (q_lss rfl a87_63 a87_62) ?_
    exact ⟨a87_1, a87_4, a87_5, a87_6, a87_61, a87_62, a87_63, rfl, rfl⟩
  rintro f88 _ ⟨a88_1, a88_4, a88_5, a88_6, a88_61, a88_62, a88_63, a88_64, rfl⟩
  clear a87_1 a87_4 a87_5 a87_6 a87_61 a87_62 a87_63
  refine wpF_seq ?_
  refine wpF_condP a88_64 (fun h64 => ?t119) (fun h64 => ?e119)
  case t119 =>
    have hgl := hQ.goal.len (by omega)
    have hgm := hQ.goal.mem (nth_mem (l := q.Goal) (k := i) (by omega))
    have hfg := fact_rng hQ (f := nth q.Goal i) (t := n) (by omega) (by omega)
    refine wpF_skip ?_
    refine wpF_seq ?_
    refine wpF_block ?_
    refine wpF_seq ?_
    refine wpF_cut (fun f H => f 1 = I (n) ∧ f 4 = PT g4 0 ∧ f 5 = PT g7 0 ∧ f 6 = PT g12 0 ∧ f 11 = I (nth q.Goal i) ∧ f 61 = vg ∧ f 62 = I ((q.Goal.length : Int)) ∧ f 63 = I ((i : Int)) ∧ H87 = H) ?_ ?_
    · refine wpF_region ?_
      refine wpL_q (U := NoB) rfl (q_indexRd (k := i) rfl Try.underlying22 el_Int_3_StepD1 a88_61 a88_63 (hS87.rdl 7 rfl) (by omega) (by omega)) ?_
      refine wpL_q (U := NoB) rfl (q_loadInt (k := i) rfl rfl el_Int_3_StepD1 (hS87.rdl 7 rfl) (by omega) (fun _ h => h)) ?_
      refine wpL_q (U := NoB) rfl (q_assign (v := I (nth q.Goal i)) rfl rfl) ?_
      exact ⟨a88_1, a88_4, a88_5, a88_6, rfl, a88_61, a88_62, a88_63, rfl⟩
    rintro f90 _ ⟨a90_1, a90_4, a90_5, a90_6, a90_11, a90_61, a90_62, a90_63, rfl⟩
    clear a88_1 a88_4 a88_5 a88_6 a88_61 a88_62 a88_63 a88_64
    refine wpF_cut (fun f H => ∃ (r99 : Value), f 1 = I (n) ∧ f 4 = PT g4 0 ∧ f 5 = PT g7 0 ∧ f 6 = PT g12 0 ∧ f 61 = vg ∧ f 62 = I ((q.Goal.length : Int)) ∧ f 63 = I ((i : Int)) ∧ St H0 NoB (fun b => S b ∧ b < H0.size) [rowE 22 r99 (c2 ++ [([factV q (nth q.Goal i) n])] : List (List Int)), blkE g12 (.cells #[I (q.Facts), vf, vg, va, I (n), I (varsN q n), r99] 84), blkE g16 (.cells #[I ((chkF q n).1), I ((chkF q n).2)] 27), blkE g7 (.cells #[I (0), I (0)] 27), blkE g4 (.cells #[I (0), (Value.slice none 0 0)] 58), blkE g1 (.cells #[I (q.Facts), vf, vg, va] 25), rdE vf q.First, rdE vg q.Goal, rdE va q.Acts] H) ?_ ?_
    · refine wpF_region ?_
      refine wpL_q (U := NoB) rfl (q_move (v := PT g12 0) rfl a90_6) ?_
      refine wpL_q (U := NoB) rfl (q_move (v := PT g12 0) rfl a90_6) ?_
      refine wpL_q (U := NoB) rfl (q_move (v := I (nth q.Goal i)) rfl a90_11) ?_
      refine wpL_q (U := NoB) rfl (q_move (v := I (n)) rfl a90_1) ?_
      refine wpL_o rfl ?_
      refine e_call rfl Try.call54 (arr3 (v0 := PT g12 0) (v1 := I (nth q.Goal i)) (v2 := I (n)) rfl rfl rfl) (fact_E g12 vf vg va v2 q n (varsN q n) (nth q.Goal i) n (hS87.blk 1 rfl) (hS87.rdN 8 rfl) hQ hn (by omega) (by omega)) ?_
      rintro _ H91 ⟨hxx, rfl⟩
      have hS92 : St H0 NoB (fun b => S b ∧ b < H0.size) [rowE 22 v2 (c2 : List (List Int)), blkE g12 (.cells #[I (q.Facts), vf, vg, va, I (n), I (varsN q n), v2] 84), blkE g16 (.cells #[I ((chkF q n).1), I ((chkF q n).2)] 27), blkE g7 (.cells #[I (0), I (0)] 27), blkE g4 (.cells #[I (0), (Value.slice none 0 0)] 58), blkE g1 (.cells #[I (q.Facts), vf, vg, va] 25), rdE vf q.First, rdE vg q.Goal, rdE va q.Acts] H91 := hS87.ext hxx
      refine wpL_o rfl ?_
      refine e_buildSlice (vs := [I (factV q (nth q.Goal i) n)]) (xs := ([factV q (nth q.Goal i) n] : List Int)) rfl Try.underlying22 Try.zeroValue3 rfl Try.sizeOf3 (par1 (v0 := I (factV q (nth q.Goal i) n)) rfl) rfl hS92 (RdVs.cons (Rd.int.2 ⟨rfl, by first | assumption | (constructor <;> omega)⟩) (RdVs.nil)) (by decide) (by decide) (fun v94 H95 hS96 hxx hvv94 => ?_)
      replace hS96 : St H0 NoB (fun b => S b ∧ b < H0.size) [rowE 3 v94 ([factV q (nth q.Goal i) n] : List Int), rowE 22 v2 (c2 : List (List Int)), blkE g12 (.cells #[I (q.Facts), vf, vg, va, I (n), I (varsN q n), v2] 84), blkE g16 (.cells #[I ((chkF q n).1), I ((chkF q n).2)] 27), blkE g7 (.cells #[I (0), I (0)] 27), blkE g4 (.cells #[I (0), (Value.slice none 0 0)] 58), blkE g1 (.cells #[I (q.Facts), vf, vg, va] 25), rdE vf q.First, rdE vg q.Goal, rdE va q.Acts] H95 := hS96
      have hS97 : St H0 NoB (fun b => S b ∧ b < H0.size) [rdE v94 ([factV q (nth q.Goal i) n] : List Int), rowE 22 v2 (c2 : List (List Int)), blkE g12 (.cells #[I (q.Facts), vf, vg, va, I (n), I (varsN q n), v2] 84), blkE g16 (.cells #[I ((chkF q n).1), I ((chkF q n).2)] 27), blkE g7 (.cells #[I (0), I (0)] 27), blkE g4 (.cells #[I (0), (Value.slice none 0 0)] 58), blkE g1 (.cells #[I (q.Facts), vf, vg, va] 25), rdE vf q.First, rdE vg q.Goal, rdE va q.Acts] H95 := St.fin hS96
      have hS98 : St H0 NoB (fun b => S b ∧ b < H0.size) [rowE 22 v2 (c2 : List (List Int)), blkE g12 (.cells #[I (q.Facts), vf, vg, va, I (n), I (varsN q n), v2] 84), rdE v94 ([factV q (nth q.Goal i) n] : List Int), blkE g16 (.cells #[I ((chkF q n).1), I ((chkF q n).2)] 27), blkE g7 (.cells #[I (0), I (0)] 27), blkE g4 (.cells #[I (0), (Value.slice none 0 0)] 58), blkE g1 (.cells #[I (q.Facts), vf, vg, va] 25), rdE vf q.First, rdE vg q.Goal, rdE va q.Acts] H95 := (St.drop (show St H0 NoB (fun b => S b ∧ b < H0.size) [rowE 22 v2 (c2 : List (List Int)), blkE g12 (.cells #[I (q.Facts), vf, vg, va, I (n), I (varsN q n), v2] 84), rdE v94 ([factV q (nth q.Goal i) n] : List Int), blkE g16 (.cells #[I ((chkF q n).1), I ((chkF q n).2)] 27), blkE g7 (.cells #[I (0), I (0)] 27), blkE g4 (.cells #[I (0), (Value.slice none 0 0)] 58), blkE g1 (.cells #[I (q.Facts), vf, vg, va] 25), rdE vf q.First, rdE vg q.Goal, rdE va q.Acts] H95 from ((hS97.front 2 rfl).front 2 rfl)) (sk (sk (sk (sk (sk (sk (sk (sk (sk (sk (List.Sublist.slnil))))))))))))
      refine wpL_o rfl ?_
      refine e_call rfl Try.call53 (arr2 (v0 := PT g12 0) (v1 := v94) rfl rfl) (add_E _ g12 vf vg va v2 v94 q n (varsN q n) c2 ([factV q (nth q.Goal i) n]) (fun e he => hS98.ok e (List.mem_append_left [rdE v94 ([factV q (nth q.Goal i) n] : List Int), blkE g16 (.cells #[I ((chkF q n).1), I ((chkF q n).2)] 27), blkE g7 (.cells #[I (0), I (0)] 27), blkE g4 (.cells #[I (0), (Value.slice none 0 0)] 58), blkE g1 (.cells #[I (q.Facts), vf, vg, va] 25), rdE vf q.First, rdE vg q.Goal, rdE va q.Acts] he)) (fun b hb => SL.lt hS98 hb) (fun b ⟨e, he, hb⟩ => .inr ⟨e, List.mem_append_left [rdE v94 ([factV q (nth q.Goal i) n] : List Int), blkE g16 (.cells #[I ((chkF q n).1), I ((chkF q n).2)] 27), blkE g7 (.cells #[I (0), I (0)] 27), blkE g4 (.cells #[I (0), (Value.slice none 0 0)] 58), blkE g1 (.cells #[I (q.Facts), vf, vg, va] 25), rdE vf q.First, rdE vg q.Goal, rdE va q.Acts] he, hb⟩) (fun b hb e => hS98.dis 0 1 (by decide) rfl rfl b hb e) (hS98.rdS 2 rfl) (by first | omega | (simp only [List.length_append, List.length_singleton]; omega))) ?_
      rintro _ H100 ⟨hxx, r99, rfl, hgo⟩
      have hS101 : St H0 NoB (fun b => S b ∧ b < H0.size) [rowE 22 r99 (c2 ++ [([factV q (nth q.Goal i) n])] : List (List Int)), blkE g12 (.cells #[I (q.Facts), vf, vg, va, I (n), I (varsN q n), r99] 84), rdE v94 ([factV q (nth q.Goal i) n] : List Int), blkE g16 (.cells #[I ((chkF q n).1), I ((chkF q n).2)] 27), blkE g7 (.cells #[I (0), I (0)] 27), blkE g4 (.cells #[I (0), (Value.slice none 0 0)] 58), blkE g1 (.cells #[I (q.Facts), vf, vg, va] 25), rdE vf q.First, rdE vg q.Goal, rdE va q.Acts] H100 := St.back3 (A := [rowE 22 v2 (c2 : List (List Int)), blkE g12 (.cells #[I (q.Facts), vf, vg, va, I (n), I (varsN q n), v2] 84)]) (A' := [rowE 22 r99 (c2 ++ [([factV q (nth q.Goal i) n])] : List (List Int)), blkE g12 (.cells #[I (q.Facts), vf, vg, va, I (n), I (varsN q n), r99] 84)]) (L := [rdE v94 ([factV q (nth q.Goal i) n] : List Int), blkE g16 (.cells #[I ((chkF q n).1), I ((chkF q n).2)] 27), blkE g7 (.cells #[I (0), I (0)] 27), blkE g4 (.cells #[I (0), (Value.slice none 0 0)] 58), blkE g1 (.cells #[I (q.Facts), vf, vg, va] 25), rdE vf q.First, rdE vg q.Goal, rdE va q.Acts]) hS98 hxx hgo
      exact ⟨r99, a90_1, a90_4, a90_5, a90_6, a90_61, a90_62, a90_63, (hS101.drop (sk (sk (sn (sk (sk (sk (sk (sk (sk (sk (List.Sublist.slnil))))))))))))⟩
    rintro f103 H103 ⟨r99, a103_1, a103_4, a103_5, a103_6, a103_61, a103_62, a103_63, hS103⟩
    clear a90_1 a90_11 a90_4 a90_5 a90_6 a90_61 a90_62 a90_63
    refine wpF_cut (fun f H => f 1 = I (n) ∧ f 4 = PT g4 0 ∧ f 5 = PT g7 0 ∧ f 6 = PT g12 0 ∧ f 61 = vg ∧ f 62 = I ((q.Goal.length : Int)) ∧ f 63 = I ((i : Int) + 1) ∧ H103 = H) ?_ ?_
    · refine wpF_region ?_
      refine wpL_q (U := NoB) rfl (q_add rfl a103_63 rfl (by constructor <;> omega)) ?_
      refine wpL_q (U := NoB) rfl (q_move (v := I ((i : Int) + 1)) rfl rfl) ?_
      exact ⟨a103_1, a103_4, a103_5, a103_6, a103_61, a103_62, rfl, rfl⟩
    rintro f104 _ ⟨a104_1, a104_4, a104_5, a104_6, a104_61, a104_62, a104_63, rfl⟩
    clear a103_1 a103_4 a103_5 a103_6 a103_61 a103_62 a103_63
    refine ⟨_, ?_, i + 1, c2 ++ [([factV q (nth q.Goal i) n])], r99, rfl, (by omega), (by rw [e2, cGoal_next (by omega), List.append_assoc]), (by rw [List.length_append, List.length_singleton]; omega), a104_1, a104_4, a104_5, a104_6, a104_61, a104_62, (Eq.trans a104_63 (congrArg I (by omega))), (show St H0 NoB (fun b => S b ∧ b < H0.size) [rowE 22 r99 ((c2 ++ [([factV q (nth q.Goal i) n])]) : List (List Int)), blkE g12 (.cells #[I (q.Facts), vf, vg, va, I (n), I (varsN q n), r99] 84), blkE g16 (.cells #[I ((chkF q n).1), I ((chkF q n).2)] 27), blkE g7 (.cells #[I (0), I (0)] 27), blkE g4 (.cells #[I (0), (Value.slice none 0 0)] 58), blkE g1 (.cells #[I (q.Facts), vf, vg, va] 25), rdE vf q.First, rdE vg q.Goal, rdE va q.Acts] H103 from hS103)⟩
    omega
  rw [List.take_of_length_le (by omega)] at e2
  refine wpF_exit ?_
  refine atX_here ?_
  refine wpF_seq ?_
  refine wpF_seq ?_
  refine wpF_cut (fun f H => f 4 = PT g4 0 ∧ f 5 = PT g7 0 ∧ f 6 = PT g12 0 ∧ f 81 = B (decide (400 < (c2.length : Int))) ∧ H87 = H) ?_ ?_
  · refine wpF_region ?_
    refine wpL_q (U := NoB) rfl (q_move (v := PT g12 0) rfl a88_6) ?_
    refine wpL_q (U := NoB) rfl (q_nilCheck rfl rfl) ?_
    refine wpL_q (U := NoB) rfl (q_fieldAddr rfl Try.underlying84 rfl Try.sizeOf58 rfl) ?_
    refine wpL_q (U := NoB) rfl (q_fieldAddr rfl Try.underlying58 rfl Try.sizeOf56 rfl) ?_
    refine wpL_q (U := NoB) rfl (q_loadBlk rfl rfl Try.isAgg56 (hS87.blk 1 rfl) rfl (fun h => h)) ?_
    refine wpL_q (U := NoB) rfl (q_lenRd rfl Try.underlying56 rfl (hS87.rowl 0 rfl)) ?_
    refine wpL_q (U := NoB) rfl (q_gtr rfl rfl rfl) ?_
    exact ⟨a88_4, a88_5, a88_6, rfl, rfl⟩
  rintro f105 _ ⟨a105_4, a105_5, a105_6, a105_81, rfl⟩
  clear a88_1 a88_4 a88_5 a88_6 a88_61 a88_62 a88_63 a88_64
  refine wpF_condP a105_81 (fun h81 => ?t118) (fun h81 => ?e118)
  case t118 =>
    refine wpF_seq ?_
    refine wpF_cut (fun f H => f 4 = PT g4 0 ∧ f 5 = PT g7 0 ∧ St H0 NoB (fun b => S b ∧ b < H0.size) [blkE g7 (.cells #[I (10), I (0)] 27), blkE g4 (.cells #[I (0), (Value.slice none 0 0)] 58), rowE 22 v2 (c2 : List (List Int)), blkE g12 (.cells #[I (q.Facts), vf, vg, va, I (n), I (varsN q n), v2] 84), blkE g16 (.cells #[I ((chkF q n).1), I ((chkF q n).2)] 27), blkE g1 (.cells #[I (q.Facts), vf, vg, va] 25), rdE vf q.First, rdE vg q.Goal, rdE va q.Acts] H) ?_ ?_
    · refine wpF_region ?_
      refine wpL_q (U := NoB) rfl (q_build (v := Value.agg #[I (0), (Value.slice none 0 0)]) rfl par0 (fun w => by kernel_rfl)) ?_
      refine wpL_q (U := NoB) rfl (q_build (v := Value.agg #[I (10), I (0)]) rfl (par1 (v0 := I (10)) rfl) (fun w => by kernel_rfl)) ?_
      refine wpL_o rfl ?_
      refine e_storeBlkA (cs' := #[I (0), (Value.slice none 0 0)]) rfl a105_4 rfl Try.sizeOf58 rfl rfl (List.forall_mem_cons.2 ⟨rfl, List.forall_mem_cons.2 ⟨rfl, List.forall_mem_nil _⟩⟩) (hS87.front 4 rfl) (fun H107 hS108 hxx => ?_)
      replace hS108 : St H0 NoB (fun b => S b ∧ b < H0.size) [blkE g4 (.cells #[I (0), (Value.slice none 0 0)] 58), rowE 22 v2 (c2 : List (List Int)), blkE g12 (.cells #[I (q.Facts), vf, vg, va, I (n), I (varsN q n), v2] 84), blkE g16 (.cells #[I ((chkF q n).1), I ((chkF q n).2)] 27), blkE g7 (.cells #[I (0), I (0)] 27), blkE g1 (.cells #[I (q.Facts), vf, vg, va] 25), rdE vf q.First, rdE vg q.Goal, rdE va q.Acts] H107 := hS108
      refine wpL_o rfl ?_
      refine e_storeBlkA (cs' := #[I (10), I (0)]) rfl a105_5 rfl Try.sizeOf27 rfl rfl (List.forall_mem_cons.2 ⟨rfl, List.forall_mem_cons.2 ⟨rfl, List.forall_mem_nil _⟩⟩) (hS108.front 4 rfl) (fun H109 hS110 hxx => ?_)
      replace hS110 : St H0 NoB (fun b => S b ∧ b < H0.size) [blkE g7 (.cells #[I (10), I (0)] 27), blkE g4 (.cells #[I (0), (Value.slice none 0 0)] 58), rowE 22 v2 (c2 : List (List Int)), blkE g12 (.cells #[I (q.Facts), vf, vg, va, I (n), I (varsN q n), v2] 84), blkE g16 (.cells #[I ((chkF q n).1), I ((chkF q n).2)] 27), blkE g1 (.cells #[I (q.Facts), vf, vg, va] 25), rdE vf q.First, rdE vg q.Goal, rdE va q.Acts] H109 := hS110
      exact ⟨a105_4, a105_5, hS110⟩
    rintro f111 H111 ⟨a111_4, a111_5, hS111⟩
    clear a105_4 a105_5 a105_6 a105_81
    refine wpF_ret ?_
    refine ⟨_, resC a111_4 (loadV_blkA Try.isAgg58 Try.sizeOf58 rfl (hS111.blk 1 rfl)) (resC a111_5 (loadV_blkA Try.isAgg27 Try.sizeOf27 rfl (hS111.blk 0 rfl)) (resN)), hS111.frame, ?_⟩
    show ∃ w_, (Value.tuple #[Value.agg #[I (0), (Value.slice none 0 0)], Value.agg #[I (10), I (0)]]) = Value.tuple #[Value.agg #[I (doV q n), w_], Value.agg #[I (doF q n).1, I (doF q n).2]] ∧ Rd (fun b => S b ∧ b < H0.size) H111 w_ (doC q n)
    have hcl : c2 = clausesQ q n := by rw [e2, e1, clausesQ]
    rw [hcl] at h81
    obtain ⟨d1, d2, d3⟩ := doF_much h20 h81
    exact ⟨_, by rw [d1, d2], by rw [d3]; exact rdNil⟩
  refine wpF_skip ?_
  refine wpF_seq ?_
  refine wpF_cut (fun f H => f 4 = PT g4 0 ∧ f 5 = PT g7 0 ∧ St H0 NoB (fun b => S b ∧ b < H0.size) [blkE g7 (.cells #[I (0), I (0)] 27), blkE g4 (.cells #[I (varsN q n), v2] 58), rowE 22 v2 (c2 : List (List Int)), blkE g12 (.cells #[I (q.Facts), vf, vg, va, I (n), I (varsN q n), v2] 84), blkE g16 (.cells #[I ((chkF q n).1), I ((chkF q n).2)] 27), blkE g1 (.cells #[I (q.Facts), vf, vg, va] 25), rdE vf q.First, rdE vg q.Goal, rdE va q.Acts] H) ?_ ?_
  · refine wpF_region ?_
    refine wpL_q (U := NoB) rfl (q_move (v := PT g12 0) rfl a105_6) ?_
    refine wpL_q (U := NoB) rfl (q_nilCheck rfl rfl) ?_
    refine wpL_q (U := NoB) rfl (q_fieldAddr rfl Try.underlying84 rfl Try.sizeOf58 rfl) ?_
    refine wpL_q (U := NoB) rfl (q_loadBlkP (ds := [I (varsN q n), v2]) rfl rfl Try.isAgg58 Try.sizeOf58 rfl rfl (hS87.blk 1 rfl) (fun h => h)) ?_
    refine wpL_q (U := NoB) rfl (q_build (v := Value.agg #[I (0), I (0)]) rfl par0 (fun w => by kernel_rfl)) ?_
    refine wpL_o rfl ?_
    refine e_storeBlkA (cs' := #[I (varsN q n), v2]) rfl a105_4 rfl Try.sizeOf58 rfl rfl (List.forall_mem_cons.2 ⟨rfl, List.forall_mem_cons.2 ⟨(oneCell_rdL (hS87.rowl 0 rfl)), List.forall_mem_nil _⟩⟩) (hS87.front 4 rfl) (fun H112 hS113 hxx => ?_)
    replace hS113 : St H0 NoB (fun b => S b ∧ b < H0.size) [blkE g4 (.cells #[I (varsN q n), v2] 58), rowE 22 v2 (c2 : List (List Int)), blkE g12 (.cells #[I (q.Facts), vf, vg, va, I (n), I (varsN q n), v2] 84), blkE g16 (.cells #[I ((chkF q n).1), I ((chkF q n).2)] 27), blkE g7 (.cells #[I (0), I (0)] 27), blkE g1 (.cells #[I (q.Facts), vf, vg, va] 25), rdE vf q.First, rdE vg q.Goal, rdE va q.Acts] H112 := hS113
    refine wpL_o rfl ?_
    refine e_storeBlkA (cs' := #[I (0), I (0)]) rfl a105_5 rfl Try.sizeOf27 rfl rfl (List.forall_mem_cons.2 ⟨rfl, List.forall_mem_cons.2 ⟨rfl, List.forall_mem_nil _⟩⟩) (hS113.front 4 rfl) (fun H114 hS115 hxx => ?_)
    replace hS115 : St H0 NoB (fun b => S b ∧ b < H0.size) [blkE g7 (.cells #[I (0), I (0)] 27), blkE g4 (.cells #[I (varsN q n), v2] 58), rowE 22 v2 (c2 : List (List Int)), blkE g12 (.cells #[I (q.Facts), vf, vg, va, I (n), I (varsN q n), v2] 84), blkE g16 (.cells #[I ((chkF q n).1), I ((chkF q n).2)] 27), blkE g1 (.cells #[I (q.Facts), vf, vg, va] 25), rdE vf q.First, rdE vg q.Goal, rdE va q.Acts] H114 := hS115
    exact ⟨a105_4, a105_5, hS115⟩
  rintro f116 H116 ⟨a116_4, a116_5, hS116⟩
  clear a105_4 a105_5 a105_6 a105_81
  refine wpF_ret ?_
  refine ⟨_, resC a116_4 (loadV_blkA Try.isAgg58 Try.sizeOf58 rfl (hS116.blk 1 rfl)) (resC a116_5 (loadV_blkA Try.isAgg27 Try.sizeOf27 rfl (hS116.blk 0 rfl)) (resN)), hS116.frame, ?_⟩
  show ∃ w_, (Value.tuple #[Value.agg #[I (varsN q n), v2], Value.agg #[I (0), I (0)]]) = Value.tuple #[Value.agg #[I (doV q n), w_], Value.agg #[I (doF q n).1, I (doF q n).2]] ∧ Rd (fun b => S b ∧ b < H0.size) H116 w_ (doC q n)
  have hS117 : St H0 NoB (fun b => S b ∧ b < H0.size) [rdE v2 c2, blkE g7 (.cells #[I (0), I (0)] 27), blkE g4 (.cells #[I (varsN q n), v2] 58), blkE g12 (.cells #[I (q.Facts), vf, vg, va, I (n), I (varsN q n), v2] 84), blkE g16 (.cells #[I ((chkF q n).1), I ((chkF q n).2)] 27), blkE g1 (.cells #[I (q.Facts), vf, vg, va] 25), rdE vf q.First, rdE vg q.Goal, rdE va q.Acts] H116 := St.fin (hS116.front 2 rfl)
  have hcl : c2 = clausesQ q n := by rw [e2, e1, clausesQ]
  rw [hcl] at h81
  obtain ⟨d1, d2, d3⟩ := doF_ok h20 h81
  exact ⟨_, by rw [d1, d2], by rw [d3, ← hcl]; exact (hS117.result (hS117.rdS 0 rfl))⟩

end Go.Um
