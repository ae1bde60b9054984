import Derived.Test.YtpdcejallbbncaaProg
import Derived.Test.YtpdcejallbbncaaBestC1
import Derived.Test.YtpdcejallbbncaaUmSub
namespace Go.Um
open Go.Proofs
open GoT (sz ag rdc)
open KeyT (kv)

theorem el_Act_37_BestD1 : ElT Try.prog Act 37 := ⟨Try.isAgg37, Try.sizeOf37⟩
theorem el_Int_3_BestD1 : ElT Try.prog Int 3 := ⟨Try.isAgg3, Try.sizeOf3⟩
theorem em_Int_3_BestD1 : ElemOk Try.prog Int 3 := ⟨Try.t3, (.int .i64 0), by kernel_rfl, by kernel_rfl, by kernel_rfl, by kernel_rfl, by kernel_rfl⟩

set_option maxHeartbeats 1000000 in
set_option maxRecDepth 100000 in
theorem Do_L {H0 : Heap} {S : Nat → Prop} (vf vg va : Value) (q : Quest) (h6qFacts : In64 q.Facts) (rvf : Rd S H0 vf q.First) (rvg : Rd S H0 vg q.Goal) (rva : Rd S H0 va q.Acts) : CallsH Try.prog 27 #[Value.agg #[I (q.Facts), vf, vg, va]] H0 (fun rv_ H' => Ext NoB H0 H' ∧ ∃ w_ p_ s_, rv_ = Value.tuple #[I s_, w_, Value.agg #[I (questFault q).1, I (questFault q).2]] ∧ Rd (fun b => S b ∧ b < H0.size) H' w_ p_ ∧ DoOk q s_ p_) := by
  have hsa := (Rd.list.1 rva).small
  have hS0 : St H0 NoB (fun b => S b ∧ b < H0.size) [rdE vf q.First, rdE vg q.Goal, rdE va q.Acts] H0 := St.arg (St.arg (St.arg (St.start (fun _ h => h.2)) (Bl0.nil) rva (fun _ h => h.1)) (Bl0.cons (Bl0.nil)) rvg (fun _ h => h.1)) (Bl0.cons (Bl0.cons (Bl0.nil))) rvf (fun _ h => h.1)
  refine callsH_of_wpF (args := [Value.agg #[I (q.Facts), vf, vg, va]]) (rs := [.tmp 2, .tmp 3, .cell 4 27]) Try.func27 rfl Try.ntmps27 Try.results27 (by kernel_rfl) (Nat.le_of_ble_eq_true rfl) ?_
  have a0_0 : argF [Value.agg #[I (q.Facts), vf, vg, va]] 0 = Value.agg #[I (q.Facts), vf, vg, va] := rfl
  generalize argF [Value.agg #[I (q.Facts), vf, vg, va]] = f0 at *
  refine wpF_seq ?_
  refine wpF_cut (fun f H => ∃ (g1 : Nat), ∃ (g4 : Nat), f 1 = PT g1 0 ∧ f 4 = PT g4 0 ∧ St H0 NoB (fun b => S b ∧ b < H0.size) [blkE g4 (.cells #[I (0), I (0)] 27), blkE g1 (.cells #[I (q.Facts), vf, vg, va] 25), rdE vf q.First, rdE vg q.Goal, rdE va q.Acts] H) ?_ ?_
  · refine wpF_region ?_
    refine wpL_o rfl ?_
    refine e_box (v := Value.agg #[I (q.Facts), vf, vg, va]) rfl a0_0 hS0 (fun g1 H2 hS3 hxx => ?_)
    replace hS3 : St H0 NoB (fun b => S b ∧ b < H0.size) [blkE g1 (.cells #[I (q.Facts), vf, vg, va] 25), rdE vf q.First, rdE vg q.Goal, rdE va q.Acts] H2 := hS3
    refine wpL_q (U := NoB) rfl (q_assign (v := I (0)) rfl rfl) ?_
    refine wpL_q (U := NoB) rfl (q_assign (v := (Value.slice none 0 0)) rfl rfl) ?_
    refine wpL_o rfl ?_
    refine e_alloc rfl Try.zeroValue27 hS3 (fun g4 H5 hS6 hxx => ?_)
    replace hS6 : St H0 NoB (fun b => S b ∧ b < H0.size) [blkE g4 (.cells #[I (0), I (0)] 27), blkE g1 (.cells #[I (q.Facts), vf, vg, va] 25), rdE vf q.First, rdE vg q.Goal, rdE va q.Acts] H5 := hS6
    exact ⟨g1, g4, rfl, rfl, hS6⟩
  rintro f7 H7 ⟨g1, g4, a7_1, a7_4, hS7⟩
  clear a0_0
  refine wpF_seq ?_
  refine wpF_seq ?_
  refine wpF_cut (fun f H => ∃ (g11 : Nat), f 1 = PT g1 0 ∧ f 4 = PT g4 0 ∧ f 5 = PT g11 0 ∧ St H0 NoB (fun b => S b ∧ b < H0.size) [blkE g11 (.cells #[I ((questFault q).1), I ((questFault q).2)] 27), blkE g4 (.cells #[I (0), I (0)] 27), blkE g1 (.cells #[I (q.Facts), vf, vg, va] 25), rdE vf q.First, rdE vg q.Goal, rdE va q.Acts] H) ?_ ?_
  · refine wpF_region ?_
    refine wpL_q (U := NoB) rfl (q_loadBlkA rfl a7_1 Try.isAgg25 Try.sizeOf25 rfl (hS7.blk 1 rfl) (fun h => h)) ?_
    refine wpL_o rfl ?_
    refine e_call rfl Try.call13 (arr1 (v0 := Value.agg #[I (q.Facts), vf, vg, va]) rfl) (Check_L vf vg va q (by first | assumption | (constructor <;> omega)) (hS7.rdN 2 rfl) (hS7.rdN 3 rfl) (hS7.rdN 4 rfl) ) ?_
    rintro _ H8 ⟨hxx, rfl⟩
    have hS9 : St H0 NoB (fun b => S b ∧ b < H0.size) [blkE g4 (.cells #[I (0), I (0)] 27), blkE g1 (.cells #[I (q.Facts), vf, vg, va] 25), rdE vf q.First, rdE vg q.Goal, rdE va q.Acts] H8 := hS7.ext hxx
    refine wpL_o rfl ?_
    refine e_alloc rfl Try.zeroValue27 hS9 (fun g11 H12 hS13 hxx => ?_)
    replace hS13 : St H0 NoB (fun b => S b ∧ b < H0.size) [blkE g11 (.cells #[I (0), I (0)] 27), blkE g4 (.cells #[I (0), I (0)] 27), blkE g1 (.cells #[I (q.Facts), vf, vg, va] 25), rdE vf q.First, rdE vg q.Goal, rdE va q.Acts] H12 := hS13
    refine wpL_o rfl ?_
    refine e_storeBlkA (cs' := #[I ((questFault q).1), I ((questFault q).2)]) rfl rfl rfl Try.sizeOf27 rfl rfl (List.forall_mem_cons.2 ⟨rfl, List.forall_mem_cons.2 ⟨rfl, List.forall_mem_nil _⟩⟩) hS13 (fun H14 hS15 hxx => ?_)
    replace hS15 : St H0 NoB (fun b => S b ∧ b < H0.size) [blkE g11 (.cells #[I ((questFault q).1), I ((questFault q).2)] 27), blkE g4 (.cells #[I (0), I (0)] 27), blkE g1 (.cells #[I (q.Facts), vf, vg, va] 25), rdE vf q.First, rdE vg q.Goal, rdE va q.Acts] H14 := hS15
    exact ⟨g11, a7_1, a7_4, rfl, hS15⟩
  rintro f16 H16 ⟨g11, a16_1, a16_4, a16_5, hS16⟩
  clear a7_1 a7_4
  refine wpF_seq ?_
  refine wpF_cut (fun f H => f 1 = PT g1 0 ∧ f 4 = PT g4 0 ∧ f 5 = PT g11 0 ∧ f 22 = B (decide (((questFault q).1) ≠ 0)) ∧ H16 = H) ?_ ?_
  · refine wpF_region ?_
    refine wpL_q (U := NoB) rfl (q_fieldAddr rfl Try.underlying27 rfl Try.sizeOf3 a16_5) ?_
    refine wpL_q (U := NoB) rfl (q_loadBlk rfl rfl Try.isAgg3 (hS16.blk 0 rfl) rfl (fun h => h)) ?_
    refine wpL_q (U := NoB) rfl (q_neq rfl rfl rfl) ?_
    exact ⟨a16_1, a16_4, a16_5, rfl, rfl⟩
  rintro f17 _ ⟨a17_1, a17_4, a17_5, a17_22, rfl⟩
  clear a16_1 a16_4 a16_5
  refine wpF_condP a17_22 (fun h1 => ?t118) (fun h1 => ?e118)
  case t118 =>
    refine wpF_seq ?_
    refine wpF_cut (fun f H => f 2 = I (0) ∧ f 3 = (Value.slice none 0 0) ∧ f 4 = PT g4 0 ∧ St H0 NoB (fun b => S b ∧ b < H0.size) [blkE g4 (.cells #[I ((questFault q).1), I ((questFault q).2)] 27), blkE g11 (.cells #[I ((questFault q).1), I ((questFault q).2)] 27), blkE g1 (.cells #[I (q.Facts), vf, vg, va] 25), rdE vf q.First, rdE vg q.Goal, rdE va q.Acts] H) ?_ ?_
    · refine wpF_drawn [none, none, none, some 0] [[], [], [], []] (fun l b => match l with | 0 => True | _ => False) (by kernel_rfl) (by kernel_rfl) ?_
      refine wpR_q 0 (by kernel_rfl) rfl (quietAt rfl rfl (q_loadBlkA rfl a17_5 Try.isAgg27 Try.sizeOf27 rfl (hS16.blk 0 rfl) (labU_not [] rfl (List.forall_mem_nil _)))) ?_
      refine wpR_q 1 (by kernel_rfl) rfl (quietAt rfl rfl (q_assign (v := I (0)) rfl rfl)) ?_
      refine wpR_q 2 (by kernel_rfl) rfl (quietAt rfl rfl (q_assign (v := (Value.slice none 0 0)) rfl rfl)) ?_
      refine wpR_n [3] (by kernel_rfl) ?_
      refine List.forall_mem_cons.2 ⟨?_, List.forall_mem_nil _⟩
      refine exE rfl rfl ?_
      refine e_storeBlkA (cs' := #[I ((questFault q).1), I ((questFault q).2)]) rfl a17_4 rfl Try.sizeOf27 rfl rfl (List.forall_mem_cons.2 ⟨rfl, List.forall_mem_cons.2 ⟨rfl, List.forall_mem_nil _⟩⟩) (hS16.front 1 rfl) (fun H19o3 hS19o3 hxx => ?_)
      replace hS19o3 : St H0 NoB (fun b => S b ∧ b < H0.size) [blkE g4 (.cells #[I ((questFault q).1), I ((questFault q).2)] 27), blkE g11 (.cells #[I ((questFault q).1), I ((questFault q).2)] 27), blkE g1 (.cells #[I (q.Facts), vf, vg, va] 25), rdE vf q.First, rdE vg q.Goal, rdE va q.Acts] H19o3 := hS19o3
      refine ⟨Ext.mono hxx (labS_of 0 rfl (fun _ _ => trivial)), ?_⟩
      refine wpR_end (by kernel_rfl) ?_
      exact ⟨rfl, rfl, a17_4, hS19o3⟩
    rintro f20 H20 ⟨a20_2, a20_3, a20_4, hS20⟩
    clear a17_1 a17_22 a17_4 a17_5
    refine wpF_ret ?_
    refine ⟨_, resT a20_2 (resT a20_3 (resC a20_4 (loadV_blkA Try.isAgg27 Try.sizeOf27 rfl (hS20.blk 0 rfl)) (resN))), hS20.frame, ?_⟩
    show ∃ w_ p_ s_, (Value.tuple #[I (0), (Value.slice none 0 0), Value.agg #[I ((questFault q).1), I ((questFault q).2)]]) = Value.tuple #[I s_, w_, Value.agg #[I (questFault q).1, I (questFault q).2]] ∧ Rd (fun b => S b ∧ b < H0.size) H20 w_ p_ ∧ DoOk q s_ p_
    exact ⟨(Value.slice none 0 0), [], 0, rfl, rdNil, (by rw [DoOk, if_pos h1]; exact ⟨rfl, rfl⟩)⟩
  have hQ := QW.of (Decidable.of_not_not h1)
  have hfx := hQ.facts
  have hmy := hQ.many
  have hst0 : bitsN q.First = numB (firstL q) := (Rep.first hQ).is.symm
  have hst1 : bitsN q.First < 65536 := (Rep.first hQ).lt (by omega)
  refine wpF_skip ?_
  refine wpF_seq ?_
  refine wpF_cut (fun f H => f 1 = PT g1 0 ∧ f 4 = PT g4 0 ∧ f 6 = I (((bitsN q.Goal : Nat) : Int)) ∧ St H0 NoB (fun b => S b ∧ b < H0.size) [blkE g11 (.cells #[I ((questFault q).1), I ((questFault q).2)] 27), blkE g4 (.cells #[I (0), I (0)] 27), blkE g1 (.cells #[I (q.Facts), vf, vg, va] 25), rdE vf q.First, rdE vg q.Goal, rdE va q.Acts] H) ?_ ?_
  · refine wpF_region ?_
    refine wpL_q (U := NoB) rfl (q_fieldAddr rfl Try.underlying25 rfl Try.sizeOf22 a17_1) ?_
    refine wpL_q (U := NoB) rfl (q_loadBlk rfl rfl Try.isAgg22 (hS16.blk 2 rfl) rfl (fun h => h)) ?_
    refine wpL_o rfl ?_
    refine e_call rfl Try.call44 (arr1 (v0 := vg) rfl) (Bits_L vg q.Goal (hS16.rdN 4 rfl) (fun x hx => act_mem hQ.goal (by omega) hx)) ?_
    rintro _ H21 ⟨hxx, rfl⟩
    have hS22 : St H0 NoB (fun b => S b ∧ b < H0.size) [blkE g11 (.cells #[I ((questFault q).1), I ((questFault q).2)] 27), blkE g4 (.cells #[I (0), I (0)] 27), blkE g1 (.cells #[I (q.Facts), vf, vg, va] 25), rdE vf q.First, rdE vg q.Goal, rdE va q.Acts] H21 := hS16.ext hxx
    refine wpL_q (U := NoB) rfl (q_assign (v := I (((bitsN q.Goal : Nat) : Int))) rfl rfl) ?_
    exact ⟨a17_1, a17_4, rfl, hS22⟩
  rintro f24 H24 ⟨a24_1, a24_4, a24_6, hS24⟩
  clear a17_1 a17_22 a17_4 a17_5
  refine wpF_seq ?_
  refine wpF_cut (fun f H => f 1 = PT g1 0 ∧ f 4 = PT g4 0 ∧ f 6 = I (((bitsN q.Goal : Nat) : Int)) ∧ f 7 = I (((bitsN q.First : Nat) : Int)) ∧ St H0 NoB (fun b => S b ∧ b < H0.size) [blkE g11 (.cells #[I ((questFault q).1), I ((questFault q).2)] 27), blkE g4 (.cells #[I (0), I (0)] 27), blkE g1 (.cells #[I (q.Facts), vf, vg, va] 25), rdE vf q.First, rdE vg q.Goal, rdE va q.Acts] H) ?_ ?_
  · refine wpF_region ?_
    refine wpL_q (U := NoB) rfl (q_fieldAddr rfl Try.underlying25 rfl Try.sizeOf22 a24_1) ?_
    refine wpL_q (U := NoB) rfl (q_loadBlk rfl rfl Try.isAgg22 (hS24.blk 2 rfl) rfl (fun h => h)) ?_
    refine wpL_o rfl ?_
    refine e_call rfl Try.call44 (arr1 (v0 := vf) rfl) (Bits_L vf q.First (hS24.rdN 3 rfl) (fun x hx => act_mem hQ.first (by omega) hx)) ?_
    rintro _ H25 ⟨hxx, rfl⟩
    have hS26 : St H0 NoB (fun b => S b ∧ b < H0.size) [blkE g11 (.cells #[I ((questFault q).1), I ((questFault q).2)] 27), blkE g4 (.cells #[I (0), I (0)] 27), blkE g1 (.cells #[I (q.Facts), vf, vg, va] 25), rdE vf q.First, rdE vg q.Goal, rdE va q.Acts] H25 := hS24.ext hxx
    refine wpL_q (U := NoB) rfl (q_assign (v := I (((bitsN q.First : Nat) : Int))) rfl rfl) ?_
    exact ⟨a24_1, a24_4, a24_6, rfl, hS26⟩
  rintro f28 H28 ⟨a28_1, a28_4, a28_6, a28_7, hS28⟩
  clear a24_1 a24_4 a24_6
  refine wpF_seq ?_
  refine wpF_cut (fun f H => ∃ (r29 : Nat), f 1 = PT g1 0 ∧ f 4 = PT g4 0 ∧ f 6 = I (((bitsN q.Goal : Nat) : Int)) ∧ f 7 = I (((bitsN q.First : Nat) : Int)) ∧ f 8 = (Value.map (some r29)) ∧ St H0 NoB (fun b => S b ∧ b < H0.size) [mapE r29 (mset ([]) ((bitsN q.First : Nat) : Int) (Way.mk (-1) (-1) 0) : List (Int × Way)), blkE g11 (.cells #[I ((questFault q).1), I ((questFault q).2)] 27), blkE g4 (.cells #[I (0), I (0)] 27), blkE g1 (.cells #[I (q.Facts), vf, vg, va] 25), rdE vf q.First, rdE vg q.Goal, rdE va q.Acts] H) ?_ ?_
  · refine wpF_region ?_
    refine wpL_o rfl ?_
    refine e_makeMap (κ := Int) (β := Way) rfl hS28 (fun r29 H30 hS31 hxx => ?_)
    replace hS31 : St H0 NoB (fun b => S b ∧ b < H0.size) [mapE r29 ([] : List (Int × Way)), blkE g11 (.cells #[I ((questFault q).1), I ((questFault q).2)] 27), blkE g4 (.cells #[I (0), I (0)] 27), blkE g1 (.cells #[I (q.Facts), vf, vg, va] 25), rdE vf q.First, rdE vg q.Goal, rdE va q.Acts] H30 := hS31
    refine wpL_q (U := NoB) rfl (q_move (v := I (((bitsN q.First : Nat) : Int))) rfl a28_7) ?_
    refine wpL_q (U := NoB) rfl (q_build (v := Value.agg #[I (-1), I (-1), I (0)]) rfl (par2 (v0 := I (-1)) (v1 := I (-1)) rfl rfl) (fun w => by kernel_rfl)) ?_
    have hS32 : St H0 NoB (fun b => S b ∧ b < H0.size) [mapE r29 ([] : List (Int × Way)), blkE g11 (.cells #[I ((questFault q).1), I ((questFault q).2)] 27), blkE g4 (.cells #[I (0), I (0)] 27), blkE g1 (.cells #[I (q.Facts), vf, vg, va] 25), rdE vf q.First, rdE vg q.Goal, rdE va q.Acts] H30 := hS31
    refine wpL_o rfl ?_
    refine e_mapUpdate (k := ((bitsN q.First : Nat) : Int)) (.inr rfl) Try.underlying74 (keyLaw_int Try.underlying3) rfl rfl rfl hS32 ((Rd.way (a := (Way.mk (-1) (-1) 0))).2 ⟨rfl, (by first | assumption | (constructor <;> (dsimp only; omega)) | (constructor <;> omega)), (by first | assumption | (constructor <;> (dsimp only; omega)) | (constructor <;> omega)), (by first | assumption | (constructor <;> (dsimp only; omega)) | (constructor <;> omega))⟩) (fun H33 hS34 hxx => ?_)
    replace hS34 : St H0 NoB (fun b => S b ∧ b < H0.size) [mapE r29 (mset ([]) ((bitsN q.First : Nat) : Int) (Way.mk (-1) (-1) 0) : List (Int × Way)), blkE g11 (.cells #[I ((questFault q).1), I ((questFault q).2)] 27), blkE g4 (.cells #[I (0), I (0)] 27), blkE g1 (.cells #[I (q.Facts), vf, vg, va] 25), rdE vf q.First, rdE vg q.Goal, rdE va q.Acts] H33 := hS34
    refine wpL_q (U := NoB) rfl (q_move (v := (Value.map (some r29))) rfl rfl) ?_
    refine wpL_q (U := NoB) rfl (q_assign (v := (Value.map (some r29))) rfl rfl) ?_
    exact ⟨r29, a28_1, a28_4, a28_6, a28_7, rfl, hS34⟩
  rintro f35 H35 ⟨r29, a35_1, a35_4, a35_6, a35_7, a35_8, hS35⟩
  clear a28_1 a28_4 a28_6 a28_7
  refine wpF_seq ?_
  refine wpF_cut (fun f H => ∃ (v36 : Value), f 1 = PT g1 0 ∧ f 4 = PT g4 0 ∧ f 6 = I (((bitsN q.Goal : Nat) : Int)) ∧ f 8 = (Value.map (some r29)) ∧ f 9 = v36 ∧ St H0 NoB (fun b => S b ∧ b < H0.size) [rowE 3 v36 ([((bitsN q.First : Nat) : Int)] : List Int), mapE r29 (mset ([]) ((bitsN q.First : Nat) : Int) (Way.mk (-1) (-1) 0) : List (Int × Way)), blkE g11 (.cells #[I ((questFault q).1), I ((questFault q).2)] 27), blkE g4 (.cells #[I (0), I (0)] 27), blkE g1 (.cells #[I (q.Facts), vf, vg, va] 25), rdE vf q.First, rdE vg q.Goal, rdE va q.Acts] H) ?_ ?_
  · refine wpF_region ?_
    refine wpL_q (U := NoB) rfl (q_move (v := I (((bitsN q.First : Nat) : Int))) rfl a35_7) ?_
    refine wpL_o rfl ?_
    refine e_buildSlice (vs := [I (((bitsN q.First : Nat) : Int))]) (xs := ([((bitsN q.First : Nat) : Int)] : List Int)) rfl Try.underlying22 Try.zeroValue3 rfl Try.sizeOf3 (par1 (v0 := I (((bitsN q.First : Nat) : Int))) rfl) rfl hS35 (RdVs.cons (Rd.int.2 ⟨rfl, by first | assumption | (constructor <;> omega)⟩) (RdVs.nil)) (by decide) (by decide) (fun v36 H37 hS38 hxx hvv36 => ?_)
    replace hS38 : St H0 NoB (fun b => S b ∧ b < H0.size) [rowE 3 v36 ([((bitsN q.First : Nat) : Int)] : List Int), mapE r29 (mset ([]) ((bitsN q.First : Nat) : Int) (Way.mk (-1) (-1) 0) : List (Int × Way)), blkE g11 (.cells #[I ((questFault q).1), I ((questFault q).2)] 27), blkE g4 (.cells #[I (0), I (0)] 27), blkE g1 (.cells #[I (q.Facts), vf, vg, va] 25), rdE vf q.First, rdE vg q.Goal, rdE va q.Acts] H37 := hS38
    refine wpL_q (U := NoB) rfl (q_assign (v := v36) rfl rfl) ?_
    exact ⟨v36, a35_1, a35_4, a35_6, a35_8, rfl, hS38⟩
  rintro f39 H39 ⟨v36, a39_1, a39_4, a39_6, a39_8, a39_9, hS39⟩
  clear a35_1 a35_4 a35_6 a35_7 a35_8
  have hS40 : St H0 NoB (fun b => S b ∧ b < H0.size) [rowE 3 v36 (numL [(firstL q, [])] : List Int), mapE r29 (mset [] ((numB (firstL q) : Nat) : Int) (Way.mk (-1) (-1) 0) : List (Int × Way)), blkE g11 (.cells #[I ((questFault q).1), I ((questFault q).2)] 27), blkE g4 (.cells #[I (0), I (0)] 27), blkE g1 (.cells #[I (q.Facts), vf, vg, va] 25), rdE vf q.First, rdE vg q.Goal, rdE va q.Acts] H39 := by have h__ := hS39; rw [hst0] at h__; exact h__
  refine wpF_seq ?_
  refine wpF_seq ?_
  refine wpF_cut (fun f H => f 1 = PT g1 0 ∧ f 4 = PT g4 0 ∧ f 6 = I (((bitsN q.Goal : Nat) : Int)) ∧ f 8 = (Value.map (some r29)) ∧ f 9 = v36 ∧ f 10 = I (0) ∧ H39 = H) ?_ ?_
  · refine wpF_region ?_
    refine wpL_q (U := NoB) rfl (q_assign (v := I (0)) rfl rfl) ?_
    exact ⟨a39_1, a39_4, a39_6, a39_8, a39_9, rfl, rfl⟩
  rintro f41 _ ⟨a41_1, a41_4, a41_6, a41_8, a41_9, a41_10, rfl⟩
  clear a39_1 a39_4 a39_6 a39_8 a39_9
  refine wpF_block ?_
  refine wpF_loop (fun mz f H => ∃ (i : Nat), ∃ (vL : Value), ∃ (E : List (List Bool × List Int)), ∃ (mp : List (Int × Way)), mz = 65537 - i ∧ (i ≤ E.length) ∧ (BestI q E mp i 0) ∧ (∀ j, j < i → goalA q (nth E j).1 = false) ∧ f 1 = PT g1 0 ∧ f 4 = PT g4 0 ∧ f 6 = I (((bitsN q.Goal : Nat) : Int)) ∧ f 8 = (Value.map (some r29)) ∧ f 9 = vL ∧ f 10 = I ((i : Int)) ∧ St H0 NoB (fun b => S b ∧ b < H0.size) [rowE 3 vL (numL E : List Int), mapE r29 (mp : List (Int × Way)), blkE g11 (.cells #[I ((questFault q).1), I ((questFault q).2)] 27), blkE g4 (.cells #[I (0), I (0)] 27), blkE g1 (.cells #[I (q.Facts), vf, vg, va] 25), rdE vf q.First, rdE vg q.Goal, rdE va q.Acts] H) (65537 - 0) ?_ ?_
  · exact ⟨0, v36, [(firstL q, [])], mset [] ((numB (firstL q) : Nat) : Int) (Way.mk (-1) (-1) 0), rfl, Nat.zero_le _, BestI.start, (fun j hj => absurd hj (Nat.not_lt_zero j)), a41_1, a41_4, a41_6, a41_8, a41_9, (Eq.trans a41_10 (congrArg I (by omega))), (show St H0 NoB (fun b => S b ∧ b < H0.size) [rowE 3 v36 (numL ([(firstL q, [])]) : List Int), mapE r29 ((mset [] ((numB (firstL q) : Nat) : Int) (Way.mk (-1) (-1) 0)) : List (Int × Way)), blkE g11 (.cells #[I ((questFault q).1), I ((questFault q).2)] 27), blkE g4 (.cells #[I (0), I (0)] 27), blkE g1 (.cells #[I (q.Facts), vf, vg, va] 25), rdE vf q.First, rdE vg q.Goal, rdE va q.Acts] H39 from hS40)⟩
  intro m42 f42 H42 hI42
  obtain ⟨i, vL, E, mp, hm42, hi, hB, hno, a42_1, a42_4, a42_6, a42_8, a42_9, a42_10, hS42⟩ := hI42
  clear a41_1 a41_10 a41_4 a41_6 a41_8 a41_9
  refine wpF_seq ?_
  refine wpF_seq ?_
  refine wpF_cut (fun f H => f 1 = PT g1 0 ∧ f 4 = PT g4 0 ∧ f 6 = I (((bitsN q.Goal : Nat) : Int)) ∧ f 8 = (Value.map (some r29)) ∧ f 9 = vL ∧ f 10 = I ((i : Int)) ∧ f 39 = B (decide ((i : Int) < ((numL E).length : Int))) ∧ H42 = H) ?_ ?_
  · refine wpF_region ?_
    refine wpL_q (U := NoB) rfl (q_move (v := I ((i : Int))) rfl a42_10) ?_
    refine wpL_q (U := NoB) rfl (q_move (v := vL) rfl a42_9) ?_
    refine wpL_q (U := NoB) rfl (q_lenRd rfl Try.underlying22 rfl (hS42.rowl 0 rfl)) ?_
    refine wpL_q (U := NoB) rfl (q_lss rfl rfl rfl) ?_
    exact ⟨a42_1, a42_4, a42_6, a42_8, a42_9, a42_10, rfl, rfl⟩
  rintro f43 _ ⟨a43_1, a43_4, a43_6, a43_8, a43_9, a43_10, a43_39, rfl⟩
  clear a42_1 a42_10 a42_4 a42_6 a42_8 a42_9
  refine wpF_condP a43_39 (fun hlt => ?t117) (fun hlt => ?e117)
  case e117 =>
    have hie : ¬ i < E.length := by rw [numL_len] at hlt; omega
    refine wpF_exit ?_
    refine atX_here ?_
    refine wpF_seq ?_
    refine wpF_cut (fun f H => f 2 = I (2) ∧ f 3 = (Value.slice none 0 0) ∧ f 4 = PT g4 0 ∧ St H0 NoB (fun b => S b ∧ b < H0.size) [blkE g4 (.cells #[I (0), I (0)] 27), rowE 3 vL (numL E : List Int), mapE r29 (mp : List (Int × Way)), blkE g11 (.cells #[I ((questFault q).1), I ((questFault q).2)] 27), blkE g1 (.cells #[I (q.Facts), vf, vg, va] 25), rdE vf q.First, rdE vg q.Goal, rdE va q.Acts] H) ?_ ?_
    · refine wpF_region ?_
      refine wpL_q (U := NoB) rfl (q_build (v := Value.agg #[I (0), I (0)]) rfl par0 (fun w => by kernel_rfl)) ?_
      refine wpL_q (U := NoB) rfl (q_assign (v := I (2)) rfl rfl) ?_
      refine wpL_q (U := NoB) rfl (q_assign (v := (Value.slice none 0 0)) rfl rfl) ?_
      refine wpL_o rfl ?_
      refine e_storeBlkA (cs' := #[I (0), I (0)]) rfl a43_4 rfl Try.sizeOf27 rfl rfl (List.forall_mem_cons.2 ⟨rfl, List.forall_mem_cons.2 ⟨rfl, List.forall_mem_nil _⟩⟩) (hS42.front 3 rfl) (fun H114 hS115 hxx => ?_)
      replace hS115 : St H0 NoB (fun b => S b ∧ b < H0.size) [blkE g4 (.cells #[I (0), I (0)] 27), rowE 3 vL (numL E : List Int), mapE r29 (mp : List (Int × Way)), blkE g11 (.cells #[I ((questFault q).1), I ((questFault q).2)] 27), blkE g1 (.cells #[I (q.Facts), vf, vg, va] 25), rdE vf q.First, rdE vg q.Goal, rdE va q.Acts] H114 := hS115
      exact ⟨rfl, rfl, a43_4, hS115⟩
    rintro f116 H116 ⟨a116_2, a116_3, a116_4, hS116⟩
    clear a43_1 a43_10 a43_39 a43_4 a43_6 a43_8 a43_9
    refine wpF_ret ?_
    refine ⟨_, resT a116_2 (resT a116_3 (resC a116_4 (loadV_blkA Try.isAgg27 Try.sizeOf27 rfl (hS116.blk 0 rfl)) (resN))), hS116.frame, ?_⟩
    show ∃ w_ p_ s_, (Value.tuple #[I (2), (Value.slice none 0 0), Value.agg #[I (0), I (0)]]) = Value.tuple #[I s_, w_, Value.agg #[I (questFault q).1, I (questFault q).2]] ∧ Rd (fun b => S b ∧ b < H0.size) H116 w_ p_ ∧ DoOk q s_ p_
    exact ⟨(Value.slice none 0 0), [], 2, by rw [hQ.code], rdNil, (hB.no (Decidable.of_not_not h1) (by omega) (fun j hj => hno j (by omega)))⟩
  have hil : i < E.length := by rw [numL_len] at hlt; omega
  have hfew := hB.few hQ
  have hs6 : numB (nth E i).1 < 65536 := numB_lt hB hQ (nth_mem hil)
  have hbg := bitsN_lt (l := q.Goal) (fun x hx => (act_mem hQ.goal (by omega) hx).2)
  have hgo := goal_num hQ (hB.len (nth_mem hil))
  have hlong := hB.long hil
  have hshort := hB.bst.short _ (nth_mem hil)
  have hnl := numL_len (E := E)
  refine wpF_skip ?_
  refine wpF_seq ?_
  refine wpF_block ?_
  refine wpF_seq ?_
  refine wpF_cut (fun f H => f 1 = PT g1 0 ∧ f 4 = PT g4 0 ∧ f 6 = I (((bitsN q.Goal : Nat) : Int)) ∧ f 8 = (Value.map (some r29)) ∧ f 9 = vL ∧ f 10 = I ((i : Int)) ∧ f 11 = I (nth (numL E) i) ∧ H42 = H) ?_ ?_
  · refine wpF_region ?_
    refine wpL_q (U := NoB) rfl (q_move (v := vL) rfl a43_9) ?_
    refine wpL_q (U := NoB) rfl (q_move (v := I ((i : Int))) rfl a43_10) ?_
    refine wpL_q (U := NoB) rfl (q_indexRd (k := i) rfl Try.underlying22 el_Int_3_BestD1 rfl rfl (hS42.rowl 0 rfl) (by omega) (by omega)) ?_
    refine wpL_q (U := NoB) rfl (q_loadInt (k := i) rfl rfl el_Int_3_BestD1 (hS42.rowl 0 rfl) (by omega) (fun _ h => h)) ?_
    refine wpL_q (U := NoB) rfl (q_assign (v := I (nth (numL E) i)) rfl rfl) ?_
    exact ⟨a43_1, a43_4, a43_6, a43_8, a43_9, a43_10, rfl, rfl⟩
  rintro f45 _ ⟨a45_1, a45_4, a45_6, a45_8, a45_9, a45_10, a45_11, rfl⟩
  clear a43_1 a43_10 a43_39 a43_4 a43_6 a43_8 a43_9
  have b46 := Eq.trans a45_11 (congrArg I (numL_nth hil))
  refine wpF_seq ?_
  refine wpF_seq ?_
  refine wpF_cut (fun f H => f 1 = PT g1 0 ∧ f 4 = PT g4 0 ∧ f 6 = I (((bitsN q.Goal : Nat) : Int)) ∧ f 8 = (Value.map (some r29)) ∧ f 9 = vL ∧ f 10 = I ((i : Int)) ∧ f 11 = I (((numB (nth E i).1 : Nat) : Int)) ∧ f 50 = B (decide ((((numB (nth E i).1) &&& (bitsN q.Goal) : Nat) : Int) = ((bitsN q.Goal : Nat) : Int))) ∧ H42 = H) ?_ ?_
  · refine wpF_region ?_
    refine wpL_q (U := NoB) rfl (q_move (v := I (((numB (nth E i).1 : Nat) : Int))) rfl b46) ?_
    refine wpL_q (U := NoB) rfl (q_move (v := I (((bitsN q.Goal : Nat) : Int))) rfl a45_6) ?_
    refine wpL_q (U := NoB) rfl (q_andN (a := numB (nth E i).1) (b := bitsN q.Goal) rfl rfl rfl (by first | omega | exact lt62_andNot (by omega) (by omega) | exact lt62_and (by omega) | exact shr_lt (by omega)) (by first | omega | exact lt62_andNot (by omega) (by omega) | exact lt62_and (by omega) | exact shr_lt (by omega))) ?_
    refine wpL_q (U := NoB) rfl (q_move (v := I (((bitsN q.Goal : Nat) : Int))) rfl a45_6) ?_
    refine wpL_q (U := NoB) rfl (q_eql rfl rfl rfl) ?_
    exact ⟨a45_1, a45_4, a45_6, a45_8, a45_9, a45_10, b46, rfl, rfl⟩
  rintro f47 _ ⟨a47_1, a47_4, a47_6, a47_8, a47_9, a47_10, a47_11, a47_50, rfl⟩
  clear a45_1 a45_10 a45_4 a45_6 a45_8 a45_9
  refine wpF_condP a47_50 (fun hgoal => ?t113) (fun hgoal => ?e113)
  case t113 =>
    refine wpF_seq ?_
    refine wpF_cut (fun f H => ∃ (r50 : Value), f 2 = I (1) ∧ f 3 = r50 ∧ f 4 = PT g4 0 ∧ St H0 NoB (fun b => S b ∧ b < H0.size) [blkE g4 (.cells #[I (0), I (0)] 27), rdE r50 ((nth E i).2), mapE r29 (mp : List (Int × Way)), rowE 3 vL (numL E : List Int), blkE g11 (.cells #[I ((questFault q).1), I ((questFault q).2)] 27), blkE g1 (.cells #[I (q.Facts), vf, vg, va] 25), rdE vf q.First, rdE vg q.Goal, rdE va q.Acts] H) ?_ ?_
    · refine wpF_region ?_
      refine wpL_q (U := NoB) rfl (q_move (v := (Value.map (some r29))) rfl a47_8) ?_
      refine wpL_q (U := NoB) rfl (q_move (v := I (((numB (nth E i).1 : Nat) : Int))) rfl a47_11) ?_
      have hS49 : St H0 NoB (fun b => S b ∧ b < H0.size) [mapE r29 (mp : List (Int × Way)), rowE 3 vL (numL E : List Int), blkE g11 (.cells #[I ((questFault q).1), I ((questFault q).2)] 27), blkE g4 (.cells #[I (0), I (0)] 27), blkE g1 (.cells #[I (q.Facts), vf, vg, va] 25), rdE vf q.First, rdE vg q.Goal, rdE va q.Acts] H42 := (St.drop (show St H0 NoB (fun b => S b ∧ b < H0.size) [mapE r29 (mp : List (Int × Way)), rowE 3 vL (numL E : List Int), blkE g11 (.cells #[I ((questFault q).1), I ((questFault q).2)] 27), blkE g4 (.cells #[I (0), I (0)] 27), blkE g1 (.cells #[I (q.Facts), vf, vg, va] 25), rdE vf q.First, rdE vg q.Goal, rdE va q.Acts] H42 from (hS42.front 1 rfl)) (sk (sk (sk (sk (sk (sk (sk (sk (List.Sublist.slnil))))))))))
      refine wpL_o rfl ?_
      refine e_call rfl Try.call48 (arr2 (v0 := (Value.map (some r29))) (v1 := I (((numB (nth E i).1 : Nat) : Int))) rfl rfl) (plan_F r29 mp (fun j => stP q ((nth E i).2.take j)) ((numB (nth E i).1 : Nat) : Int) ((nth E i).2) _ (fun e he => hS49.ok e (List.mem_append_left [rowE 3 vL (numL E : List Int), blkE g11 (.cells #[I ((questFault q).1), I ((questFault q).2)] 27), blkE g4 (.cells #[I (0), I (0)] 27), blkE g1 (.cells #[I (q.Facts), vf, vg, va] 25), rdE vf q.First, rdE vg q.Goal, rdE va q.Acts] he)) (fun b hb => SL.lt hS49 hb) (fun b ⟨e, he, hb⟩ => .inr ⟨e, List.mem_append_left [rowE 3 vL (numL E : List Int), blkE g11 (.cells #[I ((questFault q).1), I ((questFault q).2)] 27), blkE g4 (.cells #[I (0), I (0)] 27), blkE g1 (.cells #[I (q.Facts), vf, vg, va] 25), rdE vf q.First, rdE vg q.Goal, rdE va q.Acts] he, hb⟩) (hB.st hil) (hB.back hil) (hB.nonneg hil) (hB.bst.short _ (nth_mem hil))) ?_
      rintro r50 H51 ⟨hxx, hok⟩
      have hS52 : St H0 NoB (fun b => S b ∧ b < H0.size) [rdE r50 ((nth E i).2), mapE r29 (mp : List (Int × Way)), rowE 3 vL (numL E : List Int), blkE g11 (.cells #[I ((questFault q).1), I ((questFault q).2)] 27), blkE g4 (.cells #[I (0), I (0)] 27), blkE g1 (.cells #[I (q.Facts), vf, vg, va] 25), rdE vf q.First, rdE vg q.Goal, rdE va q.Acts] H51 := St.back (A := [mapE r29 (mp : List (Int × Way))]) (A' := [rdE r50 ((nth E i).2), mapE r29 (mp : List (Int × Way))]) (L := [rowE 3 vL (numL E : List Int), blkE g11 (.cells #[I ((questFault q).1), I ((questFault q).2)] 27), blkE g4 (.cells #[I (0), I (0)] 27), blkE g1 (.cells #[I (q.Facts), vf, vg, va] 25), rdE vf q.First, rdE vg q.Goal, rdE va q.Acts]) hS49 hxx hok (by intro b hb; left; simpa [own_cons, own_nil, mapE, blkE, rdE] using hb) ((List.pairwise_cons.2 ⟨fun _ _ _ h => h.elim, pw1⟩))
      refine wpL_q (U := NoB) rfl (q_build (v := Value.agg #[I (0), I (0)]) rfl par0 (fun w => by kernel_rfl)) ?_
      refine wpL_q (U := NoB) rfl (q_assign (v := I (1)) rfl rfl) ?_
      refine wpL_q (U := NoB) rfl (q_assign (v := r50) rfl rfl) ?_
      refine wpL_o rfl ?_
      refine e_storeBlkA (cs' := #[I (0), I (0)]) rfl a47_4 rfl Try.sizeOf27 rfl rfl (List.forall_mem_cons.2 ⟨rfl, List.forall_mem_cons.2 ⟨rfl, List.forall_mem_nil _⟩⟩) (hS52.front 4 rfl) (fun H54 hS55 hxx => ?_)
      replace hS55 : St H0 NoB (fun b => S b ∧ b < H0.size) [blkE g4 (.cells #[I (0), I (0)] 27), rdE r50 ((nth E i).2), mapE r29 (mp : List (Int × Way)), rowE 3 vL (numL E : List Int), blkE g11 (.cells #[I ((questFault q).1), I ((questFault q).2)] 27), blkE g1 (.cells #[I (q.Facts), vf, vg, va] 25), rdE vf q.First, rdE vg q.Goal, rdE va q.Acts] H54 := hS55
      exact ⟨r50, rfl, rfl, a47_4, hS55⟩
    rintro f56 H56 ⟨r50, a56_2, a56_3, a56_4, hS56⟩
    clear a47_1 a47_10 a47_11 a47_4 a47_50 a47_6 a47_8 a47_9
    refine wpF_ret ?_
    refine ⟨_, resT a56_2 (resT a56_3 (resC a56_4 (loadV_blkA Try.isAgg27 Try.sizeOf27 rfl (hS56.blk 0 rfl)) (resN))), hS56.frame, ?_⟩
    show ∃ w_ p_ s_, (Value.tuple #[I (1), r50, Value.agg #[I (0), I (0)]]) = Value.tuple #[I s_, w_, Value.agg #[I (questFault q).1, I (questFault q).2]] ∧ Rd (fun b => S b ∧ b < H0.size) H56 w_ p_ ∧ DoOk q s_ p_
    exact ⟨r50, (nth E i).2, 1, by rw [hQ.code], (hS56.result (hS56.rdS 1 rfl)), (hB.yes (Decidable.of_not_not h1) hil hno (hgo.1 hgoal))⟩
  have hng : goalA q (nth E i).1 = false := Bool.eq_false_iff.2 fun h => hgoal (hgo.2 h)
  refine wpF_skip ?_
  refine wpF_seq ?_
  refine wpF_seq ?_
  refine wpF_cut (fun f H => f 1 = PT g1 0 ∧ f 4 = PT g4 0 ∧ f 6 = I (((bitsN q.Goal : Nat) : Int)) ∧ f 8 = (Value.map (some r29)) ∧ f 9 = vL ∧ f 10 = I ((i : Int)) ∧ f 11 = I (((numB (nth E i).1 : Nat) : Int)) ∧ f 59 = B (decide ((((mget mp ((numB (nth E i).1 : Nat) : Int)).getD (Way.mk 0 0 0)).Long) = 20)) ∧ H42 = H) ?_ ?_
  · refine wpF_region ?_
    refine wpL_q (U := NoB) rfl (q_move (v := (Value.map (some r29))) rfl a47_8) ?_
    refine wpL_q (U := NoB) rfl (q_move (v := I (((numB (nth E i).1 : Nat) : Int))) rfl a47_11) ?_
    obtain ⟨u57, hlu57, hru57⟩ := lookD (t := 74) (d := ((Way.mk 0 0 0) : Way)) Try.underlying74 (keyLaw_int Try.underlying3) Try.zeroValue73 (fun _ _ => Rd.way.2 ⟨rfl, by decide, by decide, by decide⟩) ((numB (nth E i).1 : Nat) : Int) (hS42.get 1 rfl)
    obtain ⟨rfl, hiu57_0, hiu57_1, hiu57_2⟩ := Rd.way.1 hru57
    refine wpL_q (U := NoB) rfl (q_lookup0 rfl rfl rfl (hlu57 _ (fun h => h))) ?_
    refine wpL_q (U := NoB) rfl (q_field (cs := #[I (((mget mp ((numB (nth E i).1 : Nat) : Int)).getD (Way.mk 0 0 0)).From), I (((mget mp ((numB (nth E i).1 : Nat) : Int)).getD (Way.mk 0 0 0)).By), I (((mget mp ((numB (nth E i).1 : Nat) : Int)).getD (Way.mk 0 0 0)).Long)]) (v := I (((mget mp ((numB (nth E i).1 : Nat) : Int)).getD (Way.mk 0 0 0)).Long)) rfl Try.underlying73 rfl Try.isAgg3 rfl rfl) ?_
    refine wpL_q (U := NoB) rfl (q_eql rfl rfl rfl) ?_
    exact ⟨a47_1, a47_4, a47_6, a47_8, a47_9, a47_10, a47_11, rfl, rfl⟩
  rintro f58 _ ⟨a58_1, a58_4, a58_6, a58_8, a58_9, a58_10, a58_11, a58_59, rfl⟩
  clear a47_1 a47_10 a47_11 a47_4 a47_50 a47_6 a47_8 a47_9
  refine wpF_condP a58_59 (fun h20 => ?t112) (fun h20 => ?e112)
  case t112 =>
    have hB2 := hB.turn hil (.inr (by omega))
    refine wpF_exit ?_
    refine atX_here ?_
    refine wpF_cut (fun f H => f 1 = PT g1 0 ∧ f 4 = PT g4 0 ∧ f 6 = I (((bitsN q.Goal : Nat) : Int)) ∧ f 8 = (Value.map (some r29)) ∧ f 9 = vL ∧ f 10 = I ((i : Int) + 1) ∧ H42 = H) ?_ ?_
    · refine wpF_region ?_
      refine wpL_q (U := NoB) rfl (q_move (v := I ((i : Int))) rfl a58_10) ?_
      refine wpL_q (U := NoB) rfl (q_add rfl rfl rfl (by constructor <;> omega)) ?_
      refine wpL_q (U := NoB) rfl (q_assign (v := I ((i : Int) + 1)) rfl rfl) ?_
      exact ⟨a58_1, a58_4, a58_6, a58_8, a58_9, rfl, rfl⟩
    rintro f60 _ ⟨a60_1, a60_4, a60_6, a60_8, a60_9, a60_10, rfl⟩
    clear a58_1 a58_10 a58_11 a58_4 a58_59 a58_6 a58_8 a58_9
    refine ⟨_, ?_, i + 1, vL, E, mp, rfl, (by omega), hB2, (all_succ hno hng), a60_1, a60_4, a60_6, a60_8, a60_9, (Eq.trans a60_10 (congrArg I (by omega))), hS42⟩
    omega
  have hl20 : (nth E i).2.length < 20 := by omega
  refine wpF_skip ?_
  refine wpF_seq ?_
  refine wpF_cut (fun f H => f 1 = PT g1 0 ∧ f 4 = PT g4 0 ∧ f 6 = I (((bitsN q.Goal : Nat) : Int)) ∧ f 8 = (Value.map (some r29)) ∧ f 9 = vL ∧ f 10 = I ((i : Int)) ∧ f 11 = I (((numB (nth E i).1 : Nat) : Int)) ∧ f 61 = va ∧ f 62 = I ((q.Acts.length : Int)) ∧ f 63 = I (0) ∧ H42 = H) ?_ ?_
  · refine wpF_region ?_
    refine wpL_q (U := NoB) rfl (q_fieldAddr rfl Try.underlying25 rfl Try.sizeOf23 a58_1) ?_
    refine wpL_q (U := NoB) rfl (q_loadBlk rfl rfl Try.isAgg23 (hS42.blk 4 rfl) rfl (fun h => h)) ?_
    refine wpL_q (U := NoB) rfl (q_lenRd rfl Try.underlying23 rfl (hS42.rdl 7 rfl)) ?_
    refine wpL_q (U := NoB) rfl (q_move (v := I (0)) rfl rfl) ?_
    exact ⟨a58_1, a58_4, a58_6, a58_8, a58_9, a58_10, a58_11, rfl, rfl, rfl, rfl⟩
  rintro f61 _ ⟨a61_1, a61_4, a61_6, a61_8, a61_9, a61_10, a61_11, a61_61, a61_62, a61_63, rfl⟩
  clear a58_1 a58_10 a58_11 a58_4 a58_59 a58_6 a58_8 a58_9
  refine wpF_block ?_
  refine wpF_loop (fun mz f H => ∃ (k : Nat), ∃ (vM : Value), ∃ (EM : List (List Bool × List Int)), ∃ (mM : List (Int × Way)), mz = q.Acts.length - k ∧ (k ≤ q.Acts.length) ∧ (i < EM.length) ∧ (nth EM i = nth E i) ∧ (BestI q EM mM i k) ∧ (∀ j, j < i + 1 → goalA q (nth EM j).1 = false) ∧ f 1 = PT g1 0 ∧ f 4 = PT g4 0 ∧ f 6 = I (((bitsN q.Goal : Nat) : Int)) ∧ f 8 = (Value.map (some r29)) ∧ f 9 = vM ∧ f 10 = I ((i : Int)) ∧ f 11 = I (((numB (nth E i).1 : Nat) : Int)) ∧ f 61 = va ∧ f 62 = I ((q.Acts.length : Int)) ∧ f 63 = I ((k : Int)) ∧ St H0 NoB (fun b => S b ∧ b < H0.size) [rowE 3 vM (numL EM : List Int), mapE r29 (mM : List (Int × Way)), blkE g11 (.cells #[I ((questFault q).1), I ((questFault q).2)] 27), blkE g4 (.cells #[I (0), I (0)] 27), blkE g1 (.cells #[I (q.Facts), vf, vg, va] 25), rdE vf q.First, rdE vg q.Goal, rdE va q.Acts] H) (q.Acts.length - 0) ?_ ?_
  · exact ⟨0, vL, E, mp, rfl, Nat.zero_le _, hil, rfl, hB, (all_succ hno hng), a61_1, a61_4, a61_6, a61_8, a61_9, a61_10, a61_11, a61_61, a61_62, (Eq.trans a61_63 (congrArg I (by omega))), hS42⟩
  intro m62 f62 H62 hI62
  obtain ⟨k, vM, EM, mM, hm62, hk, hi2, hnth, hB2, hno2, a62_1, a62_4, a62_6, a62_8, a62_9, a62_10, a62_11, a62_61, a62_62, a62_63, hS62⟩ := hI62
  clear a61_1 a61_10 a61_11 a61_4 a61_6 a61_61 a61_62 a61_63 a61_8 a61_9
  refine wpF_seq ?_
  refine wpF_cut (fun f H => f 1 = PT g1 0 ∧ f 4 = PT g4 0 ∧ f 6 = I (((bitsN q.Goal : Nat) : Int)) ∧ f 8 = (Value.map (some r29)) ∧ f 9 = vM ∧ f 10 = I ((i : Int)) ∧ f 11 = I (((numB (nth E i).1 : Nat) : Int)) ∧ f 61 = va ∧ f 62 = I ((q.Acts.length : Int)) ∧ f 63 = I ((k : Int)) ∧ f 64 = B (decide ((k : Int) < (q.Acts.length : Int))) ∧ H62 = H) ?_ ?_
  · refine wpF_region ?_
    refine wpL_q (U := NoB) rfl (q_lss rfl a62_63 a62_62) ?_
    exact ⟨a62_1, a62_4, a62_6, a62_8, a62_9, a62_10, a62_11, a62_61, a62_62, a62_63, rfl, rfl⟩
  rintro f63 _ ⟨a63_1, a63_4, a63_6, a63_8, a63_9, a63_10, a63_11, a63_61, a63_62, a63_63, a63_64, rfl⟩
  clear a62_1 a62_10 a62_11 a62_4 a62_6 a62_61 a62_62 a62_63 a62_8 a62_9
  refine wpF_seq ?_
  refine wpF_condP a63_64 (fun hltk => ?t111) (fun hltk => ?e111)
  case e111 =>
    have hB3 := hB2.turn (by omega) (.inl (by omega))
    refine wpF_exit ?_
    refine atX_here ?_
    refine wpF_cut (fun f H => f 1 = PT g1 0 ∧ f 4 = PT g4 0 ∧ f 6 = I (((bitsN q.Goal : Nat) : Int)) ∧ f 8 = (Value.map (some r29)) ∧ f 9 = vM ∧ f 10 = I ((i : Int) + 1) ∧ H62 = H) ?_ ?_
    · refine wpF_region ?_
      refine wpL_q (U := NoB) rfl (q_move (v := I ((i : Int))) rfl a63_10) ?_
      refine wpL_q (U := NoB) rfl (q_add rfl rfl rfl (by constructor <;> omega)) ?_
      refine wpL_q (U := NoB) rfl (q_assign (v := I ((i : Int) + 1)) rfl rfl) ?_
      exact ⟨a63_1, a63_4, a63_6, a63_8, a63_9, rfl, rfl⟩
    rintro f110 _ ⟨a110_1, a110_4, a110_6, a110_8, a110_9, a110_10, rfl⟩
    clear a63_1 a63_10 a63_11 a63_4 a63_6 a63_61 a63_62 a63_63 a63_64 a63_8 a63_9
    refine ⟨_, ?_, i + 1, vM, EM, mM, rfl, (by omega), hB3, hno2, a110_1, a110_4, a110_6, a110_8, a110_9, (Eq.trans a110_10 (congrArg I (by omega))), hS62⟩
    omega
  have hkq : k < q.Acts.length := by omega
  have hfk := hQ.form k hkq
  have hlong2 := hB2.long hi2
  rw [hnth] at hlong2
  have hfew2 := hB2.few hQ
  have hnl2 := numL_len (E := EM)
  refine wpF_skip ?_
  refine wpF_seq ?_
  refine wpF_block ?_
  refine wpF_seq ?_
  refine wpF_cut (fun f H => ∃ (u65n0 : Value), ∃ (u65n1 : Value), ∃ (u65n2 : Value), ∃ (u65n3 : Value), ∃ (g70 : Nat), f 1 = PT g1 0 ∧ f 4 = PT g4 0 ∧ f 6 = I (((bitsN q.Goal : Nat) : Int)) ∧ f 8 = (Value.map (some r29)) ∧ f 9 = vM ∧ f 10 = I ((i : Int)) ∧ f 11 = I (((numB (nth E i).1 : Nat) : Int)) ∧ f 12 = I ((k : Int)) ∧ f 13 = PT g70 0 ∧ f 61 = va ∧ f 62 = I ((q.Acts.length : Int)) ∧ f 63 = I ((k : Int)) ∧ St H0 NoB (fun b => S b ∧ b < H0.size) [blkE g70 (.cells #[u65n0, u65n1, u65n2, u65n3] 37), rdE u65n3 ((nth q.Acts k).Drop), rdE u65n2 ((nth q.Acts k).Add), rdE u65n1 ((nth q.Acts k).Bar), rdE u65n0 ((nth q.Acts k).Need), rowE 3 vM (numL EM : List Int), mapE r29 (mM : List (Int × Way)), blkE g11 (.cells #[I ((questFault q).1), I ((questFault q).2)] 27), blkE g4 (.cells #[I (0), I (0)] 27), blkE g1 (.cells #[I (q.Facts), vf, vg, va] 25), rdE vf q.First, rdE vg q.Goal, rdE va q.Acts] H) ?_ ?_
  · refine wpF_region ?_
    refine wpL_q (U := NoB) rfl (q_move (v := I ((k : Int))) rfl a63_63) ?_
    refine wpL_q (U := NoB) rfl (q_indexRd (k := k) rfl Try.underlying23 el_Act_37_BestD1 a63_61 a63_63 (hS62.rdl 7 rfl) (by omega) (by omega)) ?_
    obtain ⟨u65, huu65, hlu65⟩ := (Rd.list.1 (hS62.rdS 7 rfl)).elem k (by omega)
    obtain ⟨u65n0, u65n1, u65n2, u65n3, rfl, hu650, hu651, hu652, hu653⟩ := Rd.act.1 huu65
    have hS66 : St H0 NoB (fun b => S b ∧ b < H0.size) [rdE u65n0 ((nth q.Acts k).Need), rowE 3 vM (numL EM : List Int), mapE r29 (mM : List (Int × Way)), blkE g11 (.cells #[I ((questFault q).1), I ((questFault q).2)] 27), blkE g4 (.cells #[I (0), I (0)] 27), blkE g1 (.cells #[I (q.Facts), vf, vg, va] 25), rdE vf q.First, rdE vg q.Goal, rdE va q.Acts] H62 := hS62.rd hu650
    have hS67 : St H0 NoB (fun b => S b ∧ b < H0.size) [rdE u65n1 ((nth q.Acts k).Bar), rdE u65n0 ((nth q.Acts k).Need), rowE 3 vM (numL EM : List Int), mapE r29 (mM : List (Int × Way)), blkE g11 (.cells #[I ((questFault q).1), I ((questFault q).2)] 27), blkE g4 (.cells #[I (0), I (0)] 27), blkE g1 (.cells #[I (q.Facts), vf, vg, va] 25), rdE vf q.First, rdE vg q.Goal, rdE va q.Acts] H62 := hS66.rd (hu651.sub fun _ hb => SL_rd hb)
    have hS68 : St H0 NoB (fun b => S b ∧ b < H0.size) [rdE u65n2 ((nth q.Acts k).Add), rdE u65n1 ((nth q.Acts k).Bar), rdE u65n0 ((nth q.Acts k).Need), rowE 3 vM (numL EM : List Int), mapE r29 (mM : List (Int × Way)), blkE g11 (.cells #[I ((questFault q).1), I ((questFault q).2)] 27), blkE g4 (.cells #[I (0), I (0)] 27), blkE g1 (.cells #[I (q.Facts), vf, vg, va] 25), rdE vf q.First, rdE vg q.Goal, rdE va q.Acts] H62 := hS67.rd (hu652.sub fun _ hb => SL_rd (SL_rd (hb)))
    have hS69 : St H0 NoB (fun b => S b ∧ b < H0.size) [rdE u65n3 ((nth q.Acts k).Drop), rdE u65n2 ((nth q.Acts k).Add), rdE u65n1 ((nth q.Acts k).Bar), rdE u65n0 ((nth q.Acts k).Need), rowE 3 vM (numL EM : List Int), mapE r29 (mM : List (Int × Way)), blkE g11 (.cells #[I ((questFault q).1), I ((questFault q).2)] 27), blkE g4 (.cells #[I (0), I (0)] 27), blkE g1 (.cells #[I (q.Facts), vf, vg, va] 25), rdE vf q.First, rdE vg q.Goal, rdE va q.Acts] H62 := hS68.rd (hu653.sub fun _ hb => SL_rd (SL_rd (SL_rd (hb))))
    refine wpL_q (U := NoB) rfl (q_loadE rfl rfl (hlu65 Try.prog 37 _ el_Act_37_BestD1 (fun _ h => False.elim h))) ?_
    refine wpL_o rfl ?_
    refine e_alloc rfl Try.zeroValue37 hS69 (fun g70 H71 hS72 hxx => ?_)
    replace hS72 : St H0 NoB (fun b => S b ∧ b < H0.size) [blkE g70 (.cells #[(Value.slice none 0 0), (Value.slice none 0 0), (Value.slice none 0 0), (Value.slice none 0 0)] 37), rdE u65n3 ((nth q.Acts k).Drop), rdE u65n2 ((nth q.Acts k).Add), rdE u65n1 ((nth q.Acts k).Bar), rdE u65n0 ((nth q.Acts k).Need), rowE 3 vM (numL EM : List Int), mapE r29 (mM : List (Int × Way)), blkE g11 (.cells #[I ((questFault q).1), I ((questFault q).2)] 27), blkE g4 (.cells #[I (0), I (0)] 27), blkE g1 (.cells #[I (q.Facts), vf, vg, va] 25), rdE vf q.First, rdE vg q.Goal, rdE va q.Acts] H71 := hS72
    refine wpL_q (U := NoB) rfl (q_assign (v := I ((k : Int))) rfl rfl) ?_
    refine wpL_o rfl ?_
    refine e_storeBlkA (cs' := #[u65n0, u65n1, u65n2, u65n3]) rfl rfl rfl Try.sizeOf37 rfl rfl (List.forall_mem_cons.2 ⟨(oneCell_rdL (hS72.rdl 4 rfl)), List.forall_mem_cons.2 ⟨(oneCell_rdL (hS72.rdl 3 rfl)), List.forall_mem_cons.2 ⟨(oneCell_rdL (hS72.rdl 2 rfl)), List.forall_mem_cons.2 ⟨(oneCell_rdL (hS72.rdl 1 rfl)), List.forall_mem_nil _⟩⟩⟩⟩) hS72 (fun H73 hS74 hxx => ?_)
    replace hS74 : St H0 NoB (fun b => S b ∧ b < H0.size) [blkE g70 (.cells #[u65n0, u65n1, u65n2, u65n3] 37), rdE u65n3 ((nth q.Acts k).Drop), rdE u65n2 ((nth q.Acts k).Add), rdE u65n1 ((nth q.Acts k).Bar), rdE u65n0 ((nth q.Acts k).Need), rowE 3 vM (numL EM : List Int), mapE r29 (mM : List (Int × Way)), blkE g11 (.cells #[I ((questFault q).1), I ((questFault q).2)] 27), blkE g4 (.cells #[I (0), I (0)] 27), blkE g1 (.cells #[I (q.Facts), vf, vg, va] 25), rdE vf q.First, rdE vg q.Goal, rdE va q.Acts] H73 := hS74
    exact ⟨u65n0, u65n1, u65n2, u65n3, g70, a63_1, a63_4, a63_6, a63_8, a63_9, a63_10, a63_11, rfl, rfl, a63_61, a63_62, a63_63, hS74⟩
  rintro f75 H75 ⟨u65n0, u65n1, u65n2, u65n3, g70, a75_1, a75_4, a75_6, a75_8, a75_9, a75_10, a75_11, a75_12, a75_13, a75_61, a75_62, a75_63, hS75⟩
  clear a63_1 a63_10 a63_11 a63_4 a63_6 a63_61 a63_62 a63_63 a63_64 a63_8 a63_9
  refine wpF_seq ?_
  refine wpF_cut (fun f H => f 1 = PT g1 0 ∧ f 4 = PT g4 0 ∧ f 6 = I (((bitsN q.Goal : Nat) : Int)) ∧ f 8 = (Value.map (some r29)) ∧ f 9 = vM ∧ f 10 = I ((i : Int)) ∧ f 11 = I (((numB (nth E i).1 : Nat) : Int)) ∧ f 12 = I ((k : Int)) ∧ f 14 = I (((if actOk (nth q.Acts k) (numB (nth E i).1) then actTo (nth q.Acts k) (numB (nth E i).1) else 0 : Nat) : Int)) ∧ f 15 = B (decide (actOk (nth q.Acts k) (numB (nth E i).1))) ∧ f 61 = va ∧ f 62 = I ((q.Acts.length : Int)) ∧ f 63 = I ((k : Int)) ∧ St H0 NoB (fun b => S b ∧ b < H0.size) [blkE g70 (.cells #[u65n0, u65n1, u65n2, u65n3] 37), rdE u65n3 ((nth q.Acts k).Drop), rdE u65n2 ((nth q.Acts k).Add), rdE u65n1 ((nth q.Acts k).Bar), rdE u65n0 ((nth q.Acts k).Need), rowE 3 vM (numL EM : List Int), mapE r29 (mM : List (Int × Way)), blkE g11 (.cells #[I ((questFault q).1), I ((questFault q).2)] 27), blkE g4 (.cells #[I (0), I (0)] 27), blkE g1 (.cells #[I (q.Facts), vf, vg, va] 25), rdE vf q.First, rdE vg q.Goal, rdE va q.Acts] H) ?_ ?_
  · refine wpF_region ?_
    refine wpL_q (U := NoB) rfl (q_loadBlkA rfl a75_13 Try.isAgg37 Try.sizeOf37 rfl (hS75.blk 0 rfl) (fun h => h)) ?_
    refine wpL_q (U := NoB) rfl (q_move (v := I (((numB (nth E i).1 : Nat) : Int))) rfl a75_11) ?_
    refine wpL_o rfl ?_
    refine e_call rfl Try.call45 (arr2 (v0 := Value.agg #[u65n0, u65n1, u65n2, u65n3]) (v1 := I (((numB (nth E i).1 : Nat) : Int))) rfl rfl) (Apply_L u65n0 u65n1 u65n2 u65n3 (nth q.Acts k) (numB (nth E i).1) (hS75.rdN 4 rfl) (hS75.rdN 3 rfl) (hS75.rdN 2 rfl) (hS75.rdN 1 rfl) hfk (by omega) hs6) ?_
    rintro _ H76 ⟨hxx, rfl⟩
    have hS77 : St H0 NoB (fun b => S b ∧ b < H0.size) [blkE g70 (.cells #[u65n0, u65n1, u65n2, u65n3] 37), rdE u65n3 ((nth q.Acts k).Drop), rdE u65n2 ((nth q.Acts k).Add), rdE u65n1 ((nth q.Acts k).Bar), rdE u65n0 ((nth q.Acts k).Need), rowE 3 vM (numL EM : List Int), mapE r29 (mM : List (Int × Way)), blkE g11 (.cells #[I ((questFault q).1), I ((questFault q).2)] 27), blkE g4 (.cells #[I (0), I (0)] 27), blkE g1 (.cells #[I (q.Facts), vf, vg, va] 25), rdE vf q.First, rdE vg q.Goal, rdE va q.Acts] H76 := hS75.ext hxx
    refine wpL_q (U := NoB) rfl (q_move (v := Value.tuple #[I (((if actOk (nth q.Acts k) (numB (nth E i).1) then actTo (nth q.Acts k) (numB (nth E i).1) else 0 : Nat) : Int)), B (decide (actOk (nth q.Acts k) (numB (nth E i).1)))]) rfl rfl) ?_
    refine wpL_q (U := NoB) rfl (q_extract (vs := #[I (((if actOk (nth q.Acts k) (numB (nth E i).1) then actTo (nth q.Acts k) (numB (nth E i).1) else 0 : Nat) : Int)), B (decide (actOk (nth q.Acts k) (numB (nth E i).1)))]) (v := I (((if actOk (nth q.Acts k) (numB (nth E i).1) then actTo (nth q.Acts k) (numB (nth E i).1) else 0 : Nat) : Int))) rfl rfl rfl) ?_
    refine wpL_q (U := NoB) rfl (q_extract (vs := #[I (((if actOk (nth q.Acts k) (numB (nth E i).1) then actTo (nth q.Acts k) (numB (nth E i).1) else 0 : Nat) : Int)), B (decide (actOk (nth q.Acts k) (numB (nth E i).1)))]) (v := B (decide (actOk (nth q.Acts k) (numB (nth E i).1)))) rfl rfl rfl) ?_
    refine wpL_q (U := NoB) rfl (q_assign (v := I (((if actOk (nth q.Acts k) (numB (nth E i).1) then actTo (nth q.Acts k) (numB (nth E i).1) else 0 : Nat) : Int))) rfl rfl) ?_
    refine wpL_q (U := NoB) rfl (q_assign (v := B (decide (actOk (nth q.Acts k) (numB (nth E i).1)))) rfl rfl) ?_
    exact ⟨a75_1, a75_4, a75_6, a75_8, a75_9, a75_10, a75_11, a75_12, rfl, rfl, a75_61, a75_62, a75_63, hS77⟩
  rintro f79 H79 ⟨a79_1, a79_4, a79_6, a79_8, a79_9, a79_10, a79_11, a79_12, a79_14, a79_15, a79_61, a79_62, a79_63, hS79⟩
  clear a75_1 a75_10 a75_11 a75_12 a75_13 a75_4 a75_6 a75_61 a75_62 a75_63 a75_8 a75_9
  refine wpF_seq ?_
  refine wpF_cut (fun f H => ∃ (g81 : Nat), f 1 = PT g1 0 ∧ f 4 = PT g4 0 ∧ f 6 = I (((bitsN q.Goal : Nat) : Int)) ∧ f 8 = (Value.map (some r29)) ∧ f 9 = vM ∧ f 10 = I ((i : Int)) ∧ f 11 = I (((numB (nth E i).1 : Nat) : Int)) ∧ f 12 = I ((k : Int)) ∧ f 14 = I (((if actOk (nth q.Acts k) (numB (nth E i).1) then actTo (nth q.Acts k) (numB (nth E i).1) else 0 : Nat) : Int)) ∧ f 15 = B (decide (actOk (nth q.Acts k) (numB (nth E i).1))) ∧ f 17 = B ((mget mM ((if actOk (nth q.Acts k) (numB (nth E i).1) then actTo (nth q.Acts k) (numB (nth E i).1) else 0 : Nat) : Int)).isSome) ∧ f 61 = va ∧ f 62 = I ((q.Acts.length : Int)) ∧ f 63 = I ((k : Int)) ∧ St H0 NoB (fun b => S b ∧ b < H0.size) [blkE g81 (.cells #[I (((mget mM ((if actOk (nth q.Acts k) (numB (nth E i).1) then actTo (nth q.Acts k) (numB (nth E i).1) else 0 : Nat) : Int)).getD (Way.mk 0 0 0)).From), I (((mget mM ((if actOk (nth q.Acts k) (numB (nth E i).1) then actTo (nth q.Acts k) (numB (nth E i).1) else 0 : Nat) : Int)).getD (Way.mk 0 0 0)).By), I (((mget mM ((if actOk (nth q.Acts k) (numB (nth E i).1) then actTo (nth q.Acts k) (numB (nth E i).1) else 0 : Nat) : Int)).getD (Way.mk 0 0 0)).Long)] 73), blkE g70 (.cells #[u65n0, u65n1, u65n2, u65n3] 37), rdE u65n3 ((nth q.Acts k).Drop), rdE u65n2 ((nth q.Acts k).Add), rdE u65n1 ((nth q.Acts k).Bar), rdE u65n0 ((nth q.Acts k).Need), rowE 3 vM (numL EM : List Int), mapE r29 (mM : List (Int × Way)), blkE g11 (.cells #[I ((questFault q).1), I ((questFault q).2)] 27), blkE g4 (.cells #[I (0), I (0)] 27), blkE g1 (.cells #[I (q.Facts), vf, vg, va] 25), rdE vf q.First, rdE vg q.Goal, rdE va q.Acts] H) ?_ ?_
  · refine wpF_region ?_
    refine wpL_q (U := NoB) rfl (q_move (v := (Value.map (some r29))) rfl a79_8) ?_
    refine wpL_q (U := NoB) rfl (q_move (v := I (((if actOk (nth q.Acts k) (numB (nth E i).1) then actTo (nth q.Acts k) (numB (nth E i).1) else 0 : Nat) : Int))) rfl a79_14) ?_
    obtain ⟨u80, hlu80, hru80⟩ := lookD (t := 74) (d := ((Way.mk 0 0 0) : Way)) Try.underlying74 (keyLaw_int Try.underlying3) Try.zeroValue73 (fun _ _ => Rd.way.2 ⟨rfl, by decide, by decide, by decide⟩) ((if actOk (nth q.Acts k) (numB (nth E i).1) then actTo (nth q.Acts k) (numB (nth E i).1) else 0 : Nat) : Int) (hS79.get 6 rfl)
    obtain ⟨rfl, hiu80_0, hiu80_1, hiu80_2⟩ := Rd.way.1 hru80
    refine wpL_q (U := NoB) rfl (q_lookup1 rfl rfl rfl (hlu80 _ (fun h => h))) ?_
    refine wpL_q (U := NoB) rfl (q_move (v := Value.tuple #[Value.agg #[I (((mget mM ((if actOk (nth q.Acts k) (numB (nth E i).1) then actTo (nth q.Acts k) (numB (nth E i).1) else 0 : Nat) : Int)).getD (Way.mk 0 0 0)).From), I (((mget mM ((if actOk (nth q.Acts k) (numB (nth E i).1) then actTo (nth q.Acts k) (numB (nth E i).1) else 0 : Nat) : Int)).getD (Way.mk 0 0 0)).By), I (((mget mM ((if actOk (nth q.Acts k) (numB (nth E i).1) then actTo (nth q.Acts k) (numB (nth E i).1) else 0 : Nat) : Int)).getD (Way.mk 0 0 0)).Long)], B ((mget mM ((if actOk (nth q.Acts k) (numB (nth E i).1) then actTo (nth q.Acts k) (numB (nth E i).1) else 0 : Nat) : Int)).isSome)]) rfl rfl) ?_
    refine wpL_q (U := NoB) rfl (q_extract (vs := #[Value.agg #[I (((mget mM ((if actOk (nth q.Acts k) (numB (nth E i).1) then actTo (nth q.Acts k) (numB (nth E i).1) else 0 : Nat) : Int)).getD (Way.mk 0 0 0)).From), I (((mget mM ((if actOk (nth q.Acts k) (numB (nth E i).1) then actTo (nth q.Acts k) (numB (nth E i).1) else 0 : Nat) : Int)).getD (Way.mk 0 0 0)).By), I (((mget mM ((if actOk (nth q.Acts k) (numB (nth E i).1) then actTo (nth q.Acts k) (numB (nth E i).1) else 0 : Nat) : Int)).getD (Way.mk 0 0 0)).Long)], B ((mget mM ((if actOk (nth q.Acts k) (numB (nth E i).1) then actTo (nth q.Acts k) (numB (nth E i).1) else 0 : Nat) : Int)).isSome)]) (v := Value.agg #[I (((mget mM ((if actOk (nth q.Acts k) (numB (nth E i).1) then actTo (nth q.Acts k) (numB (nth E i).1) else 0 : Nat) : Int)).getD (Way.mk 0 0 0)).From), I (((mget mM ((if actOk (nth q.Acts k) (numB (nth E i).1) then actTo (nth q.Acts k) (numB (nth E i).1) else 0 : Nat) : Int)).getD (Way.mk 0 0 0)).By), I (((mget mM ((if actOk (nth q.Acts k) (numB (nth E i).1) then actTo (nth q.Acts k) (numB (nth E i).1) else 0 : Nat) : Int)).getD (Way.mk 0 0 0)).Long)]) rfl rfl rfl) ?_
    refine wpL_q (U := NoB) rfl (q_extract (vs := #[Value.agg #[I (((mget mM ((if actOk (nth q.Acts k) (numB (nth E i).1) then actTo (nth q.Acts k) (numB (nth E i).1) else 0 : Nat) : Int)).getD (Way.mk 0 0 0)).From), I (((mget mM ((if actOk (nth q.Acts k) (numB (nth E i).1) then actTo (nth q.Acts k) (numB (nth E i).1) else 0 : Nat) : Int)).getD (Way.mk 0 0 0)).By), I (((mget mM ((if actOk (nth q.Acts k) (numB (nth E i).1) then actTo (nth q.Acts k) (numB (nth E i).1) else 0 : Nat) : Int)).getD (Way.mk 0 0 0)).Long)], B ((mget mM ((if actOk (nth q.Acts k) (numB (nth E i).1) then actTo (nth q.Acts k) (numB (nth E i).1) else 0 : Nat) : Int)).isSome)]) (v := B ((mget mM ((if actOk (nth q.Acts k) (numB (nth E i).1) then actTo (nth q.Acts k) (numB (nth E i).1) else 0 : Nat) : Int)).isSome)) rfl rfl rfl) ?_
    refine wpL_o rfl ?_
    refine e_alloc rfl Try.zeroValue73 hS79 (fun g81 H82 hS83 hxx => ?_)
    replace hS83 : St H0 NoB (fun b => S b ∧ b < H0.size) [blkE g81 (.cells #[I (0), I (0), I (0)] 73), blkE g70 (.cells #[u65n0, u65n1, u65n2, u65n3] 37), rdE u65n3 ((nth q.Acts k).Drop), rdE u65n2 ((nth q.Acts k).Add), rdE u65n1 ((nth q.Acts k).Bar), rdE u65n0 ((nth q.Acts k).Need), rowE 3 vM (numL EM : List Int), mapE r29 (mM : List (Int × Way)), blkE g11 (.cells #[I ((questFault q).1), I ((questFault q).2)] 27), blkE g4 (.cells #[I (0), I (0)] 27), blkE g1 (.cells #[I (q.Facts), vf, vg, va] 25), rdE vf q.First, rdE vg q.Goal, rdE va q.Acts] H82 := hS83
    refine wpL_o rfl ?_
    refine e_storeBlkA (cs' := #[I (((mget mM ((if actOk (nth q.Acts k) (numB (nth E i).1) then actTo (nth q.Acts k) (numB (nth E i).1) else 0 : Nat) : Int)).getD (Way.mk 0 0 0)).From), I (((mget mM ((if actOk (nth q.Acts k) (numB (nth E i).1) then actTo (nth q.Acts k) (numB (nth E i).1) else 0 : Nat) : Int)).getD (Way.mk 0 0 0)).By), I (((mget mM ((if actOk (nth q.Acts k) (numB (nth E i).1) then actTo (nth q.Acts k) (numB (nth E i).1) else 0 : Nat) : Int)).getD (Way.mk 0 0 0)).Long)]) rfl rfl rfl Try.sizeOf73 rfl rfl (List.forall_mem_cons.2 ⟨rfl, List.forall_mem_cons.2 ⟨rfl, List.forall_mem_cons.2 ⟨rfl, List.forall_mem_nil _⟩⟩⟩) hS83 (fun H84 hS85 hxx => ?_)
    replace hS85 : St H0 NoB (fun b => S b ∧ b < H0.size) [blkE g81 (.cells #[I (((mget mM ((if actOk (nth q.Acts k) (numB (nth E i).1) then actTo (nth q.Acts k) (numB (nth E i).1) else 0 : Nat) : Int)).getD (Way.mk 0 0 0)).From), I (((mget mM ((if actOk (nth q.Acts k) (numB (nth E i).1) then actTo (nth q.Acts k) (numB (nth E i).1) else 0 : Nat) : Int)).getD (Way.mk 0 0 0)).By), I (((mget mM ((if actOk (nth q.Acts k) (numB (nth E i).1) then actTo (nth q.Acts k) (numB (nth E i).1) else 0 : Nat) : Int)).getD (Way.mk 0 0 0)).Long)] 73), blkE g70 (.cells #[u65n0, u65n1, u65n2, u65n3] 37), rdE u65n3 ((nth q.Acts k).Drop), rdE u65n2 ((nth q.Acts k).Add), rdE u65n1 ((nth q.Acts k).Bar), rdE u65n0 ((nth q.Acts k).Need), rowE 3 vM (numL EM : List Int), mapE r29 (mM : List (Int × Way)), blkE g11 (.cells #[I ((questFault q).1), I ((questFault q).2)] 27), blkE g4 (.cells #[I (0), I (0)] 27), blkE g1 (.cells #[I (q.Facts), vf, vg, va] 25), rdE vf q.First, rdE vg q.Goal, rdE va q.Acts] H84 := hS85
    refine wpL_q (U := NoB) rfl (q_assign (v := B ((mget mM ((if actOk (nth q.Acts k) (numB (nth E i).1) then actTo (nth q.Acts k) (numB (nth E i).1) else 0 : Nat) : Int)).isSome)) rfl rfl) ?_
    exact ⟨g81, a79_1, a79_4, a79_6, a79_8, a79_9, a79_10, a79_11, a79_12, a79_14, a79_15, rfl, a79_61, a79_62, a79_63, hS85⟩
  rintro f86 H86 ⟨g81, a86_1, a86_4, a86_6, a86_8, a86_9, a86_10, a86_11, a86_12, a86_14, a86_15, a86_17, a86_61, a86_62, a86_63, hS86⟩
  clear a79_1 a79_10 a79_11 a79_12 a79_14 a79_15 a79_4 a79_6 a79_61 a79_62 a79_63 a79_8 a79_9
  refine wpF_seq ?_
  refine wpF_cut (fun f H => f 1 = PT g1 0 ∧ f 4 = PT g4 0 ∧ f 6 = I (((bitsN q.Goal : Nat) : Int)) ∧ f 8 = (Value.map (some r29)) ∧ f 9 = vM ∧ f 10 = I ((i : Int)) ∧ f 11 = I (((numB (nth E i).1 : Nat) : Int)) ∧ f 12 = I ((k : Int)) ∧ f 14 = I (((if actOk (nth q.Acts k) (numB (nth E i).1) then actTo (nth q.Acts k) (numB (nth E i).1) else 0 : Nat) : Int)) ∧ f 61 = va ∧ f 62 = I ((q.Acts.length : Int)) ∧ f 63 = I ((k : Int)) ∧ f 84 = B (decide ((actOk (nth q.Acts k) (numB (nth E i).1)) ∧ ((!((mget mM ((if actOk (nth q.Acts k) (numB (nth E i).1) then actTo (nth q.Acts k) (numB (nth E i).1) else 0 : Nat) : Int)).isSome)) = true))) ∧ H86 = H) ?_ ?_
  · refine wpF_region ?_
    refine wpL_q (U := NoB) rfl (q_move (v := B (decide (actOk (nth q.Acts k) (numB (nth E i).1)))) rfl a86_15) ?_
    refine wpL_q (U := NoB) rfl (q_move (v := B (decide (actOk (nth q.Acts k) (numB (nth E i).1)))) rfl rfl) ?_
    by_cases hg87 : actOk (nth q.Acts k) (numB (nth E i).1)
    · have hb88 := Eq.trans rfl (congrArg B (decide_eq_true hg87))
      refine wpL_gq (U := NoB) rfl rfl rfl hb88 (q_move (v := B ((mget mM ((if actOk (nth q.Acts k) (numB (nth E i).1) then actTo (nth q.Acts k) (numB (nth E i).1) else 0 : Nat) : Int)).isSome)) rfl a86_17) ?_
      refine wpL_gq (U := NoB) rfl rfl rfl hb88 (q_not rfl rfl) ?_
      refine wpL_q (U := NoB) rfl (q_pickT (v := B (!((mget mM ((if actOk (nth q.Acts k) (numB (nth E i).1) then actTo (nth q.Acts k) (numB (nth E i).1) else 0 : Nat) : Int)).isSome))) rfl hb88 rfl) ?_
      exact ⟨a86_1, a86_4, a86_6, a86_8, a86_9, a86_10, a86_11, a86_12, a86_14, a86_61, a86_62, a86_63, (Eq.trans rfl (congrArg B (bool_congr_of ((Iff.rfl).trans (((and_iff_right hg87).trans Iff.rfl)).symm)))), rfl⟩
    · have hb89 := Eq.trans rfl (congrArg B (decide_eq_false hg87))
      refine wpL_gs rfl rfl rfl hb89 rfl ?_
      refine wpL_gs rfl rfl rfl hb89 rfl ?_
      refine wpL_q (U := NoB) rfl (q_pickF (v := B (false)) rfl hb89 rfl) ?_
      exact ⟨a86_1, a86_4, a86_6, a86_8, a86_9, a86_10, a86_11, a86_12, a86_14, a86_61, a86_62, a86_63, (Eq.trans rfl (congrArg B ((decide_eq_false (fun h => hg87 h.1)).symm))), rfl⟩
  rintro f90 _ ⟨a90_1, a90_4, a90_6, a90_8, a90_9, a90_10, a90_11, a90_12, a90_14, a90_61, a90_62, a90_63, a90_84, rfl⟩
  clear a86_1 a86_10 a86_11 a86_12 a86_14 a86_15 a86_17 a86_4 a86_6 a86_61 a86_62 a86_63 a86_8 a86_9
  refine wpF_cut (fun f H => ∃ (vN : Value), ∃ (EN : List (List Bool × List Int)), ∃ (mN : List (Int × Way)), (i < EN.length) ∧ (nth EN i = nth E i) ∧ (BestI q EN mN i (k + 1)) ∧ (∀ j, j < i + 1 → goalA q (nth EN j).1 = false) ∧ f 1 = PT g1 0 ∧ f 4 = PT g4 0 ∧ f 6 = I (((bitsN q.Goal : Nat) : Int)) ∧ f 8 = (Value.map (some r29)) ∧ f 9 = vN ∧ f 10 = I ((i : Int)) ∧ f 11 = I (((numB (nth E i).1 : Nat) : Int)) ∧ f 61 = va ∧ f 62 = I ((q.Acts.length : Int)) ∧ f 63 = I ((k : Int)) ∧ St H0 NoB (fun b => S b ∧ b < H0.size) [rowE 3 vN (numL EN : List Int), mapE r29 (mN : List (Int × Way)), blkE g81 (.cells #[I (((mget mM ((if actOk (nth q.Acts k) (numB (nth E i).1) then actTo (nth q.Acts k) (numB (nth E i).1) else 0 : Nat) : Int)).getD (Way.mk 0 0 0)).From), I (((mget mM ((if actOk (nth q.Acts k) (numB (nth E i).1) then actTo (nth q.Acts k) (numB (nth E i).1) else 0 : Nat) : Int)).getD (Way.mk 0 0 0)).By), I (((mget mM ((if actOk (nth q.Acts k) (numB (nth E i).1) then actTo (nth q.Acts k) (numB (nth E i).1) else 0 : Nat) : Int)).getD (Way.mk 0 0 0)).Long)] 73), blkE g70 (.cells #[u65n0, u65n1, u65n2, u65n3] 37), rdE u65n3 ((nth q.Acts k).Drop), rdE u65n2 ((nth q.Acts k).Add), rdE u65n1 ((nth q.Acts k).Bar), rdE u65n0 ((nth q.Acts k).Need), blkE g11 (.cells #[I ((questFault q).1), I ((questFault q).2)] 27), blkE g4 (.cells #[I (0), I (0)] 27), blkE g1 (.cells #[I (q.Facts), vf, vg, va] 25), rdE vf q.First, rdE vg q.Goal, rdE va q.Acts] H) ?_ ?_
  · refine wpF_condP a90_84 (fun hnew => ?t108) (fun hnew => ?e108)
    case e108 =>
      refine wpF_skip ?_
      exact ⟨vM, EM, mM, hi2, hnth, (hB2.old hQ hi2 (by omega) (by rw [hnth]; exact hnew)), hno2, a90_1, a90_4, a90_6, a90_8, a90_9, a90_10, a90_11, a90_61, a90_62, a90_63, (St.drop (show St H0 NoB (fun b => S b ∧ b < H0.size) [rowE 3 vM (numL EM : List Int), mapE r29 (mM : List (Int × Way)), blkE g81 (.cells #[I (((mget mM ((if actOk (nth q.Acts k) (numB (nth E i).1) then actTo (nth q.Acts k) (numB (nth E i).1) else 0 : Nat) : Int)).getD (Way.mk 0 0 0)).From), I (((mget mM ((if actOk (nth q.Acts k) (numB (nth E i).1) then actTo (nth q.Acts k) (numB (nth E i).1) else 0 : Nat) : Int)).getD (Way.mk 0 0 0)).By), I (((mget mM ((if actOk (nth q.Acts k) (numB (nth E i).1) then actTo (nth q.Acts k) (numB (nth E i).1) else 0 : Nat) : Int)).getD (Way.mk 0 0 0)).Long)] 73), blkE g70 (.cells #[u65n0, u65n1, u65n2, u65n3] 37), rdE u65n3 ((nth q.Acts k).Drop), rdE u65n2 ((nth q.Acts k).Add), rdE u65n1 ((nth q.Acts k).Bar), rdE u65n0 ((nth q.Acts k).Need), blkE g11 (.cells #[I ((questFault q).1), I ((questFault q).2)] 27), blkE g4 (.cells #[I (0), I (0)] 27), blkE g1 (.cells #[I (q.Facts), vf, vg, va] 25), rdE vf q.First, rdE vg q.Goal, rdE va q.Acts] H86 from ((hS86.front 7 rfl).front 7 rfl)) (sk (sk (sk (sk (sk (sk (sk (sk (sk (sk (sk (sk (sk (sk (List.Sublist.slnil))))))))))))))))⟩
    have hN := hB2.new hQ hi2 hkq (by rw [hnth]; exact hnew) (by rw [hnth]; exact hl20)
    rw [hnth] at hN
    have hkey : (((if actOk (nth q.Acts k) (numB (nth E i).1) then actTo (nth q.Acts k) (numB (nth E i).1) else 0 : Nat)) : Int) = ((numB (afterA (nth q.Acts k) (nth E i).1) : Nat) : Int) := hN.1
    have hs7 := numB_lt hN.2 hQ (e := (afterA (nth q.Acts k) (nth E i).1, (nth E i).2 ++ [(k : Int)])) (List.mem_append_right _ (List.mem_singleton.2 rfl))
    dsimp only at hs7
    refine wpF_seq ?_
    refine wpF_cut (fun f H => f 1 = PT g1 0 ∧ f 4 = PT g4 0 ∧ f 6 = I (((bitsN q.Goal : Nat) : Int)) ∧ f 8 = (Value.map (some r29)) ∧ f 9 = vM ∧ f 10 = I ((i : Int)) ∧ f 11 = I (((numB (nth E i).1 : Nat) : Int)) ∧ f 14 = I (((if actOk (nth q.Acts k) (numB (nth E i).1) then actTo (nth q.Acts k) (numB (nth E i).1) else 0 : Nat) : Int)) ∧ f 61 = va ∧ f 62 = I ((q.Acts.length : Int)) ∧ f 63 = I ((k : Int)) ∧ St H0 NoB (fun b => S b ∧ b < H0.size) [mapE r29 (mset mM ((if actOk (nth q.Acts k) (numB (nth E i).1) then actTo (nth q.Acts k) (numB (nth E i).1) else 0 : Nat) : Int) (Way.mk ((numB (nth E i).1 : Nat) : Int) (k : Int) ((((mget mM ((numB (nth E i).1 : Nat) : Int)).getD (Way.mk 0 0 0)).Long) + 1)) : List (Int × Way)), blkE g81 (.cells #[I (((mget mM ((if actOk (nth q.Acts k) (numB (nth E i).1) then actTo (nth q.Acts k) (numB (nth E i).1) else 0 : Nat) : Int)).getD (Way.mk 0 0 0)).From), I (((mget mM ((if actOk (nth q.Acts k) (numB (nth E i).1) then actTo (nth q.Acts k) (numB (nth E i).1) else 0 : Nat) : Int)).getD (Way.mk 0 0 0)).By), I (((mget mM ((if actOk (nth q.Acts k) (numB (nth E i).1) then actTo (nth q.Acts k) (numB (nth E i).1) else 0 : Nat) : Int)).getD (Way.mk 0 0 0)).Long)] 73), blkE g70 (.cells #[u65n0, u65n1, u65n2, u65n3] 37), rdE u65n3 ((nth q.Acts k).Drop), rdE u65n2 ((nth q.Acts k).Add), rdE u65n1 ((nth q.Acts k).Bar), rdE u65n0 ((nth q.Acts k).Need), rowE 3 vM (numL EM : List Int), blkE g11 (.cells #[I ((questFault q).1), I ((questFault q).2)] 27), blkE g4 (.cells #[I (0), I (0)] 27), blkE g1 (.cells #[I (q.Facts), vf, vg, va] 25), rdE vf q.First, rdE vg q.Goal, rdE va q.Acts] H) ?_ ?_
    · refine wpF_region ?_
      refine wpL_q (U := NoB) rfl (q_move (v := (Value.map (some r29))) rfl a90_8) ?_
      refine wpL_q (U := NoB) rfl (q_move (v := I (((if actOk (nth q.Acts k) (numB (nth E i).1) then actTo (nth q.Acts k) (numB (nth E i).1) else 0 : Nat) : Int))) rfl a90_14) ?_
      refine wpL_q (U := NoB) rfl (q_move (v := I (((numB (nth E i).1 : Nat) : Int))) rfl a90_11) ?_
      refine wpL_q (U := NoB) rfl (q_move (v := I ((k : Int))) rfl a90_12) ?_
      refine wpL_q (U := NoB) rfl (q_move (v := (Value.map (some r29))) rfl a90_8) ?_
      refine wpL_q (U := NoB) rfl (q_move (v := I (((numB (nth E i).1 : Nat) : Int))) rfl a90_11) ?_
      obtain ⟨u93, hlu93, hru93⟩ := lookD (t := 74) (d := ((Way.mk 0 0 0) : Way)) Try.underlying74 (keyLaw_int Try.underlying3) Try.zeroValue73 (fun _ _ => Rd.way.2 ⟨rfl, by decide, by decide, by decide⟩) ((numB (nth E i).1 : Nat) : Int) (hS86.get 7 rfl)
      obtain ⟨rfl, hiu93_0, hiu93_1, hiu93_2⟩ := Rd.way.1 hru93
      refine wpL_q (U := NoB) rfl (q_lookup0 rfl rfl rfl (hlu93 _ (fun h => h))) ?_
      refine wpL_q (U := NoB) rfl (q_field (cs := #[I (((mget mM ((numB (nth E i).1 : Nat) : Int)).getD (Way.mk 0 0 0)).From), I (((mget mM ((numB (nth E i).1 : Nat) : Int)).getD (Way.mk 0 0 0)).By), I (((mget mM ((numB (nth E i).1 : Nat) : Int)).getD (Way.mk 0 0 0)).Long)]) (v := I (((mget mM ((numB (nth E i).1 : Nat) : Int)).getD (Way.mk 0 0 0)).Long)) rfl Try.underlying73 rfl Try.isAgg3 rfl rfl) ?_
      refine wpL_q (U := NoB) rfl (q_add rfl rfl rfl (by constructor <;> omega)) ?_
      refine wpL_q (U := NoB) rfl (q_build (v := Value.agg #[I (((numB (nth E i).1 : Nat) : Int)), I ((k : Int)), I ((((mget mM ((numB (nth E i).1 : Nat) : Int)).getD (Way.mk 0 0 0)).Long) + 1)]) rfl (par3 (v0 := I (((numB (nth E i).1 : Nat) : Int))) (v1 := I ((k : Int))) (v2 := I ((((mget mM ((numB (nth E i).1 : Nat) : Int)).getD (Way.mk 0 0 0)).Long) + 1)) rfl rfl rfl) (fun w => by kernel_rfl)) ?_
      have hS94 : St H0 NoB (fun b => S b ∧ b < H0.size) [mapE r29 (mM : List (Int × Way)), blkE g81 (.cells #[I (((mget mM ((if actOk (nth q.Acts k) (numB (nth E i).1) then actTo (nth q.Acts k) (numB (nth E i).1) else 0 : Nat) : Int)).getD (Way.mk 0 0 0)).From), I (((mget mM ((if actOk (nth q.Acts k) (numB (nth E i).1) then actTo (nth q.Acts k) (numB (nth E i).1) else 0 : Nat) : Int)).getD (Way.mk 0 0 0)).By), I (((mget mM ((if actOk (nth q.Acts k) (numB (nth E i).1) then actTo (nth q.Acts k) (numB (nth E i).1) else 0 : Nat) : Int)).getD (Way.mk 0 0 0)).Long)] 73), blkE g70 (.cells #[u65n0, u65n1, u65n2, u65n3] 37), rdE u65n3 ((nth q.Acts k).Drop), rdE u65n2 ((nth q.Acts k).Add), rdE u65n1 ((nth q.Acts k).Bar), rdE u65n0 ((nth q.Acts k).Need), rowE 3 vM (numL EM : List Int), blkE g11 (.cells #[I ((questFault q).1), I ((questFault q).2)] 27), blkE g4 (.cells #[I (0), I (0)] 27), blkE g1 (.cells #[I (q.Facts), vf, vg, va] 25), rdE vf q.First, rdE vg q.Goal, rdE va q.Acts] H86 := (hS86.front 7 rfl)
      refine wpL_o rfl ?_
      refine e_mapUpdate (k := ((if actOk (nth q.Acts k) (numB (nth E i).1) then actTo (nth q.Acts k) (numB (nth E i).1) else 0 : Nat) : Int)) (.inl rfl) Try.underlying74 (keyLaw_int Try.underlying3) rfl rfl rfl hS94 ((Rd.way (a := (Way.mk ((numB (nth E i).1 : Nat) : Int) (k : Int) ((((mget mM ((numB (nth E i).1 : Nat) : Int)).getD (Way.mk 0 0 0)).Long) + 1)))).2 ⟨rfl, (by first | assumption | (constructor <;> (dsimp only; omega)) | (constructor <;> omega)), (by first | assumption | (constructor <;> (dsimp only; omega)) | (constructor <;> omega)), (by first | assumption | (constructor <;> (dsimp only; omega)) | (constructor <;> omega))⟩) (fun H95 hS96 hxx => ?_)
      replace hS96 : St H0 NoB (fun b => S b ∧ b < H0.size) [mapE r29 (mset mM ((if actOk (nth q.Acts k) (numB (nth E i).1) then actTo (nth q.Acts k) (numB (nth E i).1) else 0 : Nat) : Int) (Way.mk ((numB (nth E i).1 : Nat) : Int) (k : Int) ((((mget mM ((numB (nth E i).1 : Nat) : Int)).getD (Way.mk 0 0 0)).Long) + 1)) : List (Int × Way)), blkE g81 (.cells #[I (((mget mM ((if actOk (nth q.Acts k) (numB (nth E i).1) then actTo (nth q.Acts k) (numB (nth E i).1) else 0 : Nat) : Int)).getD (Way.mk 0 0 0)).From), I (((mget mM ((if actOk (nth q.Acts k) (numB (nth E i).1) then actTo (nth q.Acts k) (numB (nth E i).1) else 0 : Nat) : Int)).getD (Way.mk 0 0 0)).By), I (((mget mM ((if actOk (nth q.Acts k) (numB (nth E i).1) then actTo (nth q.Acts k) (numB (nth E i).1) else 0 : Nat) : Int)).getD (Way.mk 0 0 0)).Long)] 73), blkE g70 (.cells #[u65n0, u65n1, u65n2, u65n3] 37), rdE u65n3 ((nth q.Acts k).Drop), rdE u65n2 ((nth q.Acts k).Add), rdE u65n1 ((nth q.Acts k).Bar), rdE u65n0 ((nth q.Acts k).Need), rowE 3 vM (numL EM : List Int), blkE g11 (.cells #[I ((questFault q).1), I ((questFault q).2)] 27), blkE g4 (.cells #[I (0), I (0)] 27), blkE g1 (.cells #[I (q.Facts), vf, vg, va] 25), rdE vf q.First, rdE vg q.Goal, rdE va q.Acts] H95 := hS96
      exact ⟨a90_1, a90_4, a90_6, a90_8, a90_9, a90_10, a90_11, a90_14, a90_61, a90_62, a90_63, hS96⟩
    rintro f97 H97 ⟨a97_1, a97_4, a97_6, a97_8, a97_9, a97_10, a97_11, a97_14, a97_61, a97_62, a97_63, hS97⟩
    clear a90_1 a90_10 a90_11 a90_12 a90_14 a90_4 a90_6 a90_61 a90_62 a90_63 a90_8 a90_84 a90_9
    refine wpF_cut (fun f H => ∃ (v103 : Value), f 1 = PT g1 0 ∧ f 4 = PT g4 0 ∧ f 6 = I (((bitsN q.Goal : Nat) : Int)) ∧ f 8 = (Value.map (some r29)) ∧ f 9 = v103 ∧ f 10 = I ((i : Int)) ∧ f 11 = I (((numB (nth E i).1 : Nat) : Int)) ∧ f 61 = va ∧ f 62 = I ((q.Acts.length : Int)) ∧ f 63 = I ((k : Int)) ∧ St H0 NoB (fun b => S b ∧ b < H0.size) [rowE 3 v103 (numL (EM ++ [(afterA (nth q.Acts k) (nth E i).1, (nth E i).2 ++ [(k : Int)])]) : List Int), mapE r29 (mset mM ((if actOk (nth q.Acts k) (numB (nth E i).1) then actTo (nth q.Acts k) (numB (nth E i).1) else 0 : Nat) : Int) (Way.mk ((numB (nth E i).1 : Nat) : Int) (k : Int) ((((mget mM ((numB (nth E i).1 : Nat) : Int)).getD (Way.mk 0 0 0)).Long) + 1)) : List (Int × Way)), blkE g81 (.cells #[I (((mget mM ((if actOk (nth q.Acts k) (numB (nth E i).1) then actTo (nth q.Acts k) (numB (nth E i).1) else 0 : Nat) : Int)).getD (Way.mk 0 0 0)).From), I (((mget mM ((if actOk (nth q.Acts k) (numB (nth E i).1) then actTo (nth q.Acts k) (numB (nth E i).1) else 0 : Nat) : Int)).getD (Way.mk 0 0 0)).By), I (((mget mM ((if actOk (nth q.Acts k) (numB (nth E i).1) then actTo (nth q.Acts k) (numB (nth E i).1) else 0 : Nat) : Int)).getD (Way.mk 0 0 0)).Long)] 73), blkE g70 (.cells #[u65n0, u65n1, u65n2, u65n3] 37), rdE u65n3 ((nth q.Acts k).Drop), rdE u65n2 ((nth q.Acts k).Add), rdE u65n1 ((nth q.Acts k).Bar), rdE u65n0 ((nth q.Acts k).Need), blkE g11 (.cells #[I ((questFault q).1), I ((questFault q).2)] 27), blkE g4 (.cells #[I (0), I (0)] 27), blkE g1 (.cells #[I (q.Facts), vf, vg, va] 25), rdE vf q.First, rdE vg q.Goal, rdE va q.Acts] H) ?_ ?_
    · refine wpF_region ?_
      refine wpL_q (U := NoB) rfl (q_move (v := vM) rfl a97_9) ?_
      refine wpL_q (U := NoB) rfl (q_move (v := I (((if actOk (nth q.Acts k) (numB (nth E i).1) then actTo (nth q.Acts k) (numB (nth E i).1) else 0 : Nat) : Int))) rfl a97_14) ?_
      refine wpL_o rfl ?_
      refine e_buildSlice (vs := [I (((if actOk (nth q.Acts k) (numB (nth E i).1) then actTo (nth q.Acts k) (numB (nth E i).1) else 0 : Nat) : Int))]) (xs := ([((if actOk (nth q.Acts k) (numB (nth E i).1) then actTo (nth q.Acts k) (numB (nth E i).1) else 0 : Nat) : Int)] : List Int)) rfl Try.underlying22 Try.zeroValue3 rfl Try.sizeOf3 (par1 (v0 := I (((if actOk (nth q.Acts k) (numB (nth E i).1) then actTo (nth q.Acts k) (numB (nth E i).1) else 0 : Nat) : Int))) rfl) rfl hS97 (RdVs.cons (Rd.int.2 ⟨rfl, by first | assumption | (constructor <;> omega)⟩) (RdVs.nil)) (by decide) (by decide) (fun v98 H99 hS100 hxx hvv98 => ?_)
      replace hS100 : St H0 NoB (fun b => S b ∧ b < H0.size) [rowE 3 v98 ([((if actOk (nth q.Acts k) (numB (nth E i).1) then actTo (nth q.Acts k) (numB (nth E i).1) else 0 : Nat) : Int)] : List Int), mapE r29 (mset mM ((if actOk (nth q.Acts k) (numB (nth E i).1) then actTo (nth q.Acts k) (numB (nth E i).1) else 0 : Nat) : Int) (Way.mk ((numB (nth E i).1 : Nat) : Int) (k : Int) ((((mget mM ((numB (nth E i).1 : Nat) : Int)).getD (Way.mk 0 0 0)).Long) + 1)) : List (Int × Way)), blkE g81 (.cells #[I (((mget mM ((if actOk (nth q.Acts k) (numB (nth E i).1) then actTo (nth q.Acts k) (numB (nth E i).1) else 0 : Nat) : Int)).getD (Way.mk 0 0 0)).From), I (((mget mM ((if actOk (nth q.Acts k) (numB (nth E i).1) then actTo (nth q.Acts k) (numB (nth E i).1) else 0 : Nat) : Int)).getD (Way.mk 0 0 0)).By), I (((mget mM ((if actOk (nth q.Acts k) (numB (nth E i).1) then actTo (nth q.Acts k) (numB (nth E i).1) else 0 : Nat) : Int)).getD (Way.mk 0 0 0)).Long)] 73), blkE g70 (.cells #[u65n0, u65n1, u65n2, u65n3] 37), rdE u65n3 ((nth q.Acts k).Drop), rdE u65n2 ((nth q.Acts k).Add), rdE u65n1 ((nth q.Acts k).Bar), rdE u65n0 ((nth q.Acts k).Need), rowE 3 vM (numL EM : List Int), blkE g11 (.cells #[I ((questFault q).1), I ((questFault q).2)] 27), blkE g4 (.cells #[I (0), I (0)] 27), blkE g1 (.cells #[I (q.Facts), vf, vg, va] 25), rdE vf q.First, rdE vg q.Goal, rdE va q.Acts] H99 := hS100
      have hS101 : St H0 NoB (fun b => S b ∧ b < H0.size) [rdE v98 ([((if actOk (nth q.Acts k) (numB (nth E i).1) then actTo (nth q.Acts k) (numB (nth E i).1) else 0 : Nat) : Int)] : List Int), mapE r29 (mset mM ((if actOk (nth q.Acts k) (numB (nth E i).1) then actTo (nth q.Acts k) (numB (nth E i).1) else 0 : Nat) : Int) (Way.mk ((numB (nth E i).1 : Nat) : Int) (k : Int) ((((mget mM ((numB (nth E i).1 : Nat) : Int)).getD (Way.mk 0 0 0)).Long) + 1)) : List (Int × Way)), blkE g81 (.cells #[I (((mget mM ((if actOk (nth q.Acts k) (numB (nth E i).1) then actTo (nth q.Acts k) (numB (nth E i).1) else 0 : Nat) : Int)).getD (Way.mk 0 0 0)).From), I (((mget mM ((if actOk (nth q.Acts k) (numB (nth E i).1) then actTo (nth q.Acts k) (numB (nth E i).1) else 0 : Nat) : Int)).getD (Way.mk 0 0 0)).By), I (((mget mM ((if actOk (nth q.Acts k) (numB (nth E i).1) then actTo (nth q.Acts k) (numB (nth E i).1) else 0 : Nat) : Int)).getD (Way.mk 0 0 0)).Long)] 73), blkE g70 (.cells #[u65n0, u65n1, u65n2, u65n3] 37), rdE u65n3 ((nth q.Acts k).Drop), rdE u65n2 ((nth q.Acts k).Add), rdE u65n1 ((nth q.Acts k).Bar), rdE u65n0 ((nth q.Acts k).Need), rowE 3 vM (numL EM : List Int), blkE g11 (.cells #[I ((questFault q).1), I ((questFault q).2)] 27), blkE g4 (.cells #[I (0), I (0)] 27), blkE g1 (.cells #[I (q.Facts), vf, vg, va] 25), rdE vf q.First, rdE vg q.Goal, rdE va q.Acts] H99 := St.fin hS100
      have hS102 : St H0 NoB (fun b => S b ∧ b < H0.size) [rowE 3 vM (numL EM : List Int), rdE v98 ([((if actOk (nth q.Acts k) (numB (nth E i).1) then actTo (nth q.Acts k) (numB (nth E i).1) else 0 : Nat) : Int)] : List Int), mapE r29 (mset mM ((if actOk (nth q.Acts k) (numB (nth E i).1) then actTo (nth q.Acts k) (numB (nth E i).1) else 0 : Nat) : Int) (Way.mk ((numB (nth E i).1 : Nat) : Int) (k : Int) ((((mget mM ((numB (nth E i).1 : Nat) : Int)).getD (Way.mk 0 0 0)).Long) + 1)) : List (Int × Way)), blkE g81 (.cells #[I (((mget mM ((if actOk (nth q.Acts k) (numB (nth E i).1) then actTo (nth q.Acts k) (numB (nth E i).1) else 0 : Nat) : Int)).getD (Way.mk 0 0 0)).From), I (((mget mM ((if actOk (nth q.Acts k) (numB (nth E i).1) then actTo (nth q.Acts k) (numB (nth E i).1) else 0 : Nat) : Int)).getD (Way.mk 0 0 0)).By), I (((mget mM ((if actOk (nth q.Acts k) (numB (nth E i).1) then actTo (nth q.Acts k) (numB (nth E i).1) else 0 : Nat) : Int)).getD (Way.mk 0 0 0)).Long)] 73), blkE g70 (.cells #[u65n0, u65n1, u65n2, u65n3] 37), rdE u65n3 ((nth q.Acts k).Drop), rdE u65n2 ((nth q.Acts k).Add), rdE u65n1 ((nth q.Acts k).Bar), rdE u65n0 ((nth q.Acts k).Need), blkE g11 (.cells #[I ((questFault q).1), I ((questFault q).2)] 27), blkE g4 (.cells #[I (0), I (0)] 27), blkE g1 (.cells #[I (q.Facts), vf, vg, va] 25), rdE vf q.First, rdE vg q.Goal, rdE va q.Acts] H99 := (hS101.front 8 rfl)
      refine wpL_o rfl ?_
      refine e_append rfl Try.underlying22 em_Int_3_BestD1 rfl rfl hS102 (hS102.rdS 1 rfl) (fun _ h => h) (by have hb : GoT.bytes Int = 8 := rfl; simp [hb]; omega) (by decide) (fun v103 H104 hS105 hxx => ?_)
      replace hS105 : St H0 NoB (fun b => S b ∧ b < H0.size) [rowE 3 v103 ((numL EM) ++ ([((if actOk (nth q.Acts k) (numB (nth E i).1) then actTo (nth q.Acts k) (numB (nth E i).1) else 0 : Nat) : Int)]) : List Int), rdE v98 ([((if actOk (nth q.Acts k) (numB (nth E i).1) then actTo (nth q.Acts k) (numB (nth E i).1) else 0 : Nat) : Int)] : List Int), mapE r29 (mset mM ((if actOk (nth q.Acts k) (numB (nth E i).1) then actTo (nth q.Acts k) (numB (nth E i).1) else 0 : Nat) : Int) (Way.mk ((numB (nth E i).1 : Nat) : Int) (k : Int) ((((mget mM ((numB (nth E i).1 : Nat) : Int)).getD (Way.mk 0 0 0)).Long) + 1)) : List (Int × Way)), blkE g81 (.cells #[I (((mget mM ((if actOk (nth q.Acts k) (numB (nth E i).1) then actTo (nth q.Acts k) (numB (nth E i).1) else 0 : Nat) : Int)).getD (Way.mk 0 0 0)).From), I (((mget mM ((if actOk (nth q.Acts k) (numB (nth E i).1) then actTo (nth q.Acts k) (numB (nth E i).1) else 0 : Nat) : Int)).getD (Way.mk 0 0 0)).By), I (((mget mM ((if actOk (nth q.Acts k) (numB (nth E i).1) then actTo (nth q.Acts k) (numB (nth E i).1) else 0 : Nat) : Int)).getD (Way.mk 0 0 0)).Long)] 73), blkE g70 (.cells #[u65n0, u65n1, u65n2, u65n3] 37), rdE u65n3 ((nth q.Acts k).Drop), rdE u65n2 ((nth q.Acts k).Add), rdE u65n1 ((nth q.Acts k).Bar), rdE u65n0 ((nth q.Acts k).Need), blkE g11 (.cells #[I ((questFault q).1), I ((questFault q).2)] 27), blkE g4 (.cells #[I (0), I (0)] 27), blkE g1 (.cells #[I (q.Facts), vf, vg, va] 25), rdE vf q.First, rdE vg q.Goal, rdE va q.Acts] H104 := hS105
      have hS106 : St H0 NoB (fun b => S b ∧ b < H0.size) [rowE 3 v103 (numL (EM ++ [(afterA (nth q.Acts k) (nth E i).1, (nth E i).2 ++ [(k : Int)])]) : List Int), rdE v98 ([((if actOk (nth q.Acts k) (numB (nth E i).1) then actTo (nth q.Acts k) (numB (nth E i).1) else 0 : Nat) : Int)] : List Int), mapE r29 (mset mM ((if actOk (nth q.Acts k) (numB (nth E i).1) then actTo (nth q.Acts k) (numB (nth E i).1) else 0 : Nat) : Int) (Way.mk ((numB (nth E i).1 : Nat) : Int) (k : Int) ((((mget mM ((numB (nth E i).1 : Nat) : Int)).getD (Way.mk 0 0 0)).Long) + 1)) : List (Int × Way)), blkE g81 (.cells #[I (((mget mM ((if actOk (nth q.Acts k) (numB (nth E i).1) then actTo (nth q.Acts k) (numB (nth E i).1) else 0 : Nat) : Int)).getD (Way.mk 0 0 0)).From), I (((mget mM ((if actOk (nth q.Acts k) (numB (nth E i).1) then actTo (nth q.Acts k) (numB (nth E i).1) else 0 : Nat) : Int)).getD (Way.mk 0 0 0)).By), I (((mget mM ((if actOk (nth q.Acts k) (numB (nth E i).1) then actTo (nth q.Acts k) (numB (nth E i).1) else 0 : Nat) : Int)).getD (Way.mk 0 0 0)).Long)] 73), blkE g70 (.cells #[u65n0, u65n1, u65n2, u65n3] 37), rdE u65n3 ((nth q.Acts k).Drop), rdE u65n2 ((nth q.Acts k).Add), rdE u65n1 ((nth q.Acts k).Bar), rdE u65n0 ((nth q.Acts k).Need), blkE g11 (.cells #[I ((questFault q).1), I ((questFault q).2)] 27), blkE g4 (.cells #[I (0), I (0)] 27), blkE g1 (.cells #[I (q.Facts), vf, vg, va] 25), rdE vf q.First, rdE vg q.Goal, rdE va q.Acts] H104 := by rw [show (numL (EM ++ [(afterA (nth q.Acts k) (nth E i).1, (nth E i).2 ++ [(k : Int)])])) = ((numL EM) ++ ([((if actOk (nth q.Acts k) (numB (nth E i).1) then actTo (nth q.Acts k) (numB (nth E i).1) else 0 : Nat) : Int)])) from (by rw [numL_app]; exact congrArg (fun x => numL EM ++ [x]) hkey.symm)]; exact hS105
      refine wpL_q (U := NoB) rfl (q_assign (v := v103) rfl rfl) ?_
      exact ⟨v103, a97_1, a97_4, a97_6, a97_8, rfl, a97_10, a97_11, a97_61, a97_62, a97_63, (hS106.drop (sk (sn (sk (sk (sk (sk (sk (sk (sk (sk (sk (sk (sk (sk (sk (List.Sublist.slnil)))))))))))))))))⟩
    rintro f107 H107 ⟨v103, a107_1, a107_4, a107_6, a107_8, a107_9, a107_10, a107_11, a107_61, a107_62, a107_63, hS107⟩
    clear a97_1 a97_10 a97_11 a97_14 a97_4 a97_6 a97_61 a97_62 a97_63 a97_8 a97_9
    exact ⟨v103, EM ++ [(afterA (nth q.Acts k) (nth E i).1, (nth E i).2 ++ [(k : Int)])], mset mM ((if actOk (nth q.Acts k) (numB (nth E i).1) then actTo (nth q.Acts k) (numB (nth E i).1) else 0 : Nat) : Int) (Way.mk ((numB (nth E i).1 : Nat) : Int) (k : Int) ((((mget mM ((numB (nth E i).1 : Nat) : Int)).getD (Way.mk 0 0 0)).Long) + 1)), (by rw [List.length_append]; omega), ((nth_app_left' hi2).trans hnth), hN.2, (fun j hj => by rw [nth_app_left' (by omega)]; exact hno2 j hj), a107_1, a107_4, a107_6, a107_8, a107_9, a107_10, a107_11, a107_61, a107_62, a107_63, hS107⟩
  rintro f91 H91 ⟨vN, EN, mN, hi3, hnth3, hB4, hno3, a91_1, a91_4, a91_6, a91_8, a91_9, a91_10, a91_11, a91_61, a91_62, a91_63, hS91⟩
  clear a90_1 a90_10 a90_11 a90_12 a90_14 a90_4 a90_6 a90_61 a90_62 a90_63 a90_8 a90_84 a90_9
  refine wpF_cut (fun f H => f 1 = PT g1 0 ∧ f 4 = PT g4 0 ∧ f 6 = I (((bitsN q.Goal : Nat) : Int)) ∧ f 8 = (Value.map (some r29)) ∧ f 9 = vN ∧ f 10 = I ((i : Int)) ∧ f 11 = I (((numB (nth E i).1 : Nat) : Int)) ∧ f 61 = va ∧ f 62 = I ((q.Acts.length : Int)) ∧ f 63 = I ((k : Int) + 1) ∧ H91 = H) ?_ ?_
  · refine wpF_region ?_
    refine wpL_q (U := NoB) rfl (q_add rfl a91_63 rfl (by constructor <;> omega)) ?_
    refine wpL_q (U := NoB) rfl (q_move (v := I ((k : Int) + 1)) rfl rfl) ?_
    exact ⟨a91_1, a91_4, a91_6, a91_8, a91_9, a91_10, a91_11, a91_61, a91_62, rfl, rfl⟩
  rintro f109 _ ⟨a109_1, a109_4, a109_6, a109_8, a109_9, a109_10, a109_11, a109_61, a109_62, a109_63, rfl⟩
  clear a91_1 a91_10 a91_11 a91_4 a91_6 a91_61 a91_62 a91_63 a91_8 a91_9
  refine ⟨_, ?_, k + 1, vN, EN, mN, rfl, (by omega), hi3, hnth3, hB4, hno3, a109_1, a109_4, a109_6, a109_8, a109_9, a109_10, a109_11, a109_61, a109_62, (Eq.trans a109_63 (congrArg I (by omega))), (hS91.drop (sk (sk (sn (sn (sn (sn (sn (sn (sk (sk (sk (sk (sk (sk (List.Sublist.slnil))))))))))))))))⟩
  omega

end Go.Um
