import Derived.Test.YtpdcejallbbncaaProg
import Derived.Test.YtpdcejallbbncaaActC1
import Derived.Test.YtpdcejallbbncaaUmSub
namespace Go.Um
open Go.Proofs
open GoT (sz ag rdc)
open KeyT (kv)

theorem el_Act_37_ActW1 : ElT Try.prog Act 37 := ⟨Try.isAgg37, Try.sizeOf37⟩
theorem el_Int_3_ActW1 : ElT Try.prog Int 3 := ⟨Try.isAgg3, Try.sizeOf3⟩
theorem em_Bool_4_ActW1 : ElemOk Try.prog Bool 4 := ⟨Try.t4, (.bool false), by kernel_rfl, by kernel_rfl, by kernel_rfl, by kernel_rfl, by kernel_rfl⟩

set_option maxRecDepth 100000 in
theorem Walk_L {H0 : Heap} {S : Nat → Prop} (vf vg va vl : Value) (q : Quest) (plan : List Int) (h6qFacts : In64 q.Facts) (rvf : Rd S H0 vf q.First) (rvg : Rd S H0 vg q.Goal) (rva : Rd S H0 va q.Acts) (rl : Rd S H0 vl plan) : CallsH Try.prog 14 #[Value.agg #[I (q.Facts), vf, vg, va], vl] H0 (fun rv_ H' => Ext NoB H0 H' ∧ ∃ w0_, rv_ = Value.tuple #[w0_, B (walkOk q plan), Value.agg #[I (walkFault q plan).1, I (walkFault q plan).2]] ∧ Rd (fun b => S b ∧ b < H0.size) H' w0_ (walkNow q plan)) := by
  have hsl := (Rd.list.1 rl).small
  have hsa := (Rd.list.1 rva).small
  have hS0 : St H0 NoB (fun b => S b ∧ b < H0.size) [rdE vf q.First, rdE vg q.Goal, rdE va q.Acts, rdE vl plan] H0 := St.arg (St.arg (St.arg (St.arg (St.start (fun _ h => h.2)) (Bl0.nil) rl (fun _ h => h.1)) (Bl0.cons (Bl0.nil)) rva (fun _ h => h.1)) (Bl0.cons (Bl0.cons (Bl0.nil))) rvg (fun _ h => h.1)) (Bl0.cons (Bl0.cons (Bl0.cons (Bl0.nil)))) rvf (fun _ h => h.1)
  refine callsH_of_wpF (args := [Value.agg #[I (q.Facts), vf, vg, va], vl]) (rs := [.tmp 4, .tmp 5, .cell 6 27]) Try.func14 rfl Try.ntmps14 Try.results14 (by kernel_rfl) (Nat.le_of_ble_eq_true rfl) ?_
  have a0_0 : argF [Value.agg #[I (q.Facts), vf, vg, va], vl] 0 = Value.agg #[I (q.Facts), vf, vg, va] := rfl
  have a0_1 : argF [Value.agg #[I (q.Facts), vf, vg, va], vl] 1 = vl := rfl
  generalize argF [Value.agg #[I (q.Facts), vf, vg, va], vl] = f0 at *
  refine wpF_seq ?_
  refine wpF_cut (fun f H => ∃ (g1 : Nat), ∃ (g4 : Nat), f 1 = vl ∧ f 2 = PT g1 0 ∧ f 6 = PT g4 0 ∧ St H0 NoB (fun b => S b ∧ b < H0.size) [blkE g4 (.cells #[I (0), I (0)] 27), blkE g1 (.cells #[I (q.Facts), vf, vg, va] 25), rdE vf q.First, rdE vg q.Goal, rdE va q.Acts, rdE vl plan] H) ?_ ?_
  · refine wpF_region ?_
    refine wpL_o rfl ?_
    refine e_box (v := Value.agg #[I (q.Facts), vf, vg, va]) rfl a0_0 hS0 (fun g1 H2 hS3 hxx => ?_)
    replace hS3 : St H0 NoB (fun b => S b ∧ b < H0.size) [blkE g1 (.cells #[I (q.Facts), vf, vg, va] 25), rdE vf q.First, rdE vg q.Goal, rdE va q.Acts, rdE vl plan] H2 := hS3
    refine wpL_q (U := NoB) rfl (q_assign (v := (Value.slice none 0 0)) rfl rfl) ?_
    refine wpL_q (U := NoB) rfl (q_assign (v := B (false)) rfl rfl) ?_
    refine wpL_o rfl ?_
    refine e_alloc rfl Try.zeroValue27 hS3 (fun g4 H5 hS6 hxx => ?_)
    replace hS6 : St H0 NoB (fun b => S b ∧ b < H0.size) [blkE g4 (.cells #[I (0), I (0)] 27), blkE g1 (.cells #[I (q.Facts), vf, vg, va] 25), rdE vf q.First, rdE vg q.Goal, rdE va q.Acts, rdE vl plan] H5 := hS6
    exact ⟨g1, g4, a0_1, rfl, rfl, hS6⟩
  rintro f7 H7 ⟨g1, g4, a7_1, a7_2, a7_6, hS7⟩
  clear a0_0 a0_1
  refine wpF_seq ?_
  refine wpF_seq ?_
  refine wpF_cut (fun f H => ∃ (g11 : Nat), f 1 = vl ∧ f 2 = PT g1 0 ∧ f 6 = PT g4 0 ∧ f 7 = PT g11 0 ∧ St H0 NoB (fun b => S b ∧ b < H0.size) [blkE g11 (.cells #[I ((questFault q).1), I ((questFault q).2)] 27), blkE g4 (.cells #[I (0), I (0)] 27), blkE g1 (.cells #[I (q.Facts), vf, vg, va] 25), rdE vf q.First, rdE vg q.Goal, rdE va q.Acts, rdE vl plan] H) ?_ ?_
  · refine wpF_region ?_
    refine wpL_q (U := NoB) rfl (q_loadBlkA rfl a7_2 Try.isAgg25 Try.sizeOf25 rfl (hS7.blk 1 rfl) (fun h => h)) ?_
    refine wpL_o rfl ?_
    refine e_call rfl Try.call13 (arr1 (v0 := Value.agg #[I (q.Facts), vf, vg, va]) rfl) (Check_L vf vg va q (by first | assumption | (constructor <;> omega)) (hS7.rdN 2 rfl) (hS7.rdN 3 rfl) (hS7.rdN 4 rfl) ) ?_
    rintro _ H8 ⟨hxx, rfl⟩
    have hS9 : St H0 NoB (fun b => S b ∧ b < H0.size) [blkE g4 (.cells #[I (0), I (0)] 27), blkE g1 (.cells #[I (q.Facts), vf, vg, va] 25), rdE vf q.First, rdE vg q.Goal, rdE va q.Acts, rdE vl plan] H8 := hS7.ext hxx
    refine wpL_o rfl ?_
    refine e_alloc rfl Try.zeroValue27 hS9 (fun g11 H12 hS13 hxx => ?_)
    replace hS13 : St H0 NoB (fun b => S b ∧ b < H0.size) [blkE g11 (.cells #[I (0), I (0)] 27), blkE g4 (.cells #[I (0), I (0)] 27), blkE g1 (.cells #[I (q.Facts), vf, vg, va] 25), rdE vf q.First, rdE vg q.Goal, rdE va q.Acts, rdE vl plan] H12 := hS13
    refine wpL_o rfl ?_
    refine e_storeBlkA (cs' := #[I ((questFault q).1), I ((questFault q).2)]) rfl rfl rfl Try.sizeOf27 rfl rfl (List.forall_mem_cons.2 ⟨rfl, List.forall_mem_cons.2 ⟨rfl, List.forall_mem_nil _⟩⟩) hS13 (fun H14 hS15 hxx => ?_)
    replace hS15 : St H0 NoB (fun b => S b ∧ b < H0.size) [blkE g11 (.cells #[I ((questFault q).1), I ((questFault q).2)] 27), blkE g4 (.cells #[I (0), I (0)] 27), blkE g1 (.cells #[I (q.Facts), vf, vg, va] 25), rdE vf q.First, rdE vg q.Goal, rdE va q.Acts, rdE vl plan] H14 := hS15
    exact ⟨g11, a7_1, a7_2, a7_6, rfl, hS15⟩
  rintro f16 H16 ⟨g11, a16_1, a16_2, a16_6, a16_7, hS16⟩
  clear a7_1 a7_2 a7_6
  refine wpF_seq ?_
  refine wpF_cut (fun f H => f 1 = vl ∧ f 2 = PT g1 0 ∧ f 6 = PT g4 0 ∧ f 7 = PT g11 0 ∧ f 18 = B (decide (((questFault q).1) ≠ 0)) ∧ H16 = H) ?_ ?_
  · refine wpF_region ?_
    refine wpL_q (U := NoB) rfl (q_fieldAddr rfl Try.underlying27 rfl Try.sizeOf3 a16_7) ?_
    refine wpL_q (U := NoB) rfl (q_loadBlk rfl rfl Try.isAgg3 (hS16.blk 0 rfl) rfl (fun h => h)) ?_
    refine wpL_q (U := NoB) rfl (q_neq rfl rfl rfl) ?_
    exact ⟨a16_1, a16_2, a16_6, a16_7, rfl, rfl⟩
  rintro f17 _ ⟨a17_1, a17_2, a17_6, a17_7, a17_18, rfl⟩
  clear a16_1 a16_2 a16_6 a16_7
  refine wpF_condP a17_18 (fun h1 => ?t85) (fun h1 => ?e85)
  case t85 =>
    refine wpF_seq ?_
    refine wpF_cut (fun f H => f 4 = (Value.slice none 0 0) ∧ f 5 = B (false) ∧ f 6 = PT g4 0 ∧ St H0 NoB (fun b => S b ∧ b < H0.size) [blkE g4 (.cells #[I ((questFault q).1), I ((questFault q).2)] 27), blkE g11 (.cells #[I ((questFault q).1), I ((questFault q).2)] 27), blkE g1 (.cells #[I (q.Facts), vf, vg, va] 25), rdE vf q.First, rdE vg q.Goal, rdE va q.Acts, rdE vl plan] H) ?_ ?_
    · refine wpF_drawn [none, none, none, some 0] [[], [], [], []] (fun l b => match l with | 0 => True | _ => False) (by kernel_rfl) (by kernel_rfl) ?_
      refine wpR_q 0 (by kernel_rfl) rfl (quietAt rfl rfl (q_loadBlkA rfl a17_7 Try.isAgg27 Try.sizeOf27 rfl (hS16.blk 0 rfl) (labU_not [] rfl (List.forall_mem_nil _)))) ?_
      refine wpR_q 1 (by kernel_rfl) rfl (quietAt rfl rfl (q_assign (v := (Value.slice none 0 0)) rfl rfl)) ?_
      refine wpR_q 2 (by kernel_rfl) rfl (quietAt rfl rfl (q_assign (v := B (false)) rfl rfl)) ?_
      refine wpR_n [3] (by kernel_rfl) ?_
      refine List.forall_mem_cons.2 ⟨?_, List.forall_mem_nil _⟩
      refine exE rfl rfl ?_
      refine e_storeBlkA (cs' := #[I ((questFault q).1), I ((questFault q).2)]) rfl a17_6 rfl Try.sizeOf27 rfl rfl (List.forall_mem_cons.2 ⟨rfl, List.forall_mem_cons.2 ⟨rfl, List.forall_mem_nil _⟩⟩) (hS16.front 1 rfl) (fun H19o3 hS19o3 hxx => ?_)
      replace hS19o3 : St H0 NoB (fun b => S b ∧ b < H0.size) [blkE g4 (.cells #[I ((questFault q).1), I ((questFault q).2)] 27), blkE g11 (.cells #[I ((questFault q).1), I ((questFault q).2)] 27), blkE g1 (.cells #[I (q.Facts), vf, vg, va] 25), rdE vf q.First, rdE vg q.Goal, rdE va q.Acts, rdE vl plan] H19o3 := hS19o3
      refine ⟨Ext.mono hxx (labS_of 0 rfl (fun _ _ => trivial)), ?_⟩
      refine wpR_end (by kernel_rfl) ?_
      exact ⟨rfl, rfl, a17_6, hS19o3⟩
    rintro f20 H20 ⟨a20_4, a20_5, a20_6, hS20⟩
    clear a17_1 a17_18 a17_2 a17_6 a17_7
    refine wpF_ret ?_
    refine ⟨_, resT a20_4 (resT a20_5 (resC a20_6 (loadV_blkA Try.isAgg27 Try.sizeOf27 rfl (hS20.blk 0 rfl)) (resN))), hS20.frame, ?_⟩
    show ∃ w0_, (Value.tuple #[(Value.slice none 0 0), B (false), Value.agg #[I ((questFault q).1), I ((questFault q).2)]]) = Value.tuple #[w0_, B (walkOk q plan), Value.agg #[I (walkFault q plan).1, I (walkFault q plan).2]] ∧ Rd (fun b => S b ∧ b < H0.size) H20 w0_ (walkNow q plan)
    have hwf : walkFault q plan = _ := walk_quest (plan := plan) h1
    have hwb := walk_bad (q := q) (plan := plan) (by rw [hwf]; exact h1)
    exact ⟨(Value.slice none 0 0), by rw [hwb.2, hwf], by rw [hwb.1]; exact rdNil⟩
  have hQ := QW.of (Decidable.of_not_not h1)
  have hfx := hQ.facts
  refine wpF_skip ?_
  refine wpF_seq ?_
  refine wpF_seq ?_
  refine wpF_cut (fun f H => f 1 = vl ∧ f 2 = PT g1 0 ∧ f 6 = PT g4 0 ∧ f 22 = B (decide (20 < (plan.length : Int))) ∧ H16 = H) ?_ ?_
  · refine wpF_region ?_
    refine wpL_q (U := NoB) rfl (q_move (v := vl) rfl a17_1) ?_
    refine wpL_q (U := NoB) rfl (q_lenRd rfl Try.underlying22 rfl (hS16.rdl 6 rfl)) ?_
    refine wpL_q (U := NoB) rfl (q_gtr rfl rfl rfl) ?_
    exact ⟨a17_1, a17_2, a17_6, rfl, rfl⟩
  rintro f21 _ ⟨a21_1, a21_2, a21_6, a21_22, rfl⟩
  clear a17_1 a17_18 a17_2 a17_6 a17_7
  refine wpF_condP a21_22 (fun h2 => ?t84) (fun h2 => ?e84)
  case t84 =>
    refine wpF_seq ?_
    refine wpF_cut (fun f H => f 4 = (Value.slice none 0 0) ∧ f 5 = B (false) ∧ f 6 = PT g4 0 ∧ St H0 NoB (fun b => S b ∧ b < H0.size) [blkE g4 (.cells #[I (2), I (-2)] 27), blkE g11 (.cells #[I ((questFault q).1), I ((questFault q).2)] 27), blkE g1 (.cells #[I (q.Facts), vf, vg, va] 25), rdE vf q.First, rdE vg q.Goal, rdE va q.Acts, rdE vl plan] H) ?_ ?_
    · refine wpF_region ?_
      refine wpL_q (U := NoB) rfl (q_build (v := Value.agg #[I (2), I (-2)]) rfl (par2 (v0 := I (2)) (v1 := I (-2)) rfl rfl) (fun w => by kernel_rfl)) ?_
      refine wpL_q (U := NoB) rfl (q_assign (v := (Value.slice none 0 0)) rfl rfl) ?_
      refine wpL_q (U := NoB) rfl (q_assign (v := B (false)) rfl rfl) ?_
      refine wpL_o rfl ?_
      refine e_storeBlkA (cs' := #[I (2), I (-2)]) rfl a21_6 rfl Try.sizeOf27 rfl rfl (List.forall_mem_cons.2 ⟨rfl, List.forall_mem_cons.2 ⟨rfl, List.forall_mem_nil _⟩⟩) (hS16.front 1 rfl) (fun H23 hS24 hxx => ?_)
      replace hS24 : St H0 NoB (fun b => S b ∧ b < H0.size) [blkE g4 (.cells #[I (2), I (-2)] 27), blkE g11 (.cells #[I ((questFault q).1), I ((questFault q).2)] 27), blkE g1 (.cells #[I (q.Facts), vf, vg, va] 25), rdE vf q.First, rdE vg q.Goal, rdE va q.Acts, rdE vl plan] H23 := hS24
      exact ⟨rfl, rfl, a21_6, hS24⟩
    rintro f25 H25 ⟨a25_4, a25_5, a25_6, hS25⟩
    clear a21_1 a21_2 a21_22 a21_6
    refine wpF_ret ?_
    refine ⟨_, resT a25_4 (resT a25_5 (resC a25_6 (loadV_blkA Try.isAgg27 Try.sizeOf27 rfl (hS25.blk 0 rfl)) (resN))), hS25.frame, ?_⟩
    show ∃ w0_, (Value.tuple #[(Value.slice none 0 0), B (false), Value.agg #[I (2), I (-2)]]) = Value.tuple #[w0_, B (walkOk q plan), Value.agg #[I (walkFault q plan).1, I (walkFault q plan).2]] ∧ Rd (fun b => S b ∧ b < H0.size) H25 w0_ (walkNow q plan)
    have hwf : walkFault q plan = _ := walk_many h1 h2
    have hwb := walk_bad (q := q) (plan := plan) (by rw [hwf]; exact (by decide : (2 : Int) ≠ 0))
    exact ⟨(Value.slice none 0 0), by rw [hwb.2, hwf], by rw [hwb.1]; exact rdNil⟩
  refine wpF_skip ?_
  refine wpF_seq ?_
  refine wpF_cut (fun f H => f 1 = vl ∧ f 2 = PT g1 0 ∧ f 6 = PT g4 0 ∧ f 8 = I (((bitsN q.First : Nat) : Int)) ∧ St H0 NoB (fun b => S b ∧ b < H0.size) [blkE g11 (.cells #[I ((questFault q).1), I ((questFault q).2)] 27), blkE g4 (.cells #[I (0), I (0)] 27), blkE g1 (.cells #[I (q.Facts), vf, vg, va] 25), rdE vf q.First, rdE vg q.Goal, rdE va q.Acts, rdE vl plan] H) ?_ ?_
  · refine wpF_region ?_
    refine wpL_q (U := NoB) rfl (q_fieldAddr rfl Try.underlying25 rfl Try.sizeOf22 a21_2) ?_
    refine wpL_q (U := NoB) rfl (q_loadBlk rfl rfl Try.isAgg22 (hS16.blk 2 rfl) rfl (fun h => h)) ?_
    refine wpL_o rfl ?_
    refine e_call rfl Try.call44 (arr1 (v0 := vf) rfl) (Bits_L vf q.First (hS16.rdN 3 rfl) (fun x hx => act_mem hQ.first (by omega) hx)) ?_
    rintro _ H26 ⟨hxx, rfl⟩
    have hS27 : St H0 NoB (fun b => S b ∧ b < H0.size) [blkE g11 (.cells #[I ((questFault q).1), I ((questFault q).2)] 27), blkE g4 (.cells #[I (0), I (0)] 27), blkE g1 (.cells #[I (q.Facts), vf, vg, va] 25), rdE vf q.First, rdE vg q.Goal, rdE va q.Acts, rdE vl plan] H26 := hS16.ext hxx
    refine wpL_q (U := NoB) rfl (q_assign (v := I (((bitsN q.First : Nat) : Int))) rfl rfl) ?_
    exact ⟨a21_1, a21_2, a21_6, rfl, hS27⟩
  rintro f29 H29 ⟨a29_1, a29_2, a29_6, a29_8, hS29⟩
  clear a21_1 a21_2 a21_22 a21_6
  refine wpF_seq ?_
  refine wpF_seq ?_
  refine wpF_cut (fun f H => f 2 = PT g1 0 ∧ f 6 = PT g4 0 ∧ f 8 = I (((bitsN q.First : Nat) : Int)) ∧ f 27 = vl ∧ f 28 = I ((plan.length : Int)) ∧ f 29 = I (0) ∧ H29 = H) ?_ ?_
  · refine wpF_region ?_
    refine wpL_q (U := NoB) rfl (q_move (v := vl) rfl a29_1) ?_
    refine wpL_q (U := NoB) rfl (q_lenRd rfl Try.underlying22 rfl (hS29.rdl 6 rfl)) ?_
    refine wpL_q (U := NoB) rfl (q_move (v := I (0)) rfl rfl) ?_
    exact ⟨a29_2, a29_6, a29_8, rfl, rfl, rfl, rfl⟩
  rintro f30 _ ⟨a30_2, a30_6, a30_8, a30_27, a30_28, a30_29, rfl⟩
  clear a29_1 a29_2 a29_6 a29_8
  refine wpF_block ?_
  refine wpF_loop (fun mz f H => ∃ (k : Nat), ∃ (s : Nat), ∃ (now : List Bool), mz = plan.length - k ∧ (k ≤ plan.length) ∧ (walkR q 0 plan (firstL q) = walkR q k (plan.drop k) now) ∧ (Rep q.Facts.toNat s now) ∧ f 2 = PT g1 0 ∧ f 6 = PT g4 0 ∧ f 8 = I (((s : Nat) : Int)) ∧ f 27 = vl ∧ f 28 = I ((plan.length : Int)) ∧ f 29 = I ((k : Int)) ∧ St H0 NoB (fun b => S b ∧ b < H0.size) [blkE g11 (.cells #[I ((questFault q).1), I ((questFault q).2)] 27), blkE g4 (.cells #[I (0), I (0)] 27), blkE g1 (.cells #[I (q.Facts), vf, vg, va] 25), rdE vf q.First, rdE vg q.Goal, rdE va q.Acts, rdE vl plan] H) (plan.length - 0) ?_ ?_
  · exact ⟨0, bitsN q.First, firstL q, rfl, Nat.zero_le _, rfl, (Rep.first hQ), a30_2, a30_6, a30_8, a30_27, a30_28, (Eq.trans a30_29 (congrArg I (by omega))), hS29⟩
  intro m31 f31 H31 hI31
  obtain ⟨k, s, now, hm31, hk, hw, hr, a31_2, a31_6, a31_8, a31_27, a31_28, a31_29, hS31⟩ := hI31
  clear a30_2 a30_27 a30_28 a30_29 a30_6 a30_8
  refine wpF_seq ?_
  refine wpF_cut (fun f H => f 2 = PT g1 0 ∧ f 6 = PT g4 0 ∧ f 8 = I (((s : Nat) : Int)) ∧ f 27 = vl ∧ f 28 = I ((plan.length : Int)) ∧ f 29 = I ((k : Int)) ∧ f 30 = B (decide ((k : Int) < (plan.length : Int))) ∧ H31 = H) ?_ ?_
  · refine wpF_region ?_
    refine wpL_q (U := NoB) rfl (q_lss rfl a31_29 a31_28) ?_
    exact ⟨a31_2, a31_6, a31_8, a31_27, a31_28, a31_29, rfl, rfl⟩
  rintro f32 _ ⟨a32_2, a32_6, a32_8, a32_27, a32_28, a32_29, a32_30, rfl⟩
  clear a31_2 a31_27 a31_28 a31_29 a31_6 a31_8
  refine wpF_seq ?_
  refine wpF_condP a32_30 (fun hlt => ?t83) (fun hlt => ?e83)
  case e83 =>
    have hs6 := hr.lt (by omega)
    have hbg := bitsN_lt (l := q.Goal) (fun x hx => (act_mem hQ.goal (by omega) hx).2)
    refine wpF_exit ?_
    refine atX_here ?_
    refine wpF_seq ?_
    refine wpF_cut (fun f H => f 2 = PT g1 0 ∧ f 6 = PT g4 0 ∧ f 8 = I (((s : Nat) : Int)) ∧ f 12 = (Value.slice none 0 0) ∧ H31 = H) ?_ ?_
    · refine wpF_region ?_
      refine wpL_q (U := NoB) rfl (q_assign (v := (Value.slice none 0 0)) rfl rfl) ?_
      exact ⟨a32_2, a32_6, a32_8, rfl, rfl⟩
    rintro f61 _ ⟨a61_2, a61_6, a61_8, a61_12, rfl⟩
    clear a32_2 a32_27 a32_28 a32_29 a32_30 a32_6 a32_8
    have hS62 : St H0 NoB (fun b => S b ∧ b < H0.size) [rowE 4 (Value.slice none 0 0) ([] : List Bool), blkE g11 (.cells #[I ((questFault q).1), I ((questFault q).2)] 27), blkE g4 (.cells #[I (0), I (0)] 27), blkE g1 (.cells #[I (q.Facts), vf, vg, va] 25), rdE vf q.First, rdE vg q.Goal, rdE va q.Acts, rdE vl plan] H31 := hS31.row0 4
    refine wpF_seq ?_
    refine wpF_seq ?_
    refine wpF_cut (fun f H => f 2 = PT g1 0 ∧ f 6 = PT g4 0 ∧ f 8 = I (((s : Nat) : Int)) ∧ f 12 = (Value.slice none 0 0) ∧ f 61 = I (q.Facts) ∧ f 62 = I (0) ∧ H31 = H) ?_ ?_
    · refine wpF_region ?_
      refine wpL_q (U := NoB) rfl (q_fieldAddr rfl Try.underlying25 rfl Try.sizeOf3 a61_2) ?_
      refine wpL_q (U := NoB) rfl (q_loadBlk rfl rfl Try.isAgg3 (hS62.blk 3 rfl) rfl (fun h => h)) ?_
      refine wpL_q (U := NoB) rfl (q_move (v := I (0)) rfl rfl) ?_
      exact ⟨a61_2, a61_6, a61_8, a61_12, rfl, rfl, rfl⟩
    rintro f63 _ ⟨a63_2, a63_6, a63_8, a63_12, a63_61, a63_62, rfl⟩
    clear a61_12 a61_2 a61_6 a61_8
    refine wpF_block ?_
    refine wpF_loop (fun mz f H => ∃ (u : Nat), ∃ (vo : Value), mz = q.Facts.toNat - u ∧ (u ≤ q.Facts.toNat) ∧ f 2 = PT g1 0 ∧ f 6 = PT g4 0 ∧ f 8 = I (((s : Nat) : Int)) ∧ f 12 = vo ∧ f 61 = I (q.Facts) ∧ f 62 = I ((u : Int)) ∧ St H0 NoB (fun b => S b ∧ b < H0.size) [rowE 4 vo ((List.range u).map s.testBit : List Bool), blkE g11 (.cells #[I ((questFault q).1), I ((questFault q).2)] 27), blkE g4 (.cells #[I (0), I (0)] 27), blkE g1 (.cells #[I (q.Facts), vf, vg, va] 25), rdE vf q.First, rdE vg q.Goal, rdE va q.Acts, rdE vl plan] H) (q.Facts.toNat - 0) ?_ ?_
    · exact ⟨0, (Value.slice none 0 0), rfl, Nat.zero_le _, a63_2, a63_6, a63_8, a63_12, a63_61, (Eq.trans a63_62 (congrArg I (by omega))), (show St H0 NoB (fun b => S b ∧ b < H0.size) [rowE 4 (Value.slice none 0 0) ((List.range 0).map s.testBit : List Bool), blkE g11 (.cells #[I ((questFault q).1), I ((questFault q).2)] 27), blkE g4 (.cells #[I (0), I (0)] 27), blkE g1 (.cells #[I (q.Facts), vf, vg, va] 25), rdE vf q.First, rdE vg q.Goal, rdE va q.Acts, rdE vl plan] H31 from hS62)⟩
    intro m64 f64 H64 hI64
    obtain ⟨u, vo, hm64, hu, a64_2, a64_6, a64_8, a64_12, a64_61, a64_62, hS64⟩ := hI64
    clear a63_12 a63_2 a63_6 a63_61 a63_62 a63_8
    refine wpF_seq ?_
    refine wpF_cut (fun f H => f 2 = PT g1 0 ∧ f 6 = PT g4 0 ∧ f 8 = I (((s : Nat) : Int)) ∧ f 12 = vo ∧ f 61 = I (q.Facts) ∧ f 62 = I ((u : Int)) ∧ f 63 = B (decide ((u : Int) < q.Facts)) ∧ H64 = H) ?_ ?_
    · refine wpF_region ?_
      refine wpL_q (U := NoB) rfl (q_lss rfl a64_62 a64_61) ?_
      exact ⟨a64_2, a64_6, a64_8, a64_12, a64_61, a64_62, rfl, rfl⟩
    rintro f65 _ ⟨a65_2, a65_6, a65_8, a65_12, a65_61, a65_62, a65_63, rfl⟩
    clear a64_12 a64_2 a64_6 a64_61 a64_62 a64_8
    refine wpF_seq ?_
    refine wpF_condP a65_63 (fun hltu => ?t82) (fun hltu => ?e82)
    case t82 =>
      refine wpF_skip ?_
      refine wpF_seq ?_
      refine wpF_block ?_
      refine wpF_seq ?_
      refine wpF_cut (fun f H => f 2 = PT g1 0 ∧ f 6 = PT g4 0 ∧ f 8 = I (((s : Nat) : Int)) ∧ f 12 = vo ∧ f 13 = I ((u : Int)) ∧ f 61 = I (q.Facts) ∧ f 62 = I ((u : Int)) ∧ H64 = H) ?_ ?_
      · refine wpF_region ?_
        refine wpL_q (U := NoB) rfl (q_move (v := I ((u : Int))) rfl a65_62) ?_
        refine wpL_q (U := NoB) rfl (q_assign (v := I ((u : Int))) rfl rfl) ?_
        exact ⟨a65_2, a65_6, a65_8, a65_12, rfl, a65_61, a65_62, rfl⟩
      rintro f67 _ ⟨a67_2, a67_6, a67_8, a67_12, a67_13, a67_61, a67_62, rfl⟩
      clear a65_12 a65_2 a65_6 a65_61 a65_62 a65_63 a65_8
      refine wpF_cut (fun f H => ∃ (v73 : Value), f 2 = PT g1 0 ∧ f 6 = PT g4 0 ∧ f 8 = I (((s : Nat) : Int)) ∧ f 12 = v73 ∧ f 61 = I (q.Facts) ∧ f 62 = I ((u : Int)) ∧ St H0 NoB (fun b => S b ∧ b < H0.size) [rowE 4 v73 ((List.range (u + 1)).map s.testBit : List Bool), blkE g11 (.cells #[I ((questFault q).1), I ((questFault q).2)] 27), blkE g4 (.cells #[I (0), I (0)] 27), blkE g1 (.cells #[I (q.Facts), vf, vg, va] 25), rdE vf q.First, rdE vg q.Goal, rdE va q.Acts, rdE vl plan] H) ?_ ?_
      · refine wpF_region ?_
        refine wpL_q (U := NoB) rfl (q_move (v := vo) rfl a67_12) ?_
        refine wpL_q (U := NoB) rfl (q_move (v := I (((s : Nat) : Int))) rfl a67_8) ?_
        refine wpL_q (U := NoB) rfl (q_move (v := I ((u : Int))) rfl a67_13) ?_
        refine wpL_q (U := NoB) rfl (q_shrN (a := s) rfl rfl rfl (by omega) (by omega)) ?_
        refine wpL_q (U := NoB) rfl (q_andN (a := s >>> u) (b := 1) rfl rfl rfl (by first | omega | exact lt62_andNot (by omega) (by omega) | exact lt62_and (by omega) | exact shr_lt (by omega)) (by first | omega | exact lt62_andNot (by omega) (by omega) | exact lt62_and (by omega) | exact shr_lt (by omega))) ?_
        refine wpL_q (U := NoB) rfl (q_eql rfl rfl rfl) ?_
        refine wpL_o rfl ?_
        refine e_buildSlice (vs := [B (decide ((((s >>> u) &&& 1 : Nat) : Int) = 1))]) (xs := ([decide ((((s >>> u) &&& 1 : Nat) : Int) = 1)] : List Bool)) rfl Try.underlying29 Try.zeroValue4 rfl Try.sizeOf4 (par1 (v0 := B (decide ((((s >>> u) &&& 1 : Nat) : Int) = 1))) rfl) rfl hS64 (RdVs.cons (Rd.bool.2 rfl) (RdVs.nil)) (by decide) (by decide) (fun v68 H69 hS70 hxx hvv68 => ?_)
        replace hS70 : St H0 NoB (fun b => S b ∧ b < H0.size) [rowE 4 v68 ([decide ((((s >>> u) &&& 1 : Nat) : Int) = 1)] : List Bool), rowE 4 vo ((List.range u).map s.testBit : List Bool), blkE g11 (.cells #[I ((questFault q).1), I ((questFault q).2)] 27), blkE g4 (.cells #[I (0), I (0)] 27), blkE g1 (.cells #[I (q.Facts), vf, vg, va] 25), rdE vf q.First, rdE vg q.Goal, rdE va q.Acts, rdE vl plan] H69 := hS70
        have hS71 : St H0 NoB (fun b => S b ∧ b < H0.size) [rdE v68 ([decide ((((s >>> u) &&& 1 : Nat) : Int) = 1)] : List Bool), rowE 4 vo ((List.range u).map s.testBit : List Bool), blkE g11 (.cells #[I ((questFault q).1), I ((questFault q).2)] 27), blkE g4 (.cells #[I (0), I (0)] 27), blkE g1 (.cells #[I (q.Facts), vf, vg, va] 25), rdE vf q.First, rdE vg q.Goal, rdE va q.Acts, rdE vl plan] H69 := St.fin hS70
        have hS72 : St H0 NoB (fun b => S b ∧ b < H0.size) [rowE 4 vo ((List.range u).map s.testBit : List Bool), rdE v68 ([decide ((((s >>> u) &&& 1 : Nat) : Int) = 1)] : List Bool), blkE g11 (.cells #[I ((questFault q).1), I ((questFault q).2)] 27), blkE g4 (.cells #[I (0), I (0)] 27), blkE g1 (.cells #[I (q.Facts), vf, vg, va] 25), rdE vf q.First, rdE vg q.Goal, rdE va q.Acts, rdE vl plan] H69 := (hS71.front 1 rfl)
        refine wpL_o rfl ?_
        refine e_append rfl Try.underlying29 em_Bool_4_ActW1 rfl rfl hS72 (hS72.rdS 1 rfl) (fun _ h => h) (by have hb : GoT.bytes Bool = 1 := rfl; simp [hb]; omega) (by decide) (fun v73 H74 hS75 hxx => ?_)
        replace hS75 : St H0 NoB (fun b => S b ∧ b < H0.size) [rowE 4 v73 (((List.range u).map s.testBit) ++ ([decide ((((s >>> u) &&& 1 : Nat) : Int) = 1)]) : List Bool), rdE v68 ([decide ((((s >>> u) &&& 1 : Nat) : Int) = 1)] : List Bool), blkE g11 (.cells #[I ((questFault q).1), I ((questFault q).2)] 27), blkE g4 (.cells #[I (0), I (0)] 27), blkE g1 (.cells #[I (q.Facts), vf, vg, va] 25), rdE vf q.First, rdE vg q.Goal, rdE va q.Acts, rdE vl plan] H74 := hS75
        have hS76 : St H0 NoB (fun b => S b ∧ b < H0.size) [rowE 4 v73 ((List.range (u + 1)).map s.testBit : List Bool), rdE v68 ([decide ((((s >>> u) &&& 1 : Nat) : Int) = 1)] : List Bool), blkE g11 (.cells #[I ((questFault q).1), I ((questFault q).2)] 27), blkE g4 (.cells #[I (0), I (0)] 27), blkE g1 (.cells #[I (q.Facts), vf, vg, va] 25), rdE vf q.First, rdE vg q.Goal, rdE va q.Acts, rdE vl plan] H74 := by rw [show ((List.range (u + 1)).map s.testBit) = (((List.range u).map s.testBit) ++ ([decide ((((s >>> u) &&& 1 : Nat) : Int) = 1)])) from (by rw [bit_one, List.range_succ, List.map_append]; rfl)]; exact hS75
        refine wpL_q (U := NoB) rfl (q_assign (v := v73) rfl rfl) ?_
        exact ⟨v73, a67_2, a67_6, a67_8, rfl, a67_61, a67_62, (hS76.drop (sk (sn (sk (sk (sk (sk (sk (sk (sk (List.Sublist.slnil)))))))))))⟩
      rintro f77 H77 ⟨v73, a77_2, a77_6, a77_8, a77_12, a77_61, a77_62, hS77⟩
      clear a67_12 a67_13 a67_2 a67_6 a67_61 a67_62 a67_8
      refine wpF_cut (fun f H => f 2 = PT g1 0 ∧ f 6 = PT g4 0 ∧ f 8 = I (((s : Nat) : Int)) ∧ f 12 = v73 ∧ f 61 = I (q.Facts) ∧ f 62 = I ((u : Int) + 1) ∧ H77 = H) ?_ ?_
      · refine wpF_region ?_
        refine wpL_q (U := NoB) rfl (q_add rfl a77_62 rfl (by constructor <;> omega)) ?_
        refine wpL_q (U := NoB) rfl (q_move (v := I ((u : Int) + 1)) rfl rfl) ?_
        exact ⟨a77_2, a77_6, a77_8, a77_12, a77_61, rfl, rfl⟩
      rintro f78 _ ⟨a78_2, a78_6, a78_8, a78_12, a78_61, a78_62, rfl⟩
      clear a77_12 a77_2 a77_6 a77_61 a77_62 a77_8
      refine ⟨_, ?_, u + 1, v73, rfl, (by omega), a78_2, a78_6, a78_8, a78_12, a78_61, (Eq.trans a78_62 (congrArg I (by omega))), hS77⟩
      omega
    refine wpF_exit ?_
    refine atX_here ?_
    refine wpF_seq ?_
    refine wpF_cut (fun f H => f 4 = vo ∧ f 5 = B (decide (((s &&& (bitsN q.Goal) : Nat) : Int) = ((bitsN q.Goal : Nat) : Int))) ∧ f 6 = PT g4 0 ∧ St H0 NoB (fun b => S b ∧ b < H0.size) [blkE g4 (.cells #[I (0), I (0)] 27), rowE 4 vo ((List.range u).map s.testBit : List Bool), blkE g11 (.cells #[I ((questFault q).1), I ((questFault q).2)] 27), blkE g1 (.cells #[I (q.Facts), vf, vg, va] 25), rdE vf q.First, rdE vg q.Goal, rdE va q.Acts, rdE vl plan] H) ?_ ?_
    · refine wpF_drawn [none, none, none, none, none, none, none, none, none, none, none, none, none, some 0] [[], [], [], [], [], [], [], [], [], [], [], [], [], []] (fun l b => match l with | 0 => True | _ => False) (by kernel_rfl) (by kernel_rfl) ?_
      refine wpR_q 0 (by kernel_rfl) rfl (quietAt rfl rfl (q_move (v := vo) rfl a65_12)) ?_
      refine wpR_q 1 (by kernel_rfl) rfl (quietAt rfl rfl (q_move (v := I (((s : Nat) : Int))) rfl a65_8)) ?_
      refine wpR_q 2 (by kernel_rfl) rfl (quietAt rfl rfl (q_fieldAddr rfl Try.underlying25 rfl Try.sizeOf22 a65_2)) ?_
      refine wpR_q 3 (by kernel_rfl) rfl (quietAt rfl rfl (q_loadBlk rfl rfl Try.isAgg22 (hS64.blk 3 rfl) rfl (labU_not [] rfl (List.forall_mem_nil _)))) ?_
      refine wpR_q 6 (by kernel_rfl) rfl (quietAt rfl rfl (q_fieldAddr rfl Try.underlying25 rfl Try.sizeOf22 a65_2)) ?_
      refine wpR_q 7 (by kernel_rfl) rfl (quietAt rfl rfl (q_loadBlk rfl rfl Try.isAgg22 (hS64.blk 3 rfl) rfl (labU_not [] rfl (List.forall_mem_nil _)))) ?_
      refine wpR_q 10 (by kernel_rfl) rfl (quietAt rfl rfl (q_build (v := Value.agg #[I (0), I (0)]) rfl par0 (fun w => by kernel_rfl))) ?_
      refine wpR_n [4] (by kernel_rfl) ?_
      refine List.forall_mem_cons.2 ⟨?_, List.forall_mem_nil _⟩
      refine exE rfl rfl ?_
      refine e_call rfl Try.call44 (arr1 (v0 := vg) rfl) (Bits_L vg q.Goal (hS64.rdN 5 rfl) (fun x hx => act_mem hQ.goal (by omega) hx)) ?_
      rintro _ H79o4 ⟨hxx, rfl⟩
      have hS79o4 : St H0 NoB (fun b => S b ∧ b < H0.size) [rowE 4 vo ((List.range u).map s.testBit : List Bool), blkE g11 (.cells #[I ((questFault q).1), I ((questFault q).2)] 27), blkE g4 (.cells #[I (0), I (0)] 27), blkE g1 (.cells #[I (q.Facts), vf, vg, va] 25), rdE vf q.First, rdE vg q.Goal, rdE va q.Acts, rdE vl plan] H79o4 := hS64.ext hxx
      refine ⟨Ext.mono hxx (fun _ h => h.elim), ?_⟩
      refine wpR_q 5 (by kernel_rfl) rfl (quietAt rfl rfl (q_andN (a := s) (b := bitsN q.Goal) rfl rfl rfl (by first | omega | exact lt62_andNot (by omega) (by omega) | exact lt62_and (by omega) | exact shr_lt (by omega)) (by first | omega | exact lt62_andNot (by omega) (by omega) | exact lt62_and (by omega) | exact shr_lt (by omega)))) ?_
      refine wpR_n [8] (by kernel_rfl) ?_
      refine List.forall_mem_cons.2 ⟨?_, List.forall_mem_nil _⟩
      refine exE rfl rfl ?_
      refine e_call rfl Try.call44 (arr1 (v0 := vg) rfl) (Bits_L vg q.Goal (hS79o4.rdN 5 rfl) (fun x hx => act_mem hQ.goal (by omega) hx)) ?_
      rintro _ H79o8 ⟨hxx, rfl⟩
      have hS79o8 : St H0 NoB (fun b => S b ∧ b < H0.size) [rowE 4 vo ((List.range u).map s.testBit : List Bool), blkE g11 (.cells #[I ((questFault q).1), I ((questFault q).2)] 27), blkE g4 (.cells #[I (0), I (0)] 27), blkE g1 (.cells #[I (q.Facts), vf, vg, va] 25), rdE vf q.First, rdE vg q.Goal, rdE va q.Acts, rdE vl plan] H79o8 := hS79o4.ext hxx
      refine ⟨Ext.mono hxx (fun _ h => h.elim), ?_⟩
      refine wpR_q 9 (by kernel_rfl) rfl (quietAt rfl rfl (q_eql rfl rfl rfl)) ?_
      refine wpR_q 11 (by kernel_rfl) rfl (quietAt rfl rfl (q_assign (v := vo) rfl rfl)) ?_
      refine wpR_q 12 (by kernel_rfl) rfl (quietAt rfl rfl (q_assign (v := B (decide (((s &&& (bitsN q.Goal) : Nat) : Int) = ((bitsN q.Goal : Nat) : Int)))) rfl rfl)) ?_
      refine wpR_n [13] (by kernel_rfl) ?_
      refine List.forall_mem_cons.2 ⟨?_, List.forall_mem_nil _⟩
      refine exE rfl rfl ?_
      refine e_storeBlkA (cs' := #[I (0), I (0)]) rfl a65_6 rfl Try.sizeOf27 rfl rfl (List.forall_mem_cons.2 ⟨rfl, List.forall_mem_cons.2 ⟨rfl, List.forall_mem_nil _⟩⟩) (hS79o8.front 2 rfl) (fun H79o13 hS79o13 hxx => ?_)
      replace hS79o13 : St H0 NoB (fun b => S b ∧ b < H0.size) [blkE g4 (.cells #[I (0), I (0)] 27), rowE 4 vo ((List.range u).map s.testBit : List Bool), blkE g11 (.cells #[I ((questFault q).1), I ((questFault q).2)] 27), blkE g1 (.cells #[I (q.Facts), vf, vg, va] 25), rdE vf q.First, rdE vg q.Goal, rdE va q.Acts, rdE vl plan] H79o13 := hS79o13
      refine ⟨Ext.mono hxx (labS_of 0 rfl (fun _ _ => trivial)), ?_⟩
      refine wpR_end (by kernel_rfl) ?_
      exact ⟨rfl, rfl, a65_6, hS79o13⟩
    rintro f80 H80 ⟨a80_4, a80_5, a80_6, hS80⟩
    clear a65_12 a65_2 a65_6 a65_61 a65_62 a65_63 a65_8
    refine wpF_ret ?_
    refine ⟨_, resT a80_4 (resT a80_5 (resC a80_6 (loadV_blkA Try.isAgg27 Try.sizeOf27 rfl (hS80.blk 0 rfl)) (resN))), hS80.frame, ?_⟩
    show ∃ w0_, (Value.tuple #[vo, B (decide (((s &&& (bitsN q.Goal) : Nat) : Int) = ((bitsN q.Goal : Nat) : Int))), Value.agg #[I (0), I (0)]]) = Value.tuple #[w0_, B (walkOk q plan), Value.agg #[I (walkFault q plan).1, I (walkFault q plan).2]] ∧ Rd (fun b => S b ∧ b < H0.size) H80 w0_ (walkNow q plan)
    have hS81 : St H0 NoB (fun b => S b ∧ b < H0.size) [rdE vo ((List.range u).map s.testBit), blkE g4 (.cells #[I (0), I (0)] 27), blkE g11 (.cells #[I ((questFault q).1), I ((questFault q).2)] 27), blkE g1 (.cells #[I (q.Facts), vf, vg, va] 25), rdE vf q.First, rdE vg q.Goal, rdE va q.Acts, rdE vl plan] H80 := St.fin (hS80.front 1 rfl)
    have hg := walk_good h1 h2 (hw.trans (walkR_end (by omega)))
    have hue : u = q.Facts.toNat := by omega
    have hgo : goalA q now = decide (((s &&& (bitsN q.Goal) : Nat) : Int) = ((bitsN q.Goal : Nat) : Int)) := bool_congr_of ((hr.goal hQ.goal).symm.trans ⟨fun h => congrArg Int.ofNat h, fun h => Int.ofNat.inj h⟩)
    exact ⟨vo, by rw [hg.2.2, hg.1, hgo], by rw [hg.2.1, ← hr.out, ← hue]; exact (hS81.result (hS81.rdS 0 rfl))⟩
  have hs6 := hr.lt (by omega)
  refine wpF_skip ?_
  refine wpF_seq ?_
  refine wpF_block ?_
  refine wpF_seq ?_
  refine wpF_cut (fun f H => f 2 = PT g1 0 ∧ f 6 = PT g4 0 ∧ f 8 = I (((s : Nat) : Int)) ∧ f 9 = I ((k : Int)) ∧ f 10 = I (nth plan k) ∧ f 27 = vl ∧ f 28 = I ((plan.length : Int)) ∧ f 29 = I ((k : Int)) ∧ H31 = H) ?_ ?_
  · refine wpF_region ?_
    refine wpL_q (U := NoB) rfl (q_move (v := I ((k : Int))) rfl a32_29) ?_
    refine wpL_q (U := NoB) rfl (q_indexRd (k := k) rfl Try.underlying22 el_Int_3_ActW1 a32_27 a32_29 (hS31.rdl 6 rfl) (by omega) (by omega)) ?_
    refine wpL_q (U := NoB) rfl (q_loadInt (k := k) rfl rfl el_Int_3_ActW1 (hS31.rdl 6 rfl) (by omega) (fun _ h => h)) ?_
    refine wpL_q (U := NoB) rfl (q_assign (v := I ((k : Int))) rfl rfl) ?_
    refine wpL_q (U := NoB) rfl (q_assign (v := I (nth plan k)) rfl rfl) ?_
    exact ⟨a32_2, a32_6, a32_8, rfl, rfl, a32_27, a32_28, a32_29, rfl⟩
  rintro f34 _ ⟨a34_2, a34_6, a34_8, a34_9, a34_10, a34_27, a34_28, a34_29, rfl⟩
  clear a32_2 a32_27 a32_28 a32_29 a32_30 a32_6 a32_8
  refine wpF_seq ?_
  refine wpF_seq ?_
  refine wpF_cut (fun f H => f 2 = PT g1 0 ∧ f 6 = PT g4 0 ∧ f 8 = I (((s : Nat) : Int)) ∧ f 9 = I ((k : Int)) ∧ f 10 = I (nth plan k) ∧ f 27 = vl ∧ f 28 = I ((plan.length : Int)) ∧ f 29 = I ((k : Int)) ∧ f 42 = B (decide (((nth plan k) < 0) ∨ ((q.Acts.length : Int) ≤ (nth plan k)))) ∧ H31 = H) ?_ ?_
  · refine wpF_region ?_
    refine wpL_q (U := NoB) rfl (q_move (v := I (nth plan k)) rfl a34_10) ?_
    refine wpL_q (U := NoB) rfl (q_lss rfl rfl rfl) ?_
    refine wpL_q (U := NoB) rfl (q_move (v := B (decide ((nth plan k) < 0))) rfl rfl) ?_
    by_cases hg35 : (nth plan k) < 0
    · have hb36 := Eq.trans rfl (congrArg B (decide_eq_true hg35))
      refine wpL_gs rfl rfl rfl hb36 rfl ?_
      refine wpL_gs rfl rfl rfl hb36 rfl ?_
      refine wpL_gs rfl rfl rfl hb36 rfl ?_
      refine wpL_gs rfl rfl rfl hb36 rfl ?_
      refine wpL_gs rfl rfl rfl hb36 rfl ?_
      refine wpL_q (U := NoB) rfl (q_pickT (v := B (true)) rfl hb36 rfl) ?_
      exact ⟨a34_2, a34_6, a34_8, a34_9, a34_10, a34_27, a34_28, a34_29, (Eq.trans rfl (congrArg B ((decide_eq_true (Or.inl hg35)).symm))), rfl⟩
    · have hb37 := Eq.trans rfl (congrArg B (decide_eq_false hg35))
      refine wpL_gq (U := NoB) rfl rfl rfl hb37 (q_move (v := I (nth plan k)) rfl a34_10) ?_
      refine wpL_gq (U := NoB) rfl rfl rfl hb37 (q_fieldAddr rfl Try.underlying25 rfl Try.sizeOf23 a34_2) ?_
      refine wpL_gq (U := NoB) rfl rfl rfl hb37 (q_loadBlk rfl rfl Try.isAgg23 (hS31.blk 2 rfl) rfl (fun h => h)) ?_
      refine wpL_gq (U := NoB) rfl rfl rfl hb37 (q_lenRd rfl Try.underlying23 rfl (hS31.rdl 5 rfl)) ?_
      refine wpL_gq (U := NoB) rfl rfl rfl hb37 (q_geq rfl rfl rfl) ?_
      refine wpL_q (U := NoB) rfl (q_pickF (v := B (decide ((q.Acts.length : Int) ≤ (nth plan k)))) rfl hb37 rfl) ?_
      exact ⟨a34_2, a34_6, a34_8, a34_9, a34_10, a34_27, a34_28, a34_29, (Eq.trans rfl (congrArg B (decide_congr_of ((Iff.rfl).trans (((or_iff_right hg35).trans Iff.rfl)).symm)))), rfl⟩
  rintro f38 _ ⟨a38_2, a38_6, a38_8, a38_9, a38_10, a38_27, a38_28, a38_29, a38_42, rfl⟩
  clear a34_10 a34_2 a34_27 a34_28 a34_29 a34_6 a34_8 a34_9
  refine wpF_condP a38_42 (fun hrng => ?t60) (fun hrng => ?e60)
  case t60 =>
    refine wpF_seq ?_
    refine wpF_cut (fun f H => f 4 = (Value.slice none 0 0) ∧ f 5 = B (false) ∧ f 6 = PT g4 0 ∧ St H0 NoB (fun b => S b ∧ b < H0.size) [blkE g4 (.cells #[I (3), I ((k : Int))] 27), blkE g11 (.cells #[I ((questFault q).1), I ((questFault q).2)] 27), blkE g1 (.cells #[I (q.Facts), vf, vg, va] 25), rdE vf q.First, rdE vg q.Goal, rdE va q.Acts, rdE vl plan] H) ?_ ?_
    · refine wpF_region ?_
      refine wpL_q (U := NoB) rfl (q_move (v := I ((k : Int))) rfl a38_9) ?_
      refine wpL_q (U := NoB) rfl (q_build (v := Value.agg #[I (3), I ((k : Int))]) rfl (par2 (v0 := I (3)) (v1 := I ((k : Int))) rfl rfl) (fun w => by kernel_rfl)) ?_
      refine wpL_q (U := NoB) rfl (q_assign (v := (Value.slice none 0 0)) rfl rfl) ?_
      refine wpL_q (U := NoB) rfl (q_assign (v := B (false)) rfl rfl) ?_
      refine wpL_o rfl ?_
      refine e_storeBlkA (cs' := #[I (3), I ((k : Int))]) rfl a38_6 rfl Try.sizeOf27 rfl rfl (List.forall_mem_cons.2 ⟨rfl, List.forall_mem_cons.2 ⟨rfl, List.forall_mem_nil _⟩⟩) (hS31.front 1 rfl) (fun H40 hS41 hxx => ?_)
      replace hS41 : St H0 NoB (fun b => S b ∧ b < H0.size) [blkE g4 (.cells #[I (3), I ((k : Int))] 27), blkE g11 (.cells #[I ((questFault q).1), I ((questFault q).2)] 27), blkE g1 (.cells #[I (q.Facts), vf, vg, va] 25), rdE vf q.First, rdE vg q.Goal, rdE va q.Acts, rdE vl plan] H40 := hS41
      exact ⟨rfl, rfl, a38_6, hS41⟩
    rintro f42 H42 ⟨a42_4, a42_5, a42_6, hS42⟩
    clear a38_10 a38_2 a38_27 a38_28 a38_29 a38_42 a38_6 a38_8 a38_9
    refine wpF_ret ?_
    refine ⟨_, resT a42_4 (resT a42_5 (resC a42_6 (loadV_blkA Try.isAgg27 Try.sizeOf27 rfl (hS42.blk 0 rfl)) (resN))), hS42.frame, ?_⟩
    show ∃ w0_, (Value.tuple #[(Value.slice none 0 0), B (false), Value.agg #[I (3), I ((k : Int))]]) = Value.tuple #[w0_, B (walkOk q plan), Value.agg #[I (walkFault q plan).1, I (walkFault q plan).2]] ∧ Rd (fun b => S b ∧ b < H0.size) H42 w0_ (walkNow q plan)
    have hwf : walkFault q plan = _ := walk_run h1 h2 (hw.trans (walkR_range (by omega) (by omega)))
    have hwb := walk_bad (q := q) (plan := plan) (by rw [hwf]; exact (by decide : (3 : Int) ≠ 0))
    exact ⟨(Value.slice none 0 0), by rw [hwb.2, hwf], by rw [hwb.1]; exact rdNil⟩
  have hfk := hQ.form (nth plan k).toNat (by omega)
  refine wpF_skip ?_
  refine wpF_seq ?_
  refine wpF_cut (fun f H => f 2 = PT g1 0 ∧ f 6 = PT g4 0 ∧ f 8 = I (((s : Nat) : Int)) ∧ f 9 = I ((k : Int)) ∧ f 10 = I (nth plan k) ∧ f 27 = vl ∧ f 28 = I ((plan.length : Int)) ∧ f 29 = I ((k : Int)) ∧ H31 = H) ?_ ?_
  · refine wpF_region ?_
    refine wpL_q (U := NoB) rfl (q_assign (v := B (false)) rfl rfl) ?_
    exact ⟨a38_2, a38_6, a38_8, a38_9, a38_10, a38_27, a38_28, a38_29, rfl⟩
  rintro f43 _ ⟨a43_2, a43_6, a43_8, a43_9, a43_10, a43_27, a43_28, a43_29, rfl⟩
  clear a38_10 a38_2 a38_27 a38_28 a38_29 a38_42 a38_6 a38_8 a38_9
  refine wpF_seq ?_
  refine wpF_cut (fun f H => f 2 = PT g1 0 ∧ f 6 = PT g4 0 ∧ f 8 = I (((if actOk (nth q.Acts ((nth plan k).toNat)) s then actTo (nth q.Acts ((nth plan k).toNat)) s else 0 : Nat) : Int)) ∧ f 9 = I ((k : Int)) ∧ f 11 = B (decide (actOk (nth q.Acts ((nth plan k).toNat)) s)) ∧ f 27 = vl ∧ f 28 = I ((plan.length : Int)) ∧ f 29 = I ((k : Int)) ∧ St H0 NoB (fun b => S b ∧ b < H0.size) [blkE g11 (.cells #[I ((questFault q).1), I ((questFault q).2)] 27), blkE g4 (.cells #[I (0), I (0)] 27), blkE g1 (.cells #[I (q.Facts), vf, vg, va] 25), rdE vf q.First, rdE vg q.Goal, rdE va q.Acts, rdE vl plan] H) ?_ ?_
  · refine wpF_region ?_
    refine wpL_q (U := NoB) rfl (q_fieldAddr rfl Try.underlying25 rfl Try.sizeOf23 a43_2) ?_
    refine wpL_q (U := NoB) rfl (q_loadBlk rfl rfl Try.isAgg23 (hS31.blk 2 rfl) rfl (fun h => h)) ?_
    refine wpL_q (U := NoB) rfl (q_move (v := I (nth plan k)) rfl a43_10) ?_
    refine wpL_q (U := NoB) rfl (q_indexRd (k := (nth plan k).toNat) rfl Try.underlying23 el_Act_37_ActW1 rfl rfl (hS31.rdl 5 rfl) (by omega) (by omega)) ?_
    obtain ⟨u44, huu44, hlu44⟩ := (Rd.list.1 (hS31.rdS 5 rfl)).elem ((nth plan k).toNat) (by omega)
    obtain ⟨u44n0, u44n1, u44n2, u44n3, rfl, hu440, hu441, hu442, hu443⟩ := Rd.act.1 huu44
    have hS45 : St H0 NoB (fun b => S b ∧ b < H0.size) [rdE u44n0 ((nth q.Acts ((nth plan k).toNat)).Need), blkE g11 (.cells #[I ((questFault q).1), I ((questFault q).2)] 27), blkE g4 (.cells #[I (0), I (0)] 27), blkE g1 (.cells #[I (q.Facts), vf, vg, va] 25), rdE vf q.First, rdE vg q.Goal, rdE va q.Acts, rdE vl plan] H31 := hS31.rd hu440
    have hS46 : St H0 NoB (fun b => S b ∧ b < H0.size) [rdE u44n1 ((nth q.Acts ((nth plan k).toNat)).Bar), rdE u44n0 ((nth q.Acts ((nth plan k).toNat)).Need), blkE g11 (.cells #[I ((questFault q).1), I ((questFault q).2)] 27), blkE g4 (.cells #[I (0), I (0)] 27), blkE g1 (.cells #[I (q.Facts), vf, vg, va] 25), rdE vf q.First, rdE vg q.Goal, rdE va q.Acts, rdE vl plan] H31 := hS45.rd (hu441.sub fun _ hb => SL_rd hb)
    have hS47 : St H0 NoB (fun b => S b ∧ b < H0.size) [rdE u44n2 ((nth q.Acts ((nth plan k).toNat)).Add), rdE u44n1 ((nth q.Acts ((nth plan k).toNat)).Bar), rdE u44n0 ((nth q.Acts ((nth plan k).toNat)).Need), blkE g11 (.cells #[I ((questFault q).1), I ((questFault q).2)] 27), blkE g4 (.cells #[I (0), I (0)] 27), blkE g1 (.cells #[I (q.Facts), vf, vg, va] 25), rdE vf q.First, rdE vg q.Goal, rdE va q.Acts, rdE vl plan] H31 := hS46.rd (hu442.sub fun _ hb => SL_rd (SL_rd (hb)))
    have hS48 : St H0 NoB (fun b => S b ∧ b < H0.size) [rdE u44n3 ((nth q.Acts ((nth plan k).toNat)).Drop), rdE u44n2 ((nth q.Acts ((nth plan k).toNat)).Add), rdE u44n1 ((nth q.Acts ((nth plan k).toNat)).Bar), rdE u44n0 ((nth q.Acts ((nth plan k).toNat)).Need), blkE g11 (.cells #[I ((questFault q).1), I ((questFault q).2)] 27), blkE g4 (.cells #[I (0), I (0)] 27), blkE g1 (.cells #[I (q.Facts), vf, vg, va] 25), rdE vf q.First, rdE vg q.Goal, rdE va q.Acts, rdE vl plan] H31 := hS47.rd (hu443.sub fun _ hb => SL_rd (SL_rd (SL_rd (hb))))
    refine wpL_q (U := NoB) rfl (q_loadE rfl rfl (hlu44 Try.prog 37 _ el_Act_37_ActW1 (fun _ h => False.elim h))) ?_
    refine wpL_q (U := NoB) rfl (q_move (v := I (((s : Nat) : Int))) rfl a43_8) ?_
    refine wpL_o rfl ?_
    refine e_call rfl Try.call45 (arr2 (v0 := Value.agg #[u44n0, u44n1, u44n2, u44n3]) (v1 := I (((s : Nat) : Int))) rfl rfl) (Apply_L u44n0 u44n1 u44n2 u44n3 (nth q.Acts ((nth plan k).toNat)) s (hS48.rdN 3 rfl) (hS48.rdN 2 rfl) (hS48.rdN 1 rfl) (hS48.rdN 0 rfl) hfk (by omega) hs6) ?_
    rintro _ H49 ⟨hxx, rfl⟩
    have hS50 : St H0 NoB (fun b => S b ∧ b < H0.size) [rdE u44n3 ((nth q.Acts ((nth plan k).toNat)).Drop), rdE u44n2 ((nth q.Acts ((nth plan k).toNat)).Add), rdE u44n1 ((nth q.Acts ((nth plan k).toNat)).Bar), rdE u44n0 ((nth q.Acts ((nth plan k).toNat)).Need), blkE g11 (.cells #[I ((questFault q).1), I ((questFault q).2)] 27), blkE g4 (.cells #[I (0), I (0)] 27), blkE g1 (.cells #[I (q.Facts), vf, vg, va] 25), rdE vf q.First, rdE vg q.Goal, rdE va q.Acts, rdE vl plan] H49 := hS48.ext hxx
    refine wpL_q (U := NoB) rfl (q_move (v := Value.tuple #[I (((if actOk (nth q.Acts ((nth plan k).toNat)) s then actTo (nth q.Acts ((nth plan k).toNat)) s else 0 : Nat) : Int)), B (decide (actOk (nth q.Acts ((nth plan k).toNat)) s))]) rfl rfl) ?_
    refine wpL_q (U := NoB) rfl (q_extract (vs := #[I (((if actOk (nth q.Acts ((nth plan k).toNat)) s then actTo (nth q.Acts ((nth plan k).toNat)) s else 0 : Nat) : Int)), B (decide (actOk (nth q.Acts ((nth plan k).toNat)) s))]) (v := I (((if actOk (nth q.Acts ((nth plan k).toNat)) s then actTo (nth q.Acts ((nth plan k).toNat)) s else 0 : Nat) : Int))) rfl rfl rfl) ?_
    refine wpL_q (U := NoB) rfl (q_extract (vs := #[I (((if actOk (nth q.Acts ((nth plan k).toNat)) s then actTo (nth q.Acts ((nth plan k).toNat)) s else 0 : Nat) : Int)), B (decide (actOk (nth q.Acts ((nth plan k).toNat)) s))]) (v := B (decide (actOk (nth q.Acts ((nth plan k).toNat)) s))) rfl rfl rfl) ?_
    refine wpL_q (U := NoB) rfl (q_assign (v := I (((if actOk (nth q.Acts ((nth plan k).toNat)) s then actTo (nth q.Acts ((nth plan k).toNat)) s else 0 : Nat) : Int))) rfl rfl) ?_
    refine wpL_q (U := NoB) rfl (q_assign (v := B (decide (actOk (nth q.Acts ((nth plan k).toNat)) s))) rfl rfl) ?_
    exact ⟨a43_2, a43_6, rfl, a43_9, rfl, a43_27, a43_28, a43_29, (hS50.drop (sn (sn (sn (sn (sk (sk (sk (sk (sk (sk (sk (List.Sublist.slnil)))))))))))))⟩
  rintro f52 H52 ⟨a52_2, a52_6, a52_8, a52_9, a52_11, a52_27, a52_28, a52_29, hS52⟩
  clear a43_10 a43_2 a43_27 a43_28 a43_29 a43_6 a43_8 a43_9
  refine wpF_seq ?_
  refine wpF_cut (fun f H => f 2 = PT g1 0 ∧ f 6 = PT g4 0 ∧ f 8 = I (((if actOk (nth q.Acts ((nth plan k).toNat)) s then actTo (nth q.Acts ((nth plan k).toNat)) s else 0 : Nat) : Int)) ∧ f 9 = I ((k : Int)) ∧ f 27 = vl ∧ f 28 = I ((plan.length : Int)) ∧ f 29 = I ((k : Int)) ∧ f 56 = B (decide (¬ (actOk (nth q.Acts ((nth plan k).toNat)) s))) ∧ H52 = H) ?_ ?_
  · refine wpF_region ?_
    refine wpL_q (U := NoB) rfl (q_move (v := B (decide (actOk (nth q.Acts ((nth plan k).toNat)) s))) rfl a52_11) ?_
    refine wpL_q (U := NoB) rfl (q_notP rfl rfl) ?_
    exact ⟨a52_2, a52_6, a52_8, a52_9, a52_27, a52_28, a52_29, rfl, rfl⟩
  rintro f53 _ ⟨a53_2, a53_6, a53_8, a53_9, a53_27, a53_28, a53_29, a53_56, rfl⟩
  clear a52_11 a52_2 a52_27 a52_28 a52_29 a52_6 a52_8 a52_9
  refine wpF_condP a53_56 (fun hcan => ?t59) (fun hcan => ?e59)
  case e59 =>
    refine wpF_skip ?_
    refine wpF_cut (fun f H => f 2 = PT g1 0 ∧ f 6 = PT g4 0 ∧ f 8 = I (((if actOk (nth q.Acts ((nth plan k).toNat)) s then actTo (nth q.Acts ((nth plan k).toNat)) s else 0 : Nat) : Int)) ∧ f 27 = vl ∧ f 28 = I ((plan.length : Int)) ∧ f 29 = I ((k : Int) + 1) ∧ H52 = H) ?_ ?_
    · refine wpF_region ?_
      refine wpL_q (U := NoB) rfl (q_add rfl a53_29 rfl (by constructor <;> omega)) ?_
      refine wpL_q (U := NoB) rfl (q_move (v := I ((k : Int) + 1)) rfl rfl) ?_
      exact ⟨a53_2, a53_6, a53_8, a53_27, a53_28, rfl, rfl⟩
    rintro f58 _ ⟨a58_2, a58_6, a58_8, a58_27, a58_28, a58_29, rfl⟩
    clear a53_2 a53_27 a53_28 a53_29 a53_56 a53_6 a53_8 a53_9
    have hok : actOk (nth q.Acts (nth plan k).toNat) s := by simpa using hcan
    refine ⟨_, ?_, k + 1, if actOk (nth q.Acts ((nth plan k).toNat)) s then actTo (nth q.Acts ((nth plan k).toNat)) s else 0, afterA (nth q.Acts (nth plan k).toNat) now, rfl, (by omega), (hw.trans (walkR_step (by omega) (by omega) ((hr.can hfk).1 hok))), (by rw [if_pos hok]; exact hr.after hfk), a58_2, a58_6, a58_8, a58_27, a58_28, (Eq.trans a58_29 (congrArg I (by omega))), hS52⟩
    omega
  refine wpF_seq ?_
  refine wpF_cut (fun f H => f 4 = (Value.slice none 0 0) ∧ f 5 = B (false) ∧ f 6 = PT g4 0 ∧ St H0 NoB (fun b => S b ∧ b < H0.size) [blkE g4 (.cells #[I (11), I ((k : Int))] 27), blkE g11 (.cells #[I ((questFault q).1), I ((questFault q).2)] 27), blkE g1 (.cells #[I (q.Facts), vf, vg, va] 25), rdE vf q.First, rdE vg q.Goal, rdE va q.Acts, rdE vl plan] H) ?_ ?_
  · refine wpF_region ?_
    refine wpL_q (U := NoB) rfl (q_move (v := I ((k : Int))) rfl a53_9) ?_
    refine wpL_q (U := NoB) rfl (q_build (v := Value.agg #[I (11), I ((k : Int))]) rfl (par2 (v0 := I (11)) (v1 := I ((k : Int))) rfl rfl) (fun w => by kernel_rfl)) ?_
    refine wpL_q (U := NoB) rfl (q_assign (v := (Value.slice none 0 0)) rfl rfl) ?_
    refine wpL_q (U := NoB) rfl (q_assign (v := B (false)) rfl rfl) ?_
    refine wpL_o rfl ?_
    refine e_storeBlkA (cs' := #[I (11), I ((k : Int))]) rfl a53_6 rfl Try.sizeOf27 rfl rfl (List.forall_mem_cons.2 ⟨rfl, List.forall_mem_cons.2 ⟨rfl, List.forall_mem_nil _⟩⟩) (hS52.front 1 rfl) (fun H55 hS56 hxx => ?_)
    replace hS56 : St H0 NoB (fun b => S b ∧ b < H0.size) [blkE g4 (.cells #[I (11), I ((k : Int))] 27), blkE g11 (.cells #[I ((questFault q).1), I ((questFault q).2)] 27), blkE g1 (.cells #[I (q.Facts), vf, vg, va] 25), rdE vf q.First, rdE vg q.Goal, rdE va q.Acts, rdE vl plan] H55 := hS56
    exact ⟨rfl, rfl, a53_6, hS56⟩
  rintro f57 H57 ⟨a57_4, a57_5, a57_6, hS57⟩
  clear a53_2 a53_27 a53_28 a53_29 a53_56 a53_6 a53_8 a53_9
  refine wpF_ret ?_
  refine ⟨_, resT a57_4 (resT a57_5 (resC a57_6 (loadV_blkA Try.isAgg27 Try.sizeOf27 rfl (hS57.blk 0 rfl)) (resN))), hS57.frame, ?_⟩
  show ∃ w0_, (Value.tuple #[(Value.slice none 0 0), B (false), Value.agg #[I (11), I ((k : Int))]]) = Value.tuple #[w0_, B (walkOk q plan), Value.agg #[I (walkFault q plan).1, I (walkFault q plan).2]] ∧ Rd (fun b => S b ∧ b < H0.size) H57 w0_ (walkNow q plan)
  have hwf : walkFault q plan = _ := walk_run h1 h2 (hw.trans (walkR_state (by omega) (by omega) (fun h => hcan ((hr.can hfk).2 h))))
  have hwb := walk_bad (q := q) (plan := plan) (by rw [hwf]; exact (by decide : (11 : Int) ≠ 0))
  exact ⟨(Value.slice none 0 0), by rw [hwb.2, hwf], by rw [hwb.1]; exact rdNil⟩

end Go.Um
