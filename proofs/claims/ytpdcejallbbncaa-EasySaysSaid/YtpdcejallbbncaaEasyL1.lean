import Derived.Test.YtpdcejallbbncaaProg
import Derived.Test.YtpdcejallbbncaaActC1
import Derived.Test.YtpdcejallbbncaaEasyPlain
namespace Go.Um
open Go.Proofs
open GoT (sz ag rdc)
open KeyT (kv)

theorem el_Act_37_EasyL1 : ElT Try.prog Act 37 := ⟨Try.isAgg37, Try.sizeOf37⟩
theorem el_Int_3_EasyL1 : ElT Try.prog Int 3 := ⟨Try.isAgg3, Try.sizeOf3⟩
theorem em_Int_3_EasyL1 : ElemOk Try.prog Int 3 := ⟨Try.t3, (.int .i64 0), by kernel_rfl, by kernel_rfl, by kernel_rfl, by kernel_rfl, by kernel_rfl⟩

set_option maxRecDepth 100000 in
theorem Levels_1 {H0 : Heap} (x : Int) (g1 g2 : Nat) (vo : Value) (M : List Int) (n : Int) (hb : H0[g1]? = some (.cells #[vo] 22)) (hb2 : H0[g2]? = some (.cells #[I n] 3)) (ro : Rd NoB H0 vo M) (hx : 0 ≤ x ∧ x < (M.length : Int)) : CallsH Try.prog 47 #[I (x), PT g1 0, PT g2 0] H0 (fun rv_ H' => Ext NoB H0 H' ∧ rv_ = B (decide (nth M x.toNat < 0 ∨ n ≤ nth M x.toNat))) := by
  have hS0 : St H0 NoB NoB [fixE g1 (.cells #[vo] 22), fixE g2 (.cells #[I (n)] 3), rdE vo (M : List Int)] H0 := St.argFix (St.argFix (St.arg (St.start (fun _ h => h.elim)) (Bl0.nil) ro (fun _ h => h)) (Bl0.cons (Bl0.nil)) hb2 (fun h => h)) (Bl0.consF (Bl0.cons (Bl0.nil))) hb (fun h => h)
  refine callsH_of_wpF (args := [I (x), PT g1 0, PT g2 0]) (rs := [.tmp 4]) Try.func47 rfl Try.ntmps47 Try.results47 (by kernel_rfl) (Nat.le_of_ble_eq_true rfl) ?_
  have a0_0 : argF [I (x), PT g1 0, PT g2 0] 0 = I (x) := rfl
  have a0_1 : argF [I (x), PT g1 0, PT g2 0] 1 = PT g1 0 := rfl
  have a0_2 : argF [I (x), PT g1 0, PT g2 0] 2 = PT g2 0 := rfl
  generalize argF [I (x), PT g1 0, PT g2 0] = f0 at *
  refine wpF_seq ?_
  refine wpF_cut (fun f H => f 0 = I (x) ∧ f 1 = PT g1 0 ∧ f 2 = PT g2 0 ∧ H0 = H) ?_ ?_
  · refine wpF_region ?_
    refine wpL_q (U := NoB) rfl (q_assign (v := B (false)) rfl rfl) ?_
    exact ⟨a0_0, a0_1, a0_2, rfl⟩
  rintro f1 _ ⟨a1_0, a1_1, a1_2, rfl⟩
  clear a0_0 a0_1 a0_2
  refine wpF_seq ?_
  refine wpF_cut (fun f H => f 4 = B (decide (((nth M ((x).toNat)) < 0) ∨ (n ≤ (nth M ((x).toNat))))) ∧ H0 = H) ?_ ?_
  · refine wpF_drawn [] [] (fun _ _ => False) (by kernel_rfl) (by kernel_rfl) ?_
    refine wpR_q 0 (by kernel_rfl) rfl (quietAt rfl rfl (q_loadBlk rfl a1_1 Try.isAgg22 (hS0.fixd 0 rfl) rfl (labU_not [] rfl (List.forall_mem_nil _)))) ?_
    refine wpR_q 1 (by kernel_rfl) rfl (quietAt rfl rfl (q_move (v := I (x)) rfl a1_0)) ?_
    refine wpR_q 2 (by kernel_rfl) rfl (quietAt rfl rfl (q_indexRd (k := (x).toNat) rfl Try.underlying22 el_Int_3_EasyL1 rfl rfl (hS0.rdl 2 rfl) (by omega) (by omega))) ?_
    refine wpR_q 3 (by kernel_rfl) rfl (quietAt rfl rfl (q_loadInt (k := (x).toNat) rfl rfl el_Int_3_EasyL1 (hS0.rdl 2 rfl) (by omega) (labU_sub [] rfl (List.forall_mem_nil _)))) ?_
    refine wpR_q 4 (by kernel_rfl) rfl (quietAt rfl rfl (q_lss rfl rfl rfl)) ?_
    refine wpR_q 5 (by kernel_rfl) rfl (quietAt rfl rfl (q_move (v := B (decide ((nth M ((x).toNat)) < 0))) rfl rfl)) ?_
    by_cases hg3 : (nth M ((x).toNat)) < 0
    · have hb4 := Eq.trans rfl (congrArg B (decide_eq_true hg3))
      refine wpR_q 6 (by kernel_rfl) rfl (quietAt_s rfl rfl rfl rfl hb4 rfl) ?_
      refine wpR_q 7 (by kernel_rfl) rfl (quietAt_s rfl rfl rfl rfl hb4 rfl) ?_
      refine wpR_q 8 (by kernel_rfl) rfl (quietAt_s rfl rfl rfl rfl hb4 rfl) ?_
      refine wpR_q 9 (by kernel_rfl) rfl (quietAt_s rfl rfl rfl rfl hb4 rfl) ?_
      refine wpR_q 10 (by kernel_rfl) rfl (quietAt_s rfl rfl rfl rfl hb4 rfl) ?_
      refine wpR_q 11 (by kernel_rfl) rfl (quietAt_s rfl rfl rfl rfl hb4 rfl) ?_
      refine wpR_q 12 (by kernel_rfl) rfl (quietAt rfl rfl (q_pickT (v := B (true)) rfl hb4 rfl)) ?_
      refine wpR_q 13 (by kernel_rfl) rfl (quietAt rfl rfl (q_assign (v := B (true)) rfl rfl)) ?_
      refine wpR_end (by kernel_rfl) ?_
      exact ⟨(Eq.trans rfl (congrArg B ((decide_eq_true (Or.inl hg3)).symm))), rfl⟩
    · have hb5 := Eq.trans rfl (congrArg B (decide_eq_false hg3))
      refine wpR_q 6 (by kernel_rfl) rfl (quietAt_g rfl rfl rfl rfl hb5 (q_loadBlk rfl a1_1 Try.isAgg22 (hS0.fixd 0 rfl) rfl (labU_not [] rfl (List.forall_mem_nil _)))) ?_
      refine wpR_q 7 (by kernel_rfl) rfl (quietAt_g rfl rfl rfl rfl hb5 (q_move (v := I (x)) rfl a1_0)) ?_
      refine wpR_q 8 (by kernel_rfl) rfl (quietAt_g rfl rfl rfl rfl hb5 (q_indexRd (k := (x).toNat) rfl Try.underlying22 el_Int_3_EasyL1 rfl rfl (hS0.rdl 2 rfl) (by omega) (by omega))) ?_
      refine wpR_q 9 (by kernel_rfl) rfl (quietAt_g rfl rfl rfl rfl hb5 (q_loadInt (k := (x).toNat) rfl rfl el_Int_3_EasyL1 (hS0.rdl 2 rfl) (by omega) (labU_sub [] rfl (List.forall_mem_nil _)))) ?_
      refine wpR_q 10 (by kernel_rfl) rfl (quietAt_g rfl rfl rfl rfl hb5 (q_loadBlk rfl a1_2 Try.isAgg3 (hS0.fixd 1 rfl) rfl (labU_not [] rfl (List.forall_mem_nil _)))) ?_
      refine wpR_q 11 (by kernel_rfl) rfl (quietAt_g rfl rfl rfl rfl hb5 (q_geq rfl rfl rfl)) ?_
      refine wpR_q 12 (by kernel_rfl) rfl (quietAt rfl rfl (q_pickF (v := B (decide (n ≤ (nth M ((x).toNat))))) rfl hb5 rfl)) ?_
      refine wpR_q 13 (by kernel_rfl) rfl (quietAt rfl rfl (q_assign (v := B (decide (n ≤ (nth M ((x).toNat))))) rfl rfl)) ?_
      refine wpR_end (by kernel_rfl) ?_
      exact ⟨(Eq.trans rfl (congrArg B (decide_congr_of ((Iff.rfl).trans (((or_iff_right hg3).trans Iff.rfl)).symm)))), rfl⟩
  rintro f6 _ ⟨a6_4, rfl⟩
  clear a1_0 a1_1 a1_2
  refine wpF_ret ?_
  refine ⟨_, resT a6_4 resN, hS0.frame, ?_⟩
  show (B (decide (((nth M ((x).toNat)) < 0) ∨ (n ≤ (nth M ((x).toNat)))))) = B (decide (nth M x.toNat < 0 ∨ n ≤ nth M x.toNat))
  rfl

set_option maxHeartbeats 2000000 in
set_option maxRecDepth 100000 in
theorem Levels_L {H0 : Heap} {S : Nat → Prop} (vf vg va : Value) (q : Quest) (h6qFacts : In64 q.Facts) (rvf : Rd S H0 vf q.First) (rvg : Rd S H0 vg q.Goal) (rva : Rd S H0 va q.Acts) : CallsH Try.prog 23 #[Value.agg #[I (q.Facts), vf, vg, va]] H0 (fun rv_ H' => Ext NoB H0 H' ∧ ∃ w0_, rv_ = Value.tuple #[w0_, Value.agg #[I (questFault q).1, I (questFault q).2]] ∧ Rd (fun b => S b ∧ b < H0.size) H' w0_ (levelsOut q)) := by
  have hsf := (Rd.list.1 rvf).small
  have hsa := (Rd.list.1 rva).small
  have hS0 : St H0 NoB (fun b => S b ∧ b < H0.size) [rdE vf (q.First : List Int), rdE vg (q.Goal : List Int), rdE va (q.Acts : List Act)] H0 := St.arg (St.arg (St.arg (St.start (fun _ h => h.2)) (Bl0.nil) rva (fun _ h => h.1)) (Bl0.cons (Bl0.nil)) rvg (fun _ h => h.1)) (Bl0.cons (Bl0.cons (Bl0.nil))) rvf (fun _ h => h.1)
  refine callsH_of_wpF (args := [Value.agg #[I (q.Facts), vf, vg, va]]) (rs := [.tmp 2, .cell 3 27]) Try.func23 rfl Try.ntmps23 Try.results23 (by kernel_rfl) (Nat.le_of_ble_eq_true rfl) ?_
  have a0_0 : argF [Value.agg #[I (q.Facts), vf, vg, va]] 0 = Value.agg #[I (q.Facts), vf, vg, va] := rfl
  generalize argF [Value.agg #[I (q.Facts), vf, vg, va]] = f0 at *
  refine wpF_seq ?_
  refine wpF_cut (fun f H => ∃ (g1 : Nat), ∃ (g4 : Nat), f 1 = PT g1 0 ∧ f 3 = PT g4 0 ∧ St H0 NoB (fun b => S b ∧ b < H0.size) [blkE g4 (.cells #[I (0), I (0)] 27), blkE g1 (.cells #[I (q.Facts), vf, vg, va] 25), rdE vf (q.First : List Int), rdE vg (q.Goal : List Int), rdE va (q.Acts : List Act)] H) ?_ ?_
  · refine wpF_region ?_
    refine wpL_o rfl ?_
    refine e_box (v := Value.agg #[I (q.Facts), vf, vg, va]) rfl a0_0 hS0 (fun g1 H2 hS3 hxx => ?_)
    replace hS3 : St H0 NoB (fun b => S b ∧ b < H0.size) [blkE g1 (.cells #[I (q.Facts), vf, vg, va] 25), rdE vf (q.First : List Int), rdE vg (q.Goal : List Int), rdE va (q.Acts : List Act)] H2 := hS3
    refine wpL_q (U := NoB) rfl (q_assign (v := (Value.slice none 0 0)) rfl rfl) ?_
    refine wpL_o rfl ?_
    refine e_alloc rfl Try.zeroValue27 hS3 (fun g4 H5 hS6 hxx => ?_)
    replace hS6 : St H0 NoB (fun b => S b ∧ b < H0.size) [blkE g4 (.cells #[I (0), I (0)] 27), blkE g1 (.cells #[I (q.Facts), vf, vg, va] 25), rdE vf (q.First : List Int), rdE vg (q.Goal : List Int), rdE va (q.Acts : List Act)] H5 := hS6
    exact ⟨g1, g4, rfl, rfl, hS6⟩
  rintro f7 H7 ⟨g1, g4, a7_1, a7_3, hS7⟩
  clear a0_0
  refine wpF_seq ?_
  refine wpF_seq ?_
  refine wpF_cut (fun f H => ∃ (g11 : Nat), f 1 = PT g1 0 ∧ f 3 = PT g4 0 ∧ f 4 = PT g11 0 ∧ St H0 NoB (fun b => S b ∧ b < H0.size) [blkE g11 (.cells #[I ((questFault q).1), I ((questFault q).2)] 27), blkE g4 (.cells #[I (0), I (0)] 27), blkE g1 (.cells #[I (q.Facts), vf, vg, va] 25), rdE vf (q.First : List Int), rdE vg (q.Goal : List Int), rdE va (q.Acts : List Act)] H) ?_ ?_
  · refine wpF_region ?_
    refine wpL_q (U := NoB) rfl (q_loadBlkA rfl a7_1 Try.isAgg25 Try.sizeOf25 rfl (hS7.blk 1 rfl) (fun h => h)) ?_
    refine wpL_o rfl ?_
    refine e_call rfl Try.call13 (arr1 (v0 := Value.agg #[I (q.Facts), vf, vg, va]) rfl) (Check_L vf vg va q (by first | assumption | (constructor <;> omega)) (hS7.rdN 2 rfl) (hS7.rdN 3 rfl) (hS7.rdN 4 rfl) ) ?_
    rintro _ H8 ⟨hxx, rfl⟩
    have hS9 : St H0 NoB (fun b => S b ∧ b < H0.size) [blkE g4 (.cells #[I (0), I (0)] 27), blkE g1 (.cells #[I (q.Facts), vf, vg, va] 25), rdE vf (q.First : List Int), rdE vg (q.Goal : List Int), rdE va (q.Acts : List Act)] H8 := hS7.ext hxx
    refine wpL_o rfl ?_
    refine e_alloc rfl Try.zeroValue27 hS9 (fun g11 H12 hS13 hxx => ?_)
    replace hS13 : St H0 NoB (fun b => S b ∧ b < H0.size) [blkE g11 (.cells #[I (0), I (0)] 27), blkE g4 (.cells #[I (0), I (0)] 27), blkE g1 (.cells #[I (q.Facts), vf, vg, va] 25), rdE vf (q.First : List Int), rdE vg (q.Goal : List Int), rdE va (q.Acts : List Act)] H12 := hS13
    refine wpL_o rfl ?_
    refine e_storeBlkA (cs' := #[I ((questFault q).1), I ((questFault q).2)]) rfl rfl rfl Try.sizeOf27 rfl rfl (List.forall_mem_cons.2 ⟨rfl, List.forall_mem_cons.2 ⟨rfl, List.forall_mem_nil _⟩⟩) hS13 (fun H14 hS15 hxx => ?_)
    replace hS15 : St H0 NoB (fun b => S b ∧ b < H0.size) [blkE g11 (.cells #[I ((questFault q).1), I ((questFault q).2)] 27), blkE g4 (.cells #[I (0), I (0)] 27), blkE g1 (.cells #[I (q.Facts), vf, vg, va] 25), rdE vf (q.First : List Int), rdE vg (q.Goal : List Int), rdE va (q.Acts : List Act)] H14 := hS15
    exact ⟨g11, a7_1, a7_3, rfl, hS15⟩
  rintro f16 H16 ⟨g11, a16_1, a16_3, a16_4, hS16⟩
  clear a7_1 a7_3
  refine wpF_seq ?_
  refine wpF_cut (fun f H => f 1 = PT g1 0 ∧ f 3 = PT g4 0 ∧ f 4 = PT g11 0 ∧ f 19 = B (decide (((questFault q).1) ≠ 0)) ∧ H16 = H) ?_ ?_
  · refine wpF_region ?_
    refine wpL_q (U := NoB) rfl (q_fieldAddr rfl Try.underlying27 rfl Try.sizeOf3 a16_4) ?_
    refine wpL_q (U := NoB) rfl (q_loadBlk rfl rfl Try.isAgg3 (hS16.blk 0 rfl) rfl (fun h => h)) ?_
    refine wpL_q (U := NoB) rfl (q_neq rfl rfl rfl) ?_
    exact ⟨a16_1, a16_3, a16_4, rfl, rfl⟩
  rintro f17 _ ⟨a17_1, a17_3, a17_4, a17_19, rfl⟩
  clear a16_1 a16_3 a16_4
  refine wpF_condP a17_19 (fun h1 => ?t116) (fun h1 => ?e116)
  case t116 =>
    refine wpF_seq ?_
    refine wpF_cut (fun f H => f 2 = (Value.slice none 0 0) ∧ f 3 = PT g4 0 ∧ St H0 NoB (fun b => S b ∧ b < H0.size) [blkE g4 (.cells #[I ((questFault q).1), I ((questFault q).2)] 27), blkE g11 (.cells #[I ((questFault q).1), I ((questFault q).2)] 27), blkE g1 (.cells #[I (q.Facts), vf, vg, va] 25), rdE vf (q.First : List Int), rdE vg (q.Goal : List Int), rdE va (q.Acts : List Act)] H) ?_ ?_
    · refine wpF_drawn [none, none, some 0] [[], [], []] (fun l b => match l with | 0 => True | _ => False) (by kernel_rfl) (by kernel_rfl) ?_
      refine wpR_q 0 (by kernel_rfl) rfl (quietAt rfl rfl (q_loadBlkA rfl a17_4 Try.isAgg27 Try.sizeOf27 rfl (hS16.blk 0 rfl) (labU_not [] rfl (List.forall_mem_nil _)))) ?_
      refine wpR_q 1 (by kernel_rfl) rfl (quietAt rfl rfl (q_assign (v := (Value.slice none 0 0)) rfl rfl)) ?_
      refine wpR_n [2] (by kernel_rfl) ?_
      refine List.forall_mem_cons.2 ⟨?_, List.forall_mem_nil _⟩
      refine exE rfl rfl ?_
      refine e_storeBlkA (cs' := #[I ((questFault q).1), I ((questFault q).2)]) rfl a17_3 rfl Try.sizeOf27 rfl rfl (List.forall_mem_cons.2 ⟨rfl, List.forall_mem_cons.2 ⟨rfl, List.forall_mem_nil _⟩⟩) (hS16.front 1 rfl) (fun H19o2 hS19o2 hxx => ?_)
      replace hS19o2 : St H0 NoB (fun b => S b ∧ b < H0.size) [blkE g4 (.cells #[I ((questFault q).1), I ((questFault q).2)] 27), blkE g11 (.cells #[I ((questFault q).1), I ((questFault q).2)] 27), blkE g1 (.cells #[I (q.Facts), vf, vg, va] 25), rdE vf (q.First : List Int), rdE vg (q.Goal : List Int), rdE va (q.Acts : List Act)] H19o2 := hS19o2
      refine ⟨Ext.mono hxx (labS_of 0 rfl (fun _ _ => trivial)), ?_⟩
      refine wpR_end (by kernel_rfl) ?_
      exact ⟨rfl, a17_3, hS19o2⟩
    rintro f20 H20 ⟨a20_2, a20_3, hS20⟩
    clear a17_1 a17_19 a17_3 a17_4
    refine wpF_ret ?_
    refine ⟨_, resT a20_2 (resC a20_3 (loadV_blkA Try.isAgg27 Try.sizeOf27 rfl (hS20.blk 0 rfl)) (resN)), hS20.frame, ?_⟩
    show ∃ w0_, (Value.tuple #[(Value.slice none 0 0), Value.agg #[I ((questFault q).1), I ((questFault q).2)]]) = Value.tuple #[w0_, Value.agg #[I (questFault q).1, I (questFault q).2]] ∧ Rd (fun b => S b ∧ b < H0.size) H20 w0_ (levelsOut q)
    exact ⟨(Value.slice none 0 0), rfl, by rw [levelsOut, if_pos h1]; exact rdNil⟩
  have hQ := QW.of (Decidable.of_not_not h1)
  have hfx := hQ.facts
  refine wpF_skip ?_
  refine wpF_seq ?_
  refine wpF_cut (fun f H => ∃ (v21 : Value), ∃ (g24 : Nat), f 1 = PT g1 0 ∧ f 3 = PT g4 0 ∧ f 5 = PT g24 0 ∧ St H0 NoB (fun b => S b ∧ b < H0.size) [blkE g24 (.cells #[v21] 22), rowE 3 v21 (List.replicate ((q.Facts).toNat) (0 : Int) : List Int), blkE g11 (.cells #[I ((questFault q).1), I ((questFault q).2)] 27), blkE g4 (.cells #[I (0), I (0)] 27), blkE g1 (.cells #[I (q.Facts), vf, vg, va] 25), rdE vf (q.First : List Int), rdE vg (q.Goal : List Int), rdE va (q.Acts : List Act)] H) ?_ ?_
  · refine wpF_region ?_
    refine wpL_q (U := NoB) rfl (q_fieldAddr rfl Try.underlying25 rfl Try.sizeOf3 a17_1) ?_
    refine wpL_q (U := NoB) rfl (q_loadBlk rfl rfl Try.isAgg3 (hS16.blk 2 rfl) rfl (fun h => h)) ?_
    refine wpL_o rfl ?_
    refine e_makeSlice (n := (q.Facts).toNat) (x0 := ((0 : Int) : Int)) rfl Try.underlying22 Try.zeroValue3 em_Int_3_EasyL1 Try.sizeOf3 rfl rfl (by omega) (fun _ _ => Rd.int.2 ⟨rfl, by decide⟩) hS16 (by have hb : GoT.bytes Int = 8 := rfl; rw [hb]; omega) (by omega) (fun v21 H22 hS23 hxx => ?_)
    replace hS23 : St H0 NoB (fun b => S b ∧ b < H0.size) [rowE 3 v21 (List.replicate ((q.Facts).toNat) (0 : Int) : List Int), blkE g11 (.cells #[I ((questFault q).1), I ((questFault q).2)] 27), blkE g4 (.cells #[I (0), I (0)] 27), blkE g1 (.cells #[I (q.Facts), vf, vg, va] 25), rdE vf (q.First : List Int), rdE vg (q.Goal : List Int), rdE va (q.Acts : List Act)] H22 := hS23
    refine wpL_o rfl ?_
    refine e_alloc rfl Try.zeroValue22 hS23 (fun g24 H25 hS26 hxx => ?_)
    replace hS26 : St H0 NoB (fun b => S b ∧ b < H0.size) [blkE g24 (.cells #[(Value.slice none 0 0)] 22), rowE 3 v21 (List.replicate ((q.Facts).toNat) (0 : Int) : List Int), blkE g11 (.cells #[I ((questFault q).1), I ((questFault q).2)] 27), blkE g4 (.cells #[I (0), I (0)] 27), blkE g1 (.cells #[I (q.Facts), vf, vg, va] 25), rdE vf (q.First : List Int), rdE vg (q.Goal : List Int), rdE va (q.Acts : List Act)] H25 := hS26
    refine wpL_o rfl ?_
    refine e_storeBlk (v := v21) rfl rfl rfl (oneCell_rdL (hS26.rowl 1 rfl)) Try.sizeOf22 (by show _ < 1; decide) hS26 (fun H27 hS28 hxx => ?_)
    replace hS28 : St H0 NoB (fun b => S b ∧ b < H0.size) [blkE g24 (.cells #[v21] 22), rowE 3 v21 (List.replicate ((q.Facts).toNat) (0 : Int) : List Int), blkE g11 (.cells #[I ((questFault q).1), I ((questFault q).2)] 27), blkE g4 (.cells #[I (0), I (0)] 27), blkE g1 (.cells #[I (q.Facts), vf, vg, va] 25), rdE vf (q.First : List Int), rdE vg (q.Goal : List Int), rdE va (q.Acts : List Act)] H27 := hS28
    exact ⟨v21, g24, a17_1, a17_3, rfl, hS28⟩
  rintro f29 H29 ⟨v21, g24, a29_1, a29_3, a29_5, hS29⟩
  clear a17_1 a17_19 a17_3 a17_4
  refine wpF_seq ?_
  refine wpF_seq ?_
  have hlr : (List.replicate q.Facts.toNat (0 : Int)).length = q.Facts.toNat := List.length_replicate
  refine wpF_cut (fun f H => f 1 = PT g1 0 ∧ f 3 = PT g4 0 ∧ f 5 = PT g24 0 ∧ f 25 = I (((List.replicate ((q.Facts).toNat) (0 : Int)).length : Int)) ∧ f 26 = I (0) ∧ H29 = H) ?_ ?_
  · refine wpF_region ?_
    refine wpL_q (U := NoB) rfl (q_loadBlk rfl a29_5 Try.isAgg22 (hS29.blk 0 rfl) rfl (fun h => h)) ?_
    refine wpL_q (U := NoB) rfl (q_lenRd rfl Try.underlying22 rfl (hS29.rowl 1 rfl)) ?_
    refine wpL_q (U := NoB) rfl (q_move (v := I (0)) rfl rfl) ?_
    exact ⟨a29_1, a29_3, a29_5, rfl, rfl, rfl⟩
  rintro f30 _ ⟨a30_1, a30_3, a30_5, a30_25, a30_26, rfl⟩
  clear a29_1 a29_3 a29_5
  refine wpF_block ?_
  refine wpF_loop (fun mz f H => ∃ (i : Nat), mz = q.Facts.toNat - i ∧ (i ≤ q.Facts.toNat) ∧ f 1 = PT g1 0 ∧ f 3 = PT g4 0 ∧ f 5 = PT g24 0 ∧ f 25 = I (((List.replicate ((q.Facts).toNat) (0 : Int)).length : Int)) ∧ f 26 = I ((i : Int)) ∧ St H0 NoB (fun b => S b ∧ b < H0.size) [rowE 3 v21 (lvFill q.Facts.toNat i : List Int), blkE g24 (.cells #[v21] 22), blkE g11 (.cells #[I ((questFault q).1), I ((questFault q).2)] 27), blkE g4 (.cells #[I (0), I (0)] 27), blkE g1 (.cells #[I (q.Facts), vf, vg, va] 25), rdE vf (q.First : List Int), rdE vg (q.Goal : List Int), rdE va (q.Acts : List Act)] H) (q.Facts.toNat - 0) ?_ ?_
  · exact ⟨0, rfl, Nat.zero_le _, a30_1, a30_3, a30_5, a30_25, (Eq.trans a30_26 (congrArg I (by omega))), (show St H0 NoB (fun b => S b ∧ b < H0.size) [rowE 3 v21 (lvFill q.Facts.toNat 0 : List Int), blkE g24 (.cells #[v21] 22), blkE g11 (.cells #[I ((questFault q).1), I ((questFault q).2)] 27), blkE g4 (.cells #[I (0), I (0)] 27), blkE g1 (.cells #[I (q.Facts), vf, vg, va] 25), rdE vf (q.First : List Int), rdE vg (q.Goal : List Int), rdE va (q.Acts : List Act)] H29 from (by have h__ := (St.drop (show St H0 NoB (fun b => S b ∧ b < H0.size) [rowE 3 v21 (List.replicate ((q.Facts).toNat) (0 : Int) : List Int), blkE g24 (.cells #[v21] 22), blkE g11 (.cells #[I ((questFault q).1), I ((questFault q).2)] 27), blkE g4 (.cells #[I (0), I (0)] 27), blkE g1 (.cells #[I (q.Facts), vf, vg, va] 25), rdE vf (q.First : List Int), rdE vg (q.Goal : List Int), rdE va (q.Acts : List Act)] H29 from ((((((((hS29.front 7 rfl).front 7 rfl).front 7 rfl).front 7 rfl).front 7 rfl).front 7 rfl).front 6 rfl).front 7 rfl)) (List.Sublist.cons_cons _ (List.Sublist.cons_cons _ (List.Sublist.cons_cons _ (List.Sublist.cons_cons _ (List.Sublist.cons_cons _ (List.Sublist.cons_cons _ (List.Sublist.cons_cons _ (List.Sublist.cons_cons _ (List.Sublist.slnil)))))))))); rw [← lvFill_zero] at h__; exact h__))⟩
  intro m31 f31 H31 hI31
  obtain ⟨i, hm31, hi, a31_1, a31_3, a31_5, a31_25, a31_26, hS31⟩ := hI31
  clear a30_1 a30_25 a30_26 a30_3 a30_5
  refine wpF_seq ?_
  refine wpF_cut (fun f H => f 1 = PT g1 0 ∧ f 3 = PT g4 0 ∧ f 5 = PT g24 0 ∧ f 25 = I (((List.replicate ((q.Facts).toNat) (0 : Int)).length : Int)) ∧ f 26 = I ((i : Int)) ∧ f 27 = B (decide ((i : Int) < ((List.replicate ((q.Facts).toNat) (0 : Int)).length : Int))) ∧ H31 = H) ?_ ?_
  · refine wpF_region ?_
    refine wpL_q (U := NoB) rfl (q_lss rfl a31_26 a31_25) ?_
    exact ⟨a31_1, a31_3, a31_5, a31_25, a31_26, rfl, rfl⟩
  rintro f32 _ ⟨a32_1, a32_3, a32_5, a32_25, a32_26, a32_27, rfl⟩
  clear a31_1 a31_25 a31_26 a31_3 a31_5
  refine wpF_seq ?_
  refine wpF_condP a32_27 (fun hlt0 => ?t115) (fun hlt0 => ?e115)
  case t115 =>
    have hll := lvFill_len (n := q.Facts.toNat) (i := i)
    refine wpF_skip ?_
    refine wpF_seq ?_
    refine wpF_block ?_
    refine wpF_seq ?_
    refine wpF_cut (fun f H => f 1 = PT g1 0 ∧ f 3 = PT g4 0 ∧ f 5 = PT g24 0 ∧ f 6 = I ((i : Int)) ∧ f 25 = I (((List.replicate ((q.Facts).toNat) (0 : Int)).length : Int)) ∧ f 26 = I ((i : Int)) ∧ H31 = H) ?_ ?_
    · refine wpF_region ?_
      refine wpL_q (U := NoB) rfl (q_move (v := I ((i : Int))) rfl a32_26) ?_
      refine wpL_q (U := NoB) rfl (q_assign (v := I ((i : Int))) rfl rfl) ?_
      exact ⟨a32_1, a32_3, a32_5, rfl, a32_25, a32_26, rfl⟩
    rintro f34 _ ⟨a34_1, a34_3, a34_5, a34_6, a34_25, a34_26, rfl⟩
    clear a32_1 a32_25 a32_26 a32_27 a32_3 a32_5
    refine wpF_cut (fun f H => f 1 = PT g1 0 ∧ f 3 = PT g4 0 ∧ f 5 = PT g24 0 ∧ f 25 = I (((List.replicate ((q.Facts).toNat) (0 : Int)).length : Int)) ∧ f 26 = I ((i : Int)) ∧ St H0 NoB (fun b => S b ∧ b < H0.size) [rowE 3 v21 ((lvFill q.Facts.toNat i).set i (-1) : List Int), blkE g24 (.cells #[v21] 22), blkE g11 (.cells #[I ((questFault q).1), I ((questFault q).2)] 27), blkE g4 (.cells #[I (0), I (0)] 27), blkE g1 (.cells #[I (q.Facts), vf, vg, va] 25), rdE vf (q.First : List Int), rdE vg (q.Goal : List Int), rdE va (q.Acts : List Act)] H) ?_ ?_
    · refine wpF_region ?_
      refine wpL_q (U := NoB) rfl (q_loadBlk rfl a34_5 Try.isAgg22 (hS31.blk 1 rfl) rfl (fun h => h)) ?_
      refine wpL_q (U := NoB) rfl (q_move (v := I ((i : Int))) rfl a34_6) ?_
      refine wpL_q (U := NoB) rfl (q_indexRd (k := i) rfl Try.underlying22 el_Int_3_EasyL1 rfl rfl (hS31.rowl 0 rfl) (by omega) (by omega)) ?_
      have hS35 : St H0 NoB (fun b => S b ∧ b < H0.size) [rowE 3 v21 (lvFill q.Facts.toNat i : List Int), blkE g24 (.cells #[v21] 22), blkE g11 (.cells #[I ((questFault q).1), I ((questFault q).2)] 27), blkE g4 (.cells #[I (0), I (0)] 27), blkE g1 (.cells #[I (q.Facts), vf, vg, va] 25), rdE vf (q.First : List Int), rdE vg (q.Goal : List Int), rdE va (q.Acts : List Act)] H31 := hS31
      refine wpL_o rfl ?_
      refine e_rowSet (k := i) (u := I (-1)) rfl rfl rfl rfl Try.sizeOf3 (by first | (simp; omega) | omega) hS35 (Rd.int.2 ⟨rfl, by constructor <;> omega⟩) (fun H36 hS37 hxx => ?_)
      replace hS37 : St H0 NoB (fun b => S b ∧ b < H0.size) [rowE 3 v21 ((lvFill q.Facts.toNat i).set i (-1) : List Int), blkE g24 (.cells #[v21] 22), blkE g11 (.cells #[I ((questFault q).1), I ((questFault q).2)] 27), blkE g4 (.cells #[I (0), I (0)] 27), blkE g1 (.cells #[I (q.Facts), vf, vg, va] 25), rdE vf (q.First : List Int), rdE vg (q.Goal : List Int), rdE va (q.Acts : List Act)] H36 := hS37
      exact ⟨a34_1, a34_3, a34_5, a34_25, a34_26, hS37⟩
    rintro f38 H38 ⟨a38_1, a38_3, a38_5, a38_25, a38_26, hS38⟩
    clear a34_1 a34_25 a34_26 a34_3 a34_5 a34_6
    refine wpF_cut (fun f H => f 1 = PT g1 0 ∧ f 3 = PT g4 0 ∧ f 5 = PT g24 0 ∧ f 25 = I (((List.replicate ((q.Facts).toNat) (0 : Int)).length : Int)) ∧ f 26 = I ((i : Int) + 1) ∧ H38 = H) ?_ ?_
    · refine wpF_region ?_
      refine wpL_q (U := NoB) rfl (q_add rfl a38_26 rfl (by constructor <;> omega)) ?_
      refine wpL_q (U := NoB) rfl (q_move (v := I ((i : Int) + 1)) rfl rfl) ?_
      exact ⟨a38_1, a38_3, a38_5, a38_25, rfl, rfl⟩
    rintro f39 _ ⟨a39_1, a39_3, a39_5, a39_25, a39_26, rfl⟩
    clear a38_1 a38_25 a38_26 a38_3 a38_5
    refine ⟨_, ?_, i + 1, rfl, (by omega), a39_1, a39_3, a39_5, a39_25, (Eq.trans a39_26 (congrArg I (by omega))), (show St H0 NoB (fun b => S b ∧ b < H0.size) [rowE 3 v21 (lvFill q.Facts.toNat (i + 1) : List Int), blkE g24 (.cells #[v21] 22), blkE g11 (.cells #[I ((questFault q).1), I ((questFault q).2)] 27), blkE g4 (.cells #[I (0), I (0)] 27), blkE g1 (.cells #[I (q.Facts), vf, vg, va] 25), rdE vf (q.First : List Int), rdE vg (q.Goal : List Int), rdE va (q.Acts : List Act)] H38 from (by have h__ := hS38; rw [lvFill_set] at h__; exact h__))⟩
    omega
  have hie : i = q.Facts.toNat := by omega
  refine wpF_exit ?_
  refine atX_here ?_
  refine wpF_seq ?_
  refine wpF_seq ?_
  refine wpF_cut (fun f H => f 1 = PT g1 0 ∧ f 3 = PT g4 0 ∧ f 5 = PT g24 0 ∧ f 34 = vf ∧ f 35 = I ((q.First.length : Int)) ∧ f 36 = I (0) ∧ H31 = H) ?_ ?_
  · refine wpF_region ?_
    refine wpL_q (U := NoB) rfl (q_fieldAddr rfl Try.underlying25 rfl Try.sizeOf22 a32_1) ?_
    refine wpL_q (U := NoB) rfl (q_loadBlk rfl rfl Try.isAgg22 (hS31.blk 4 rfl) rfl (fun h => h)) ?_
    refine wpL_q (U := NoB) rfl (q_lenRd rfl Try.underlying22 rfl (hS31.rdl 5 rfl)) ?_
    refine wpL_q (U := NoB) rfl (q_move (v := I (0)) rfl rfl) ?_
    exact ⟨a32_1, a32_3, a32_5, rfl, rfl, rfl, rfl⟩
  rintro f40 _ ⟨a40_1, a40_3, a40_5, a40_34, a40_35, a40_36, rfl⟩
  clear a32_1 a32_25 a32_26 a32_27 a32_3 a32_5
  refine wpF_block ?_
  refine wpF_loop (fun mz f H => ∃ (i : Nat), mz = q.First.length - i ∧ (i ≤ q.First.length) ∧ f 1 = PT g1 0 ∧ f 3 = PT g4 0 ∧ f 5 = PT g24 0 ∧ f 34 = vf ∧ f 35 = I ((q.First.length : Int)) ∧ f 36 = I ((i : Int)) ∧ St H0 NoB (fun b => S b ∧ b < H0.size) [rowE 3 v21 (lvFirst q i : List Int), blkE g24 (.cells #[v21] 22), blkE g11 (.cells #[I ((questFault q).1), I ((questFault q).2)] 27), blkE g4 (.cells #[I (0), I (0)] 27), blkE g1 (.cells #[I (q.Facts), vf, vg, va] 25), rdE vf (q.First : List Int), rdE vg (q.Goal : List Int), rdE va (q.Acts : List Act)] H) (q.First.length - 0) ?_ ?_
  · exact ⟨0, rfl, Nat.zero_le _, a40_1, a40_3, a40_5, a40_34, a40_35, (Eq.trans a40_36 (congrArg I (by omega))), (show St H0 NoB (fun b => S b ∧ b < H0.size) [rowE 3 v21 (lvFirst q 0 : List Int), blkE g24 (.cells #[v21] 22), blkE g11 (.cells #[I ((questFault q).1), I ((questFault q).2)] 27), blkE g4 (.cells #[I (0), I (0)] 27), blkE g1 (.cells #[I (q.Facts), vf, vg, va] 25), rdE vf (q.First : List Int), rdE vg (q.Goal : List Int), rdE va (q.Acts : List Act)] H31 from (by have h__ := hS31; rw [hie, lvFill_first] at h__; exact h__))⟩
  intro m41 f41 H41 hI41
  obtain ⟨i, hm41, hi, a41_1, a41_3, a41_5, a41_34, a41_35, a41_36, hS41⟩ := hI41
  clear a40_1 a40_3 a40_34 a40_35 a40_36 a40_5
  refine wpF_seq ?_
  refine wpF_cut (fun f H => f 1 = PT g1 0 ∧ f 3 = PT g4 0 ∧ f 5 = PT g24 0 ∧ f 34 = vf ∧ f 35 = I ((q.First.length : Int)) ∧ f 36 = I ((i : Int)) ∧ f 37 = B (decide ((i : Int) < (q.First.length : Int))) ∧ H41 = H) ?_ ?_
  · refine wpF_region ?_
    refine wpL_q (U := NoB) rfl (q_lss rfl a41_36 a41_35) ?_
    exact ⟨a41_1, a41_3, a41_5, a41_34, a41_35, a41_36, rfl, rfl⟩
  rintro f42 _ ⟨a42_1, a42_3, a42_5, a42_34, a42_35, a42_36, a42_37, rfl⟩
  clear a41_1 a41_3 a41_34 a41_35 a41_36 a41_5
  refine wpF_seq ?_
  refine wpF_condP a42_37 (fun hltF => ?t114) (fun hltF => ?e114)
  case t114 =>
    have hll := lvFirst_len (q := q) (i := i)
    have hfi := (hQ.first i (by omega)).1
    refine wpF_skip ?_
    refine wpF_seq ?_
    refine wpF_block ?_
    refine wpF_seq ?_
    refine wpF_cut (fun f H => f 1 = PT g1 0 ∧ f 3 = PT g4 0 ∧ f 5 = PT g24 0 ∧ f 8 = I (nth q.First i) ∧ f 34 = vf ∧ f 35 = I ((q.First.length : Int)) ∧ f 36 = I ((i : Int)) ∧ H41 = H) ?_ ?_
    · refine wpF_region ?_
      refine wpL_q (U := NoB) rfl (q_indexRd (k := i) rfl Try.underlying22 el_Int_3_EasyL1 a42_34 a42_36 (hS41.rdl 5 rfl) (by omega) (by omega)) ?_
      refine wpL_q (U := NoB) rfl (q_loadInt (k := i) rfl rfl el_Int_3_EasyL1 (hS41.rdl 5 rfl) (by omega) (fun _ h => h)) ?_
      refine wpL_q (U := NoB) rfl (q_assign (v := I (nth q.First i)) rfl rfl) ?_
      exact ⟨a42_1, a42_3, a42_5, rfl, a42_34, a42_35, a42_36, rfl⟩
    rintro f44 _ ⟨a44_1, a44_3, a44_5, a44_8, a44_34, a44_35, a44_36, rfl⟩
    clear a42_1 a42_3 a42_34 a42_35 a42_36 a42_37 a42_5
    refine wpF_cut (fun f H => f 1 = PT g1 0 ∧ f 3 = PT g4 0 ∧ f 5 = PT g24 0 ∧ f 34 = vf ∧ f 35 = I ((q.First.length : Int)) ∧ f 36 = I ((i : Int)) ∧ St H0 NoB (fun b => S b ∧ b < H0.size) [rowE 3 v21 ((lvFirst q i).set ((nth q.First i).toNat) 0 : List Int), blkE g24 (.cells #[v21] 22), blkE g11 (.cells #[I ((questFault q).1), I ((questFault q).2)] 27), blkE g4 (.cells #[I (0), I (0)] 27), blkE g1 (.cells #[I (q.Facts), vf, vg, va] 25), rdE vf (q.First : List Int), rdE vg (q.Goal : List Int), rdE va (q.Acts : List Act)] H) ?_ ?_
    · refine wpF_region ?_
      refine wpL_q (U := NoB) rfl (q_loadBlk rfl a44_5 Try.isAgg22 (hS41.blk 1 rfl) rfl (fun h => h)) ?_
      refine wpL_q (U := NoB) rfl (q_move (v := I (nth q.First i)) rfl a44_8) ?_
      refine wpL_q (U := NoB) rfl (q_indexRd (k := (nth q.First i).toNat) rfl Try.underlying22 el_Int_3_EasyL1 rfl rfl (hS41.rowl 0 rfl) (by omega) (by omega)) ?_
      have hS45 : St H0 NoB (fun b => S b ∧ b < H0.size) [rowE 3 v21 (lvFirst q i : List Int), blkE g24 (.cells #[v21] 22), blkE g11 (.cells #[I ((questFault q).1), I ((questFault q).2)] 27), blkE g4 (.cells #[I (0), I (0)] 27), blkE g1 (.cells #[I (q.Facts), vf, vg, va] 25), rdE vf (q.First : List Int), rdE vg (q.Goal : List Int), rdE va (q.Acts : List Act)] H41 := hS41
      refine wpL_o rfl ?_
      refine e_rowSet (k := (nth q.First i).toNat) (u := I (0)) rfl rfl rfl rfl Try.sizeOf3 (by first | (simp; omega) | omega) hS45 (Rd.int.2 ⟨rfl, by constructor <;> omega⟩) (fun H46 hS47 hxx => ?_)
      replace hS47 : St H0 NoB (fun b => S b ∧ b < H0.size) [rowE 3 v21 ((lvFirst q i).set ((nth q.First i).toNat) 0 : List Int), blkE g24 (.cells #[v21] 22), blkE g11 (.cells #[I ((questFault q).1), I ((questFault q).2)] 27), blkE g4 (.cells #[I (0), I (0)] 27), blkE g1 (.cells #[I (q.Facts), vf, vg, va] 25), rdE vf (q.First : List Int), rdE vg (q.Goal : List Int), rdE va (q.Acts : List Act)] H46 := hS47
      exact ⟨a44_1, a44_3, a44_5, a44_34, a44_35, a44_36, hS47⟩
    rintro f48 H48 ⟨a48_1, a48_3, a48_5, a48_34, a48_35, a48_36, hS48⟩
    clear a44_1 a44_3 a44_34 a44_35 a44_36 a44_5 a44_8
    refine wpF_cut (fun f H => f 1 = PT g1 0 ∧ f 3 = PT g4 0 ∧ f 5 = PT g24 0 ∧ f 34 = vf ∧ f 35 = I ((q.First.length : Int)) ∧ f 36 = I ((i : Int) + 1) ∧ H48 = H) ?_ ?_
    · refine wpF_region ?_
      refine wpL_q (U := NoB) rfl (q_add rfl a48_36 rfl (by constructor <;> omega)) ?_
      refine wpL_q (U := NoB) rfl (q_move (v := I ((i : Int) + 1)) rfl rfl) ?_
      exact ⟨a48_1, a48_3, a48_5, a48_34, a48_35, rfl, rfl⟩
    rintro f49 _ ⟨a49_1, a49_3, a49_5, a49_34, a49_35, a49_36, rfl⟩
    clear a48_1 a48_3 a48_34 a48_35 a48_36 a48_5
    refine ⟨_, ?_, i + 1, rfl, (by omega), a49_1, a49_3, a49_5, a49_34, a49_35, (Eq.trans a49_36 (congrArg I (by omega))), (show St H0 NoB (fun b => S b ∧ b < H0.size) [rowE 3 v21 (lvFirst q (i + 1) : List Int), blkE g24 (.cells #[v21] 22), blkE g11 (.cells #[I ((questFault q).1), I ((questFault q).2)] 27), blkE g4 (.cells #[I (0), I (0)] 27), blkE g1 (.cells #[I (q.Facts), vf, vg, va] 25), rdE vf (q.First : List Int), rdE vg (q.Goal : List Int), rdE va (q.Acts : List Act)] H48 from (by have h__ := hS48; rw [lvFirst_set (by omega) (by omega)] at h__; exact h__))⟩
    omega
  refine wpF_exit ?_
  refine atX_here ?_
  refine wpF_seq ?_
  refine wpF_seq ?_
  refine wpF_cut (fun f H => ∃ (g50 : Nat), f 1 = PT g1 0 ∧ f 3 = PT g4 0 ∧ f 5 = PT g24 0 ∧ f 9 = PT g50 0 ∧ f 10 = B (true) ∧ St H0 NoB (fun b => S b ∧ b < H0.size) [blkE g50 (.cells #[I (1)] 3), rowE 3 v21 (lvFirst q i : List Int), blkE g24 (.cells #[v21] 22), blkE g11 (.cells #[I ((questFault q).1), I ((questFault q).2)] 27), blkE g4 (.cells #[I (0), I (0)] 27), blkE g1 (.cells #[I (q.Facts), vf, vg, va] 25), rdE vf (q.First : List Int), rdE vg (q.Goal : List Int), rdE va (q.Acts : List Act)] H) ?_ ?_
  · refine wpF_region ?_
    refine wpL_o rfl ?_
    refine e_alloc rfl Try.zeroValue3 hS41 (fun g50 H51 hS52 hxx => ?_)
    replace hS52 : St H0 NoB (fun b => S b ∧ b < H0.size) [blkE g50 (.cells #[I (0)] 3), rowE 3 v21 (lvFirst q i : List Int), blkE g24 (.cells #[v21] 22), blkE g11 (.cells #[I ((questFault q).1), I ((questFault q).2)] 27), blkE g4 (.cells #[I (0), I (0)] 27), blkE g1 (.cells #[I (q.Facts), vf, vg, va] 25), rdE vf (q.First : List Int), rdE vg (q.Goal : List Int), rdE va (q.Acts : List Act)] H51 := hS52
    refine wpL_o rfl ?_
    refine e_storeBlk (v := I (1)) rfl rfl rfl rfl Try.sizeOf3 (by show _ < 1; decide) hS52 (fun H53 hS54 hxx => ?_)
    replace hS54 : St H0 NoB (fun b => S b ∧ b < H0.size) [blkE g50 (.cells #[I (1)] 3), rowE 3 v21 (lvFirst q i : List Int), blkE g24 (.cells #[v21] 22), blkE g11 (.cells #[I ((questFault q).1), I ((questFault q).2)] 27), blkE g4 (.cells #[I (0), I (0)] 27), blkE g1 (.cells #[I (q.Facts), vf, vg, va] 25), rdE vf (q.First : List Int), rdE vg (q.Goal : List Int), rdE va (q.Acts : List Act)] H53 := hS54
    refine wpL_q (U := NoB) rfl (q_assign (v := B (true)) rfl rfl) ?_
    exact ⟨g50, a42_1, a42_3, a42_5, rfl, rfl, hS54⟩
  rintro f55 H55 ⟨g50, a55_1, a55_3, a55_5, a55_9, a55_10, hS55⟩
  clear a42_1 a42_3 a42_34 a42_35 a42_36 a42_37 a42_5
  refine wpF_block ?_
  refine wpF_loop (fun mz f H => ∃ (n : Nat), ∃ (ch : Bool), ∃ (gn : Nat), mz = q.Facts.toNat + 2 - n ∧ (ch = true → negs (levelsAt q n) + n ≤ q.Facts.toNat) ∧ (ch = false → ∃ m, n = m + 1 ∧ m ≤ q.Facts.toNat ∧ Quiet_ q m) ∧ f 1 = PT g1 0 ∧ f 3 = PT g4 0 ∧ f 5 = PT g24 0 ∧ f 9 = PT gn 0 ∧ f 10 = B (ch) ∧ St H0 NoB (fun b => S b ∧ b < H0.size) [rowE 3 v21 (levelsAt q n : List Int), blkE gn (.cells #[I ((n : Int) + 1)] 3), blkE g24 (.cells #[v21] 22), blkE g11 (.cells #[I ((questFault q).1), I ((questFault q).2)] 27), blkE g4 (.cells #[I (0), I (0)] 27), blkE g1 (.cells #[I (q.Facts), vf, vg, va] 25), rdE vf (q.First : List Int), rdE vg (q.Goal : List Int), rdE va (q.Acts : List Act)] H) (q.Facts.toNat + 2 - 0) ?_ ?_
  · exact ⟨0, true, g50, rfl, (fun _ => by have := negs_le (L := levelsAt q 0); rw [levelsAt_len] at this; omega), (fun h => by cases h), a55_1, a55_3, a55_5, a55_9, a55_10, (show St H0 NoB (fun b => S b ∧ b < H0.size) [rowE 3 v21 (levelsAt q 0 : List Int), blkE g50 (.cells #[I ((0 : Int) + 1)] 3), blkE g24 (.cells #[v21] 22), blkE g11 (.cells #[I ((questFault q).1), I ((questFault q).2)] 27), blkE g4 (.cells #[I (0), I (0)] 27), blkE g1 (.cells #[I (q.Facts), vf, vg, va] 25), rdE vf (q.First : List Int), rdE vg (q.Goal : List Int), rdE va (q.Acts : List Act)] H55 from (by have h__ := (St.drop (show St H0 NoB (fun b => S b ∧ b < H0.size) [rowE 3 v21 (lvFirst q i : List Int), blkE g50 (.cells #[I (1)] 3), blkE g24 (.cells #[v21] 22), blkE g11 (.cells #[I ((questFault q).1), I ((questFault q).2)] 27), blkE g4 (.cells #[I (0), I (0)] 27), blkE g1 (.cells #[I (q.Facts), vf, vg, va] 25), rdE vf (q.First : List Int), rdE vg (q.Goal : List Int), rdE va (q.Acts : List Act)] H55 from (((((((((hS55.front 8 rfl).front 8 rfl).front 8 rfl).front 8 rfl).front 8 rfl).front 8 rfl).front 8 rfl).front 7 rfl).front 8 rfl)) (List.Sublist.cons_cons _ (List.Sublist.cons_cons _ (List.Sublist.cons_cons _ (List.Sublist.cons_cons _ (List.Sublist.cons_cons _ (List.Sublist.cons_cons _ (List.Sublist.cons_cons _ (List.Sublist.cons_cons _ (List.Sublist.cons_cons _ (List.Sublist.slnil))))))))))); rw [lvFirst_all (by omega)] at h__; exact h__))⟩
  intro m56 f56 H56 hI56
  obtain ⟨n, ch, gn, hm56, hng, hqn, a56_1, a56_3, a56_5, a56_9, a56_10, hS56⟩ := hI56
  clear a55_1 a55_10 a55_3 a55_5 a55_9
  refine wpF_seq ?_
  refine wpF_seq ?_
  refine wpF_cut (fun f H => f 1 = PT g1 0 ∧ f 3 = PT g4 0 ∧ f 5 = PT g24 0 ∧ f 9 = PT gn 0 ∧ f 44 = B (ch) ∧ H56 = H) ?_ ?_
  · refine wpF_region ?_
    refine wpL_q (U := NoB) rfl (q_move (v := B (ch)) rfl a56_10) ?_
    exact ⟨a56_1, a56_3, a56_5, a56_9, rfl, rfl⟩
  rintro f57 _ ⟨a57_1, a57_3, a57_5, a57_9, a57_44, rfl⟩
  clear a56_1 a56_10 a56_3 a56_5 a56_9
  refine wpF_cond a57_44 (fun h44 => ?t113) (fun h44 => ?e113)
  case e113 =>
    refine wpF_exit ?_
    refine atX_here ?_
    refine wpF_seq ?_
    refine wpF_cut (fun f H => f 2 = v21 ∧ f 3 = PT g4 0 ∧ St H0 NoB (fun b => S b ∧ b < H0.size) [blkE g4 (.cells #[I (0), I (0)] 27), rowE 3 v21 (levelsAt q n : List Int), blkE gn (.cells #[I ((n : Int) + 1)] 3), blkE g24 (.cells #[v21] 22), blkE g11 (.cells #[I ((questFault q).1), I ((questFault q).2)] 27), blkE g1 (.cells #[I (q.Facts), vf, vg, va] 25), rdE vf (q.First : List Int), rdE vg (q.Goal : List Int), rdE va (q.Acts : List Act)] H) ?_ ?_
    · refine wpF_region ?_
      refine wpL_q (U := NoB) rfl (q_loadBlk rfl a57_5 Try.isAgg22 (hS56.blk 2 rfl) rfl (fun h => h)) ?_
      refine wpL_q (U := NoB) rfl (q_build (v := Value.agg #[I (0), I (0)]) rfl par0 (fun w => by kernel_rfl)) ?_
      refine wpL_q (U := NoB) rfl (q_assign (v := v21) rfl rfl) ?_
      refine wpL_o rfl ?_
      refine e_storeBlkA (cs' := #[I (0), I (0)]) rfl a57_3 rfl Try.sizeOf27 rfl rfl (List.forall_mem_cons.2 ⟨rfl, List.forall_mem_cons.2 ⟨rfl, List.forall_mem_nil _⟩⟩) (hS56.front 4 rfl) (fun H109 hS110 hxx => ?_)
      replace hS110 : St H0 NoB (fun b => S b ∧ b < H0.size) [blkE g4 (.cells #[I (0), I (0)] 27), rowE 3 v21 (levelsAt q n : List Int), blkE gn (.cells #[I ((n : Int) + 1)] 3), blkE g24 (.cells #[v21] 22), blkE g11 (.cells #[I ((questFault q).1), I ((questFault q).2)] 27), blkE g1 (.cells #[I (q.Facts), vf, vg, va] 25), rdE vf (q.First : List Int), rdE vg (q.Goal : List Int), rdE va (q.Acts : List Act)] H109 := hS110
      exact ⟨rfl, a57_3, hS110⟩
    rintro f111 H111 ⟨a111_2, a111_3, hS111⟩
    clear a57_1 a57_3 a57_44 a57_5 a57_9
    refine wpF_ret ?_
    refine ⟨_, resT a111_2 (resC a111_3 (loadV_blkA Try.isAgg27 Try.sizeOf27 rfl (hS111.blk 0 rfl)) (resN)), hS111.frame, ?_⟩
    show ∃ w0_, (Value.tuple #[v21, Value.agg #[I (0), I (0)]]) = Value.tuple #[w0_, Value.agg #[I (questFault q).1, I (questFault q).2]] ∧ Rd (fun b => S b ∧ b < H0.size) H111 w0_ (levelsOut q)
    have hS112 : St H0 NoB (fun b => S b ∧ b < H0.size) [rdE v21 (levelsAt q n : List Int), blkE g4 (.cells #[I (0), I (0)] 27), blkE gn (.cells #[I ((n : Int) + 1)] 3), blkE g24 (.cells #[v21] 22), blkE g11 (.cells #[I ((questFault q).1), I ((questFault q).2)] 27), blkE g1 (.cells #[I (q.Facts), vf, vg, va] 25), rdE vf (q.First : List Int), rdE vg (q.Goal : List Int), rdE va (q.Acts : List Act)] H111 := St.fin (hS111.front 1 rfl)
    obtain ⟨m, hm1, hm2, hm3⟩ := hqn (by simpa using h44)
    have hlev : levelsOut q = levelsAt q n := by rw [levelsOut, if_neg h1, hm1, hm3.next, levels_of hm3 (by omega)]
    exact ⟨v21, by rw [hQ.code], by rw [hlev]; exact (hS112.result (hS112.rdS 0 rfl))⟩
  have hnF := hng (by simpa using h44)
  have hlen := levelsAt_len (q := q) n
  refine wpF_skip ?_
  refine wpF_seq ?_
  refine wpF_block ?_
  refine wpF_seq ?_
  refine wpF_cut (fun f H => f 1 = PT g1 0 ∧ f 3 = PT g4 0 ∧ f 5 = PT g24 0 ∧ f 9 = PT gn 0 ∧ f 10 = B (false) ∧ H56 = H) ?_ ?_
  · refine wpF_region ?_
    refine wpL_q (U := NoB) rfl (q_assign (v := B (false)) rfl rfl) ?_
    exact ⟨a57_1, a57_3, a57_5, a57_9, rfl, rfl⟩
  rintro f59 _ ⟨a59_1, a59_3, a59_5, a59_9, a59_10, rfl⟩
  clear a57_1 a57_3 a57_44 a57_5 a57_9
  refine wpF_seq ?_
  refine wpF_cut (fun f H => f 1 = PT g1 0 ∧ f 3 = PT g4 0 ∧ f 5 = PT g24 0 ∧ f 9 = PT gn 0 ∧ f 10 = B (false) ∧ f 48 = va ∧ f 49 = I ((q.Acts.length : Int)) ∧ f 50 = I (0) ∧ H56 = H) ?_ ?_
  · refine wpF_region ?_
    refine wpL_q (U := NoB) rfl (q_fieldAddr rfl Try.underlying25 rfl Try.sizeOf23 a59_1) ?_
    refine wpL_q (U := NoB) rfl (q_loadBlk rfl rfl Try.isAgg23 (hS56.blk 5 rfl) rfl (fun h => h)) ?_
    refine wpL_q (U := NoB) rfl (q_lenRd rfl Try.underlying23 rfl (hS56.rdl 8 rfl)) ?_
    refine wpL_q (U := NoB) rfl (q_move (v := I (0)) rfl rfl) ?_
    exact ⟨a59_1, a59_3, a59_5, a59_9, a59_10, rfl, rfl, rfl, rfl⟩
  rintro f60 _ ⟨a60_1, a60_3, a60_5, a60_9, a60_10, a60_48, a60_49, a60_50, rfl⟩
  clear a59_1 a59_10 a59_3 a59_5 a59_9
  refine wpF_block ?_
  refine wpF_loop (fun mz f H => ∃ (k : Nat), ∃ (cc : Bool), mz = q.Acts.length - k ∧ (k ≤ q.Acts.length) ∧ (cc = true ↔ Chg (levelsAt q n) (comes q (levelsAt q n) k)) ∧ f 1 = PT g1 0 ∧ f 3 = PT g4 0 ∧ f 5 = PT g24 0 ∧ f 9 = PT gn 0 ∧ f 10 = B (cc) ∧ f 48 = va ∧ f 49 = I ((q.Acts.length : Int)) ∧ f 50 = I ((k : Int)) ∧ St H0 NoB (fun b => S b ∧ b < H0.size) [rowE 3 v21 (markL (levelsAt q n) ((n : Int) + 1) (comes q (levelsAt q n) k) : List Int), blkE gn (.cells #[I ((n : Int) + 1)] 3), blkE g24 (.cells #[v21] 22), blkE g11 (.cells #[I ((questFault q).1), I ((questFault q).2)] 27), blkE g4 (.cells #[I (0), I (0)] 27), blkE g1 (.cells #[I (q.Facts), vf, vg, va] 25), rdE vf (q.First : List Int), rdE vg (q.Goal : List Int), rdE va (q.Acts : List Act)] H) (q.Acts.length - 0) ?_ ?_
  · exact ⟨0, false, rfl, Nat.zero_le _, ⟨(fun h => by cases h), (fun ⟨_, _, _, h⟩ => by cases h)⟩, a60_1, a60_3, a60_5, a60_9, a60_10, a60_48, a60_49, (Eq.trans a60_50 (congrArg I (by omega))), (show St H0 NoB (fun b => S b ∧ b < H0.size) [rowE 3 v21 (markL (levelsAt q n) ((n : Int) + 1) (comes q (levelsAt q n) 0) : List Int), blkE gn (.cells #[I ((n : Int) + 1)] 3), blkE g24 (.cells #[v21] 22), blkE g11 (.cells #[I ((questFault q).1), I ((questFault q).2)] 27), blkE g4 (.cells #[I (0), I (0)] 27), blkE g1 (.cells #[I (q.Facts), vf, vg, va] 25), rdE vf (q.First : List Int), rdE vg (q.Goal : List Int), rdE va (q.Acts : List Act)] H56 from (by have h__ := hS56; rw [← markL_none (L := levelsAt q n) (n := (n : Int) + 1)] at h__; exact h__))⟩
  intro m61 f61 H61 hI61
  obtain ⟨k, cc, hm61, hk, hc, a61_1, a61_3, a61_5, a61_9, a61_10, a61_48, a61_49, a61_50, hS61⟩ := hI61
  clear a60_1 a60_10 a60_3 a60_48 a60_49 a60_5 a60_50 a60_9
  refine wpF_seq ?_
  refine wpF_cut (fun f H => f 1 = PT g1 0 ∧ f 3 = PT g4 0 ∧ f 5 = PT g24 0 ∧ f 9 = PT gn 0 ∧ f 10 = B (cc) ∧ f 48 = va ∧ f 49 = I ((q.Acts.length : Int)) ∧ f 50 = I ((k : Int)) ∧ f 51 = B (decide ((k : Int) < (q.Acts.length : Int))) ∧ H61 = H) ?_ ?_
  · refine wpF_region ?_
    refine wpL_q (U := NoB) rfl (q_lss rfl a61_50 a61_49) ?_
    exact ⟨a61_1, a61_3, a61_5, a61_9, a61_10, a61_48, a61_49, a61_50, rfl, rfl⟩
  rintro f62 _ ⟨a62_1, a62_3, a62_5, a62_9, a62_10, a62_48, a62_49, a62_50, a62_51, rfl⟩
  clear a61_1 a61_10 a61_3 a61_48 a61_49 a61_5 a61_50 a61_9
  refine wpF_seq ?_
  refine wpF_condP a62_51 (fun hltk => ?t108) (fun hltk => ?e108)
  case e108 =>
    have hke : k = q.Acts.length := by omega
    have hc2 := hc
    rw [hke] at hc2
    refine wpF_exit ?_
    refine atX_here ?_
    refine wpF_seq ?_
    refine wpF_seq ?_
    refine wpF_cut (fun f H => f 1 = PT g1 0 ∧ f 3 = PT g4 0 ∧ f 5 = PT g24 0 ∧ f 10 = B (cc) ∧ f 76 = I ((n : Int) + 1) ∧ H61 = H) ?_ ?_
    · refine wpF_region ?_
      refine wpL_q (U := NoB) rfl (q_loadBlk rfl a62_9 Try.isAgg3 (hS61.blk 1 rfl) rfl (fun h => h)) ?_
      exact ⟨a62_1, a62_3, a62_5, a62_10, rfl, rfl⟩
    rintro f98 _ ⟨a98_1, a98_3, a98_5, a98_10, a98_76, rfl⟩
    clear a62_1 a62_10 a62_3 a62_48 a62_49 a62_5 a62_50 a62_51 a62_9
    refine wpF_cut (fun f H => ∃ (g99 : Nat), f 1 = PT g1 0 ∧ f 3 = PT g4 0 ∧ f 5 = PT g24 0 ∧ f 9 = PT g99 0 ∧ f 10 = B (cc) ∧ St H0 NoB (fun b => S b ∧ b < H0.size) [blkE g99 (.cells #[I ((n : Int) + 1)] 3), rowE 3 v21 (markL (levelsAt q n) ((n : Int) + 1) (comes q (levelsAt q n) k) : List Int), blkE gn (.cells #[I ((n : Int) + 1)] 3), blkE g24 (.cells #[v21] 22), blkE g11 (.cells #[I ((questFault q).1), I ((questFault q).2)] 27), blkE g4 (.cells #[I (0), I (0)] 27), blkE g1 (.cells #[I (q.Facts), vf, vg, va] 25), rdE vf (q.First : List Int), rdE vg (q.Goal : List Int), rdE va (q.Acts : List Act)] H) ?_ ?_
    · refine wpF_region ?_
      refine wpL_o rfl ?_
      refine e_alloc rfl Try.zeroValue3 hS61 (fun g99 H100 hS101 hxx => ?_)
      replace hS101 : St H0 NoB (fun b => S b ∧ b < H0.size) [blkE g99 (.cells #[I (0)] 3), rowE 3 v21 (markL (levelsAt q n) ((n : Int) + 1) (comes q (levelsAt q n) k) : List Int), blkE gn (.cells #[I ((n : Int) + 1)] 3), blkE g24 (.cells #[v21] 22), blkE g11 (.cells #[I ((questFault q).1), I ((questFault q).2)] 27), blkE g4 (.cells #[I (0), I (0)] 27), blkE g1 (.cells #[I (q.Facts), vf, vg, va] 25), rdE vf (q.First : List Int), rdE vg (q.Goal : List Int), rdE va (q.Acts : List Act)] H100 := hS101
      refine wpL_o rfl ?_
      refine e_storeBlk (v := I ((n : Int) + 1)) rfl rfl a98_76 rfl Try.sizeOf3 (by show _ < 1; decide) hS101 (fun H102 hS103 hxx => ?_)
      replace hS103 : St H0 NoB (fun b => S b ∧ b < H0.size) [blkE g99 (.cells #[I ((n : Int) + 1)] 3), rowE 3 v21 (markL (levelsAt q n) ((n : Int) + 1) (comes q (levelsAt q n) k) : List Int), blkE gn (.cells #[I ((n : Int) + 1)] 3), blkE g24 (.cells #[v21] 22), blkE g11 (.cells #[I ((questFault q).1), I ((questFault q).2)] 27), blkE g4 (.cells #[I (0), I (0)] 27), blkE g1 (.cells #[I (q.Facts), vf, vg, va] 25), rdE vf (q.First : List Int), rdE vg (q.Goal : List Int), rdE va (q.Acts : List Act)] H102 := hS103
      exact ⟨g99, a98_1, a98_3, a98_5, rfl, a98_10, hS103⟩
    rintro f104 H104 ⟨g99, a104_1, a104_3, a104_5, a104_9, a104_10, hS104⟩
    clear a98_1 a98_10 a98_3 a98_5 a98_76
    refine wpF_cut (fun f H => f 1 = PT g1 0 ∧ f 3 = PT g4 0 ∧ f 5 = PT g24 0 ∧ f 9 = PT g99 0 ∧ f 10 = B (cc) ∧ St H0 NoB (fun b => S b ∧ b < H0.size) [blkE g99 (.cells #[I (((n : Int) + 1) + 1)] 3), rowE 3 v21 (markL (levelsAt q n) ((n : Int) + 1) (comes q (levelsAt q n) k) : List Int), blkE gn (.cells #[I ((n : Int) + 1)] 3), blkE g24 (.cells #[v21] 22), blkE g11 (.cells #[I ((questFault q).1), I ((questFault q).2)] 27), blkE g4 (.cells #[I (0), I (0)] 27), blkE g1 (.cells #[I (q.Facts), vf, vg, va] 25), rdE vf (q.First : List Int), rdE vg (q.Goal : List Int), rdE va (q.Acts : List Act)] H) ?_ ?_
    · refine wpF_region ?_
      refine wpL_q (U := NoB) rfl (q_loadBlk rfl a104_9 Try.isAgg3 (hS104.blk 0 rfl) rfl (fun h => h)) ?_
      refine wpL_q (U := NoB) rfl (q_add rfl rfl rfl (by constructor <;> omega)) ?_
      refine wpL_o rfl ?_
      refine e_storeBlk (v := I (((n : Int) + 1) + 1)) rfl a104_9 rfl rfl Try.sizeOf3 (by show _ < 1; decide) hS104 (fun H105 hS106 hxx => ?_)
      replace hS106 : St H0 NoB (fun b => S b ∧ b < H0.size) [blkE g99 (.cells #[I (((n : Int) + 1) + 1)] 3), rowE 3 v21 (markL (levelsAt q n) ((n : Int) + 1) (comes q (levelsAt q n) k) : List Int), blkE gn (.cells #[I ((n : Int) + 1)] 3), blkE g24 (.cells #[v21] 22), blkE g11 (.cells #[I ((questFault q).1), I ((questFault q).2)] 27), blkE g4 (.cells #[I (0), I (0)] 27), blkE g1 (.cells #[I (q.Facts), vf, vg, va] 25), rdE vf (q.First : List Int), rdE vg (q.Goal : List Int), rdE va (q.Acts : List Act)] H105 := hS106
      exact ⟨a104_1, a104_3, a104_5, a104_9, a104_10, hS106⟩
    rintro f107 H107 ⟨a107_1, a107_3, a107_5, a107_9, a107_10, hS107⟩
    clear a104_1 a104_10 a104_3 a104_5 a104_9
    refine ⟨_, ?_, n + 1, cc, g99, rfl, (fun h => by have := negs_lt (N := (n : Int) + 1) (by omega) (hc2.1 h); show negs (markL _ _ _) + (n + 1) ≤ _; omega), (fun h => ⟨n, rfl, by omega, fun hch => by have := hc2.2 hch; rw [h] at this; cases this⟩), a107_1, a107_3, a107_5, a107_9, a107_10, (show St H0 NoB (fun b => S b ∧ b < H0.size) [rowE 3 v21 (levelsAt q (n + 1) : List Int), blkE g99 (.cells #[I (((n + 1) : Int) + 1)] 3), blkE g24 (.cells #[v21] 22), blkE g11 (.cells #[I ((questFault q).1), I ((questFault q).2)] 27), blkE g4 (.cells #[I (0), I (0)] 27), blkE g1 (.cells #[I (q.Facts), vf, vg, va] 25), rdE vf (q.First : List Int), rdE vg (q.Goal : List Int), rdE va (q.Acts : List Act)] H107 from (by have h__ := (St.drop (show St H0 NoB (fun b => S b ∧ b < H0.size) [rowE 3 v21 (markL (levelsAt q n) ((n : Int) + 1) (comes q (levelsAt q n) k) : List Int), blkE g99 (.cells #[I (((n : Int) + 1) + 1)] 3), blkE g24 (.cells #[v21] 22), blkE g11 (.cells #[I ((questFault q).1), I ((questFault q).2)] 27), blkE g4 (.cells #[I (0), I (0)] 27), blkE g1 (.cells #[I (q.Facts), vf, vg, va] 25), rdE vf (q.First : List Int), rdE vg (q.Goal : List Int), rdE va (q.Acts : List Act), blkE gn (.cells #[I ((n : Int) + 1)] 3)] H107 from (((((((((hS107.front 9 rfl).front 9 rfl).front 9 rfl).front 9 rfl).front 9 rfl).front 9 rfl).front 9 rfl).front 7 rfl).front 8 rfl)) (List.Sublist.cons_cons _ (List.Sublist.cons_cons _ (List.Sublist.cons_cons _ (List.Sublist.cons_cons _ (List.Sublist.cons_cons _ (List.Sublist.cons_cons _ (List.Sublist.cons_cons _ (List.Sublist.cons_cons _ (List.Sublist.cons_cons _ (List.Sublist.cons _ (List.Sublist.slnil)))))))))))); rw [hke] at h__; exact h__))⟩
    omega
  have hfk := hQ.form k (by omega)
  have hml := markL_len (L := levelsAt q n) (n := (n : Int) + 1) (p := comes q (levelsAt q n) k)
  have hnr : ∀ x ∈ (nth q.Acts k).Need, 0 ≤ x ∧ x < ((markL (levelsAt q n) ((n : Int) + 1) (comes q (levelsAt q n) k)).length : Int) := fun x hx => by have := hfk.1.1.1.mem hx; omega
  have hsee := any_see (L := levelsAt q n) (N := (n : Int) + 1) (p := comes q (levelsAt q n) k) (a := nth q.Acts k) rfl hfk.1.1.1 (by omega) (fun f hf => by have := levelsAt_lt (q := q) n f (by omega); omega)
  refine wpF_skip ?_
  refine wpF_seq ?_
  refine wpF_block ?_
  refine wpF_seq ?_
  refine wpF_cut (fun f H => ∃ (u64n0 : Value), ∃ (u64n1 : Value), ∃ (u64n2 : Value), ∃ (u64n3 : Value), ∃ (g69 : Nat), f 1 = PT g1 0 ∧ f 3 = PT g4 0 ∧ f 5 = PT g24 0 ∧ f 9 = PT gn 0 ∧ f 10 = B (cc) ∧ f 12 = PT g69 0 ∧ f 48 = va ∧ f 49 = I ((q.Acts.length : Int)) ∧ f 50 = I ((k : Int)) ∧ St H0 NoB (fun b => S b ∧ b < H0.size) [blkE g69 (.cells #[u64n0, u64n1, u64n2, u64n3] 37), rdE u64n3 ((nth q.Acts k).Drop : List Int), rdE u64n2 ((nth q.Acts k).Add : List Int), rdE u64n1 ((nth q.Acts k).Bar : List Int), rdE u64n0 ((nth q.Acts k).Need : List Int), rowE 3 v21 (markL (levelsAt q n) ((n : Int) + 1) (comes q (levelsAt q n) k) : List Int), blkE gn (.cells #[I ((n : Int) + 1)] 3), blkE g24 (.cells #[v21] 22), blkE g11 (.cells #[I ((questFault q).1), I ((questFault q).2)] 27), blkE g4 (.cells #[I (0), I (0)] 27), blkE g1 (.cells #[I (q.Facts), vf, vg, va] 25), rdE vf (q.First : List Int), rdE vg (q.Goal : List Int), rdE va (q.Acts : List Act)] H) ?_ ?_
  · refine wpF_region ?_
    refine wpL_q (U := NoB) rfl (q_indexRd (k := k) rfl Try.underlying23 el_Act_37_EasyL1 a62_48 a62_50 (hS61.rdl 8 rfl) (by omega) (by omega)) ?_
    obtain ⟨u64, huu64, hlu64⟩ := (Rd.list.1 (hS61.rdS 8 rfl)).elem k (by omega)
    obtain ⟨u64n0, u64n1, u64n2, u64n3, rfl, hu640, hu641, hu642, hu643⟩ := Rd.act.1 huu64
    have hS65 : St H0 NoB (fun b => S b ∧ b < H0.size) [rdE u64n0 ((nth q.Acts k).Need : List Int), rowE 3 v21 (markL (levelsAt q n) ((n : Int) + 1) (comes q (levelsAt q n) k) : List Int), blkE gn (.cells #[I ((n : Int) + 1)] 3), blkE g24 (.cells #[v21] 22), blkE g11 (.cells #[I ((questFault q).1), I ((questFault q).2)] 27), blkE g4 (.cells #[I (0), I (0)] 27), blkE g1 (.cells #[I (q.Facts), vf, vg, va] 25), rdE vf (q.First : List Int), rdE vg (q.Goal : List Int), rdE va (q.Acts : List Act)] H61 := hS61.rd hu640
    have hS66 : St H0 NoB (fun b => S b ∧ b < H0.size) [rdE u64n1 ((nth q.Acts k).Bar : List Int), rdE u64n0 ((nth q.Acts k).Need : List Int), rowE 3 v21 (markL (levelsAt q n) ((n : Int) + 1) (comes q (levelsAt q n) k) : List Int), blkE gn (.cells #[I ((n : Int) + 1)] 3), blkE g24 (.cells #[v21] 22), blkE g11 (.cells #[I ((questFault q).1), I ((questFault q).2)] 27), blkE g4 (.cells #[I (0), I (0)] 27), blkE g1 (.cells #[I (q.Facts), vf, vg, va] 25), rdE vf (q.First : List Int), rdE vg (q.Goal : List Int), rdE va (q.Acts : List Act)] H61 := hS65.rd (hu641.sub fun _ hb => SL_rd hb)
    have hS67 : St H0 NoB (fun b => S b ∧ b < H0.size) [rdE u64n2 ((nth q.Acts k).Add : List Int), rdE u64n1 ((nth q.Acts k).Bar : List Int), rdE u64n0 ((nth q.Acts k).Need : List Int), rowE 3 v21 (markL (levelsAt q n) ((n : Int) + 1) (comes q (levelsAt q n) k) : List Int), blkE gn (.cells #[I ((n : Int) + 1)] 3), blkE g24 (.cells #[v21] 22), blkE g11 (.cells #[I ((questFault q).1), I ((questFault q).2)] 27), blkE g4 (.cells #[I (0), I (0)] 27), blkE g1 (.cells #[I (q.Facts), vf, vg, va] 25), rdE vf (q.First : List Int), rdE vg (q.Goal : List Int), rdE va (q.Acts : List Act)] H61 := hS66.rd (hu642.sub fun _ hb => SL_rd (SL_rd (hb)))
    have hS68 : St H0 NoB (fun b => S b ∧ b < H0.size) [rdE u64n3 ((nth q.Acts k).Drop : List Int), rdE u64n2 ((nth q.Acts k).Add : List Int), rdE u64n1 ((nth q.Acts k).Bar : List Int), rdE u64n0 ((nth q.Acts k).Need : List Int), rowE 3 v21 (markL (levelsAt q n) ((n : Int) + 1) (comes q (levelsAt q n) k) : List Int), blkE gn (.cells #[I ((n : Int) + 1)] 3), blkE g24 (.cells #[v21] 22), blkE g11 (.cells #[I ((questFault q).1), I ((questFault q).2)] 27), blkE g4 (.cells #[I (0), I (0)] 27), blkE g1 (.cells #[I (q.Facts), vf, vg, va] 25), rdE vf (q.First : List Int), rdE vg (q.Goal : List Int), rdE va (q.Acts : List Act)] H61 := hS67.rd (hu643.sub fun _ hb => SL_rd (SL_rd (SL_rd (hb))))
    refine wpL_q (U := NoB) rfl (q_loadE rfl rfl (hlu64 Try.prog 37 _ el_Act_37_EasyL1 (fun _ h => False.elim h))) ?_
    refine wpL_o rfl ?_
    refine e_alloc rfl Try.zeroValue37 hS68 (fun g69 H70 hS71 hxx => ?_)
    replace hS71 : St H0 NoB (fun b => S b ∧ b < H0.size) [blkE g69 (.cells #[(Value.slice none 0 0), (Value.slice none 0 0), (Value.slice none 0 0), (Value.slice none 0 0)] 37), rdE u64n3 ((nth q.Acts k).Drop : List Int), rdE u64n2 ((nth q.Acts k).Add : List Int), rdE u64n1 ((nth q.Acts k).Bar : List Int), rdE u64n0 ((nth q.Acts k).Need : List Int), rowE 3 v21 (markL (levelsAt q n) ((n : Int) + 1) (comes q (levelsAt q n) k) : List Int), blkE gn (.cells #[I ((n : Int) + 1)] 3), blkE g24 (.cells #[v21] 22), blkE g11 (.cells #[I ((questFault q).1), I ((questFault q).2)] 27), blkE g4 (.cells #[I (0), I (0)] 27), blkE g1 (.cells #[I (q.Facts), vf, vg, va] 25), rdE vf (q.First : List Int), rdE vg (q.Goal : List Int), rdE va (q.Acts : List Act)] H70 := hS71
    refine wpL_o rfl ?_
    refine e_storeBlkA (cs' := #[u64n0, u64n1, u64n2, u64n3]) rfl rfl rfl Try.sizeOf37 rfl rfl (List.forall_mem_cons.2 ⟨(oneCell_rdL (hS71.rdl 4 rfl)), List.forall_mem_cons.2 ⟨(oneCell_rdL (hS71.rdl 3 rfl)), List.forall_mem_cons.2 ⟨(oneCell_rdL (hS71.rdl 2 rfl)), List.forall_mem_cons.2 ⟨(oneCell_rdL (hS71.rdl 1 rfl)), List.forall_mem_nil _⟩⟩⟩⟩) hS71 (fun H72 hS73 hxx => ?_)
    replace hS73 : St H0 NoB (fun b => S b ∧ b < H0.size) [blkE g69 (.cells #[u64n0, u64n1, u64n2, u64n3] 37), rdE u64n3 ((nth q.Acts k).Drop : List Int), rdE u64n2 ((nth q.Acts k).Add : List Int), rdE u64n1 ((nth q.Acts k).Bar : List Int), rdE u64n0 ((nth q.Acts k).Need : List Int), rowE 3 v21 (markL (levelsAt q n) ((n : Int) + 1) (comes q (levelsAt q n) k) : List Int), blkE gn (.cells #[I ((n : Int) + 1)] 3), blkE g24 (.cells #[v21] 22), blkE g11 (.cells #[I ((questFault q).1), I ((questFault q).2)] 27), blkE g4 (.cells #[I (0), I (0)] 27), blkE g1 (.cells #[I (q.Facts), vf, vg, va] 25), rdE vf (q.First : List Int), rdE vg (q.Goal : List Int), rdE va (q.Acts : List Act)] H72 := hS73
    exact ⟨u64n0, u64n1, u64n2, u64n3, g69, a62_1, a62_3, a62_5, a62_9, a62_10, rfl, a62_48, a62_49, a62_50, hS73⟩
  rintro f74 H74 ⟨u64n0, u64n1, u64n2, u64n3, g69, a74_1, a74_3, a74_5, a74_9, a74_10, a74_12, a74_48, a74_49, a74_50, hS74⟩
  clear a62_1 a62_10 a62_3 a62_48 a62_49 a62_5 a62_50 a62_51 a62_9
  refine wpF_seq ?_
  refine wpF_seq ?_
  refine wpF_cut (fun f H => f 1 = PT g1 0 ∧ f 3 = PT g4 0 ∧ f 5 = PT g24 0 ∧ f 9 = PT gn 0 ∧ f 10 = B (cc) ∧ f 12 = PT g69 0 ∧ f 48 = va ∧ f 49 = I ((q.Acts.length : Int)) ∧ f 50 = I ((k : Int)) ∧ f 57 = B (((nth q.Acts k).Need).any (fun x => decide (nth (markL (levelsAt q n) ((n : Int) + 1) (comes q (levelsAt q n) k)) x.toNat < 0 ∨ ((n : Int) + 1) ≤ nth (markL (levelsAt q n) ((n : Int) + 1) (comes q (levelsAt q n) k)) x.toNat))) ∧ St H0 NoB (fun b => S b ∧ b < H0.size) [blkE g69 (.cells #[u64n0, u64n1, u64n2, u64n3] 37), rdE u64n3 ((nth q.Acts k).Drop : List Int), rdE u64n2 ((nth q.Acts k).Add : List Int), rdE u64n1 ((nth q.Acts k).Bar : List Int), rdE u64n0 ((nth q.Acts k).Need : List Int), rowE 3 v21 (markL (levelsAt q n) ((n : Int) + 1) (comes q (levelsAt q n) k) : List Int), blkE gn (.cells #[I ((n : Int) + 1)] 3), blkE g24 (.cells #[v21] 22), blkE g11 (.cells #[I ((questFault q).1), I ((questFault q).2)] 27), blkE g4 (.cells #[I (0), I (0)] 27), blkE g1 (.cells #[I (q.Facts), vf, vg, va] 25), rdE vf (q.First : List Int), rdE vg (q.Goal : List Int), rdE va (q.Acts : List Act)] H) ?_ ?_
  · refine wpF_region ?_
    refine wpL_q (U := NoB) rfl (q_fieldAddr rfl Try.underlying37 rfl Try.sizeOf22 a74_12) ?_
    refine wpL_q (U := NoB) rfl (q_loadBlk rfl rfl Try.isAgg22 (hS74.blk 0 rfl) rfl (fun h => h)) ?_
    refine wpL_q (U := NoB) rfl (q_makeFunc (fi' := #[]) rfl (by simp) (arr2 (v0 := PT g24 0) (v1 := PT gn 0) a74_5 a74_9)) ?_
    refine wpL_o rfl ?_
    refine e_call rfl Try.call46 (arr2 (v0 := u64n0) (v1 := Value.func (.func 47) #[] #[PT g24 0, PT gn 0]) rfl rfl) (ContainsFunc u64n0 (Value.func (.func 47) #[] #[PT g24 0, PT gn 0]) ((nth q.Acts k).Need) (fun x => decide (nth (markL (levelsAt q n) ((n : Int) + 1) (comes q (levelsAt q n) k)) x.toNat < 0 ∨ ((n : Int) + 1) ≤ nth (markL (levelsAt q n) ((n : Int) + 1) (comes q (levelsAt q n) k)) x.toNat)) (hS74.rdN 4 rfl) (fun x hx H hE => ⟨_, _, rfl, Try.call47, Levels_1 x g24 gn v21 _ ((n : Int) + 1) (hE.blk (hS74.blk 7 rfl)) (hE.blk (hS74.blk 6 rfl)) ((hS74.rowN 5 rfl).extN hE) (hnr x hx)⟩)) ?_
    rintro _ H75 ⟨hxx, rfl⟩
    have hS76 : St H0 NoB (fun b => S b ∧ b < H0.size) [blkE g69 (.cells #[u64n0, u64n1, u64n2, u64n3] 37), rdE u64n3 ((nth q.Acts k).Drop : List Int), rdE u64n2 ((nth q.Acts k).Add : List Int), rdE u64n1 ((nth q.Acts k).Bar : List Int), rdE u64n0 ((nth q.Acts k).Need : List Int), rowE 3 v21 (markL (levelsAt q n) ((n : Int) + 1) (comes q (levelsAt q n) k) : List Int), blkE gn (.cells #[I ((n : Int) + 1)] 3), blkE g24 (.cells #[v21] 22), blkE g11 (.cells #[I ((questFault q).1), I ((questFault q).2)] 27), blkE g4 (.cells #[I (0), I (0)] 27), blkE g1 (.cells #[I (q.Facts), vf, vg, va] 25), rdE vf (q.First : List Int), rdE vg (q.Goal : List Int), rdE va (q.Acts : List Act)] H75 := hS74.ext hxx
    exact ⟨a74_1, a74_3, a74_5, a74_9, a74_10, a74_12, a74_48, a74_49, a74_50, rfl, hS76⟩
  rintro f78 H78 ⟨a78_1, a78_3, a78_5, a78_9, a78_10, a78_12, a78_48, a78_49, a78_50, a78_57, hS78⟩
  clear a74_1 a74_10 a74_12 a74_3 a74_48 a74_49 a74_5 a74_50 a74_9
  refine wpF_cond a78_57 (fun h57 => ?t97) (fun h57 => ?e97)
  case t97 =>
    have hcant : canR (levelsAt q n) (nth q.Acts k) = false := by rw [hsee] at h57; simpa using h57
    refine wpF_exit ?_
    refine atX_here ?_
    refine wpF_cut (fun f H => f 1 = PT g1 0 ∧ f 3 = PT g4 0 ∧ f 5 = PT g24 0 ∧ f 9 = PT gn 0 ∧ f 10 = B (cc) ∧ f 48 = va ∧ f 49 = I ((q.Acts.length : Int)) ∧ f 50 = I ((k : Int) + 1) ∧ H78 = H) ?_ ?_
    · refine wpF_region ?_
      refine wpL_q (U := NoB) rfl (q_add rfl a78_50 rfl (by constructor <;> omega)) ?_
      refine wpL_q (U := NoB) rfl (q_move (v := I ((k : Int) + 1)) rfl rfl) ?_
      exact ⟨a78_1, a78_3, a78_5, a78_9, a78_10, a78_48, a78_49, rfl, rfl⟩
    rintro f80 _ ⟨a80_1, a80_3, a80_5, a80_9, a80_10, a80_48, a80_49, a80_50, rfl⟩
    clear a78_1 a78_10 a78_12 a78_3 a78_48 a78_49 a78_5 a78_50 a78_57 a78_9
    refine ⟨_, ?_, k + 1, cc, rfl, (by omega), (by rw [comes_cant hcant]; exact hc), a80_1, a80_3, a80_5, a80_9, a80_10, a80_48, a80_49, (Eq.trans a80_50 (congrArg I (by omega))), (show St H0 NoB (fun b => S b ∧ b < H0.size) [rowE 3 v21 (markL (levelsAt q n) ((n : Int) + 1) (comes q (levelsAt q n) (k + 1)) : List Int), blkE gn (.cells #[I ((n : Int) + 1)] 3), blkE g24 (.cells #[v21] 22), blkE g11 (.cells #[I ((questFault q).1), I ((questFault q).2)] 27), blkE g4 (.cells #[I (0), I (0)] 27), blkE g1 (.cells #[I (q.Facts), vf, vg, va] 25), rdE vf (q.First : List Int), rdE vg (q.Goal : List Int), rdE va (q.Acts : List Act)] H78 from (by have h__ := (hS78.drop (List.Sublist.cons _ (List.Sublist.cons _ (List.Sublist.cons _ (List.Sublist.cons _ (List.Sublist.cons _ (List.Sublist.cons_cons _ (List.Sublist.cons_cons _ (List.Sublist.cons_cons _ (List.Sublist.cons_cons _ (List.Sublist.cons_cons _ (List.Sublist.cons_cons _ (List.Sublist.cons_cons _ (List.Sublist.cons_cons _ (List.Sublist.cons_cons _ (List.Sublist.slnil)))))))))))))))); (first | rw [← comes_cant hcant] at h__ | rw [inAct_end (i := i) hcan (by omega)] at h__); exact h__))⟩
    omega
  have hcan : canR (levelsAt q n) (nth q.Acts k) = true := by rw [hsee] at h57; simpa using h57
  have hal := hfk.1.2.len (by omega)
  refine wpF_skip ?_
  refine wpF_seq ?_
  refine wpF_cut (fun f H => f 1 = PT g1 0 ∧ f 3 = PT g4 0 ∧ f 5 = PT g24 0 ∧ f 9 = PT gn 0 ∧ f 10 = B (cc) ∧ f 48 = va ∧ f 49 = I ((q.Acts.length : Int)) ∧ f 50 = I ((k : Int)) ∧ f 59 = u64n2 ∧ f 60 = I ((((nth q.Acts k).Add).length : Int)) ∧ f 61 = I (0) ∧ H78 = H) ?_ ?_
  · refine wpF_region ?_
    refine wpL_q (U := NoB) rfl (q_fieldAddr rfl Try.underlying37 rfl Try.sizeOf22 a78_12) ?_
    refine wpL_q (U := NoB) rfl (q_loadBlk rfl rfl Try.isAgg22 (hS78.blk 0 rfl) rfl (fun h => h)) ?_
    refine wpL_q (U := NoB) rfl (q_lenRd rfl Try.underlying22 rfl (hS78.rdl 2 rfl)) ?_
    refine wpL_q (U := NoB) rfl (q_move (v := I (0)) rfl rfl) ?_
    exact ⟨a78_1, a78_3, a78_5, a78_9, a78_10, a78_48, a78_49, a78_50, rfl, rfl, rfl, rfl⟩
  rintro f81 _ ⟨a81_1, a81_3, a81_5, a81_9, a81_10, a81_48, a81_49, a81_50, a81_59, a81_60, a81_61, rfl⟩
  clear a78_1 a78_10 a78_12 a78_3 a78_48 a78_49 a78_5 a78_50 a78_57 a78_9
  refine wpF_block ?_
  refine wpF_loop (fun mz f H => ∃ (i : Nat), ∃ (dd : Bool), mz = (nth q.Acts k).Add.length - i ∧ (i ≤ (nth q.Acts k).Add.length) ∧ (dd = true ↔ Chg (levelsAt q n) (inAct q (levelsAt q n) k i)) ∧ f 1 = PT g1 0 ∧ f 3 = PT g4 0 ∧ f 5 = PT g24 0 ∧ f 9 = PT gn 0 ∧ f 10 = B (dd) ∧ f 48 = va ∧ f 49 = I ((q.Acts.length : Int)) ∧ f 50 = I ((k : Int)) ∧ f 59 = u64n2 ∧ f 60 = I ((((nth q.Acts k).Add).length : Int)) ∧ f 61 = I ((i : Int)) ∧ St H0 NoB (fun b => S b ∧ b < H0.size) [rowE 3 v21 (markL (levelsAt q n) ((n : Int) + 1) (inAct q (levelsAt q n) k i) : List Int), blkE g69 (.cells #[u64n0, u64n1, u64n2, u64n3] 37), rdE u64n3 ((nth q.Acts k).Drop : List Int), rdE u64n2 ((nth q.Acts k).Add : List Int), rdE u64n1 ((nth q.Acts k).Bar : List Int), rdE u64n0 ((nth q.Acts k).Need : List Int), blkE gn (.cells #[I ((n : Int) + 1)] 3), blkE g24 (.cells #[v21] 22), blkE g11 (.cells #[I ((questFault q).1), I ((questFault q).2)] 27), blkE g4 (.cells #[I (0), I (0)] 27), blkE g1 (.cells #[I (q.Facts), vf, vg, va] 25), rdE vf (q.First : List Int), rdE vg (q.Goal : List Int), rdE va (q.Acts : List Act)] H) ((nth q.Acts k).Add.length - 0) ?_ ?_
  · exact ⟨0, cc, rfl, Nat.zero_le _, (by rw [inAct_zero]; exact hc), a81_1, a81_3, a81_5, a81_9, a81_10, a81_48, a81_49, a81_50, a81_59, a81_60, (Eq.trans a81_61 (congrArg I (by omega))), (show St H0 NoB (fun b => S b ∧ b < H0.size) [rowE 3 v21 (markL (levelsAt q n) ((n : Int) + 1) (inAct q (levelsAt q n) k 0) : List Int), blkE g69 (.cells #[u64n0, u64n1, u64n2, u64n3] 37), rdE u64n3 ((nth q.Acts k).Drop : List Int), rdE u64n2 ((nth q.Acts k).Add : List Int), rdE u64n1 ((nth q.Acts k).Bar : List Int), rdE u64n0 ((nth q.Acts k).Need : List Int), blkE gn (.cells #[I ((n : Int) + 1)] 3), blkE g24 (.cells #[v21] 22), blkE g11 (.cells #[I ((questFault q).1), I ((questFault q).2)] 27), blkE g4 (.cells #[I (0), I (0)] 27), blkE g1 (.cells #[I (q.Facts), vf, vg, va] 25), rdE vf (q.First : List Int), rdE vg (q.Goal : List Int), rdE va (q.Acts : List Act)] H78 from (by have h__ := (St.drop (show St H0 NoB (fun b => S b ∧ b < H0.size) [rowE 3 v21 (markL (levelsAt q n) ((n : Int) + 1) (comes q (levelsAt q n) k) : List Int), blkE g69 (.cells #[u64n0, u64n1, u64n2, u64n3] 37), rdE u64n3 ((nth q.Acts k).Drop : List Int), rdE u64n2 ((nth q.Acts k).Add : List Int), rdE u64n1 ((nth q.Acts k).Bar : List Int), rdE u64n0 ((nth q.Acts k).Need : List Int), blkE gn (.cells #[I ((n : Int) + 1)] 3), blkE g24 (.cells #[v21] 22), blkE g11 (.cells #[I ((questFault q).1), I ((questFault q).2)] 27), blkE g4 (.cells #[I (0), I (0)] 27), blkE g1 (.cells #[I (q.Facts), vf, vg, va] 25), rdE vf (q.First : List Int), rdE vg (q.Goal : List Int), rdE va (q.Acts : List Act)] H78 from ((((((((((((((hS78.front 13 rfl).front 13 rfl).front 13 rfl).front 13 rfl).front 13 rfl).front 13 rfl).front 13 rfl).front 13 rfl).front 12 rfl).front 12 rfl).front 12 rfl).front 12 rfl).front 12 rfl).front 13 rfl)) (List.Sublist.cons_cons _ (List.Sublist.cons_cons _ (List.Sublist.cons_cons _ (List.Sublist.cons_cons _ (List.Sublist.cons_cons _ (List.Sublist.cons_cons _ (List.Sublist.cons_cons _ (List.Sublist.cons_cons _ (List.Sublist.cons_cons _ (List.Sublist.cons_cons _ (List.Sublist.cons_cons _ (List.Sublist.cons_cons _ (List.Sublist.cons_cons _ (List.Sublist.cons_cons _ (List.Sublist.slnil)))))))))))))))); rw [← inAct_zero] at h__; exact h__))⟩
  intro m82 f82 H82 hI82
  obtain ⟨i, dd, hm82, hi, hd, a82_1, a82_3, a82_5, a82_9, a82_10, a82_48, a82_49, a82_50, a82_59, a82_60, a82_61, hS82⟩ := hI82
  clear a81_1 a81_10 a81_3 a81_48 a81_49 a81_5 a81_50 a81_59 a81_60 a81_61 a81_9
  refine wpF_seq ?_
  refine wpF_cut (fun f H => f 1 = PT g1 0 ∧ f 3 = PT g4 0 ∧ f 5 = PT g24 0 ∧ f 9 = PT gn 0 ∧ f 10 = B (dd) ∧ f 48 = va ∧ f 49 = I ((q.Acts.length : Int)) ∧ f 50 = I ((k : Int)) ∧ f 59 = u64n2 ∧ f 60 = I ((((nth q.Acts k).Add).length : Int)) ∧ f 61 = I ((i : Int)) ∧ f 62 = B (decide ((i : Int) < (((nth q.Acts k).Add).length : Int))) ∧ H82 = H) ?_ ?_
  · refine wpF_region ?_
    refine wpL_q (U := NoB) rfl (q_lss rfl a82_61 a82_60) ?_
    exact ⟨a82_1, a82_3, a82_5, a82_9, a82_10, a82_48, a82_49, a82_50, a82_59, a82_60, a82_61, rfl, rfl⟩
  rintro f83 _ ⟨a83_1, a83_3, a83_5, a83_9, a83_10, a83_48, a83_49, a83_50, a83_59, a83_60, a83_61, a83_62, rfl⟩
  clear a82_1 a82_10 a82_3 a82_48 a82_49 a82_5 a82_50 a82_59 a82_60 a82_61 a82_9
  refine wpF_seq ?_
  refine wpF_condP a83_62 (fun hlti => ?t96) (fun hlti => ?e96)
  case e96 =>
    refine wpF_exit ?_
    refine atX_here ?_
    refine wpF_cut (fun f H => f 1 = PT g1 0 ∧ f 3 = PT g4 0 ∧ f 5 = PT g24 0 ∧ f 9 = PT gn 0 ∧ f 10 = B (dd) ∧ f 48 = va ∧ f 49 = I ((q.Acts.length : Int)) ∧ f 50 = I ((k : Int) + 1) ∧ H82 = H) ?_ ?_
    · refine wpF_region ?_
      refine wpL_q (U := NoB) rfl (q_add rfl a83_50 rfl (by constructor <;> omega)) ?_
      refine wpL_q (U := NoB) rfl (q_move (v := I ((k : Int) + 1)) rfl rfl) ?_
      exact ⟨a83_1, a83_3, a83_5, a83_9, a83_10, a83_48, a83_49, rfl, rfl⟩
    rintro f95 _ ⟨a95_1, a95_3, a95_5, a95_9, a95_10, a95_48, a95_49, a95_50, rfl⟩
    clear a83_1 a83_10 a83_3 a83_48 a83_49 a83_5 a83_50 a83_59 a83_60 a83_61 a83_62 a83_9
    refine ⟨_, ?_, k + 1, dd, rfl, (by omega), (by rw [← inAct_end (i := i) hcan (by omega)]; exact hd), a95_1, a95_3, a95_5, a95_9, a95_10, a95_48, a95_49, (Eq.trans a95_50 (congrArg I (by omega))), (show St H0 NoB (fun b => S b ∧ b < H0.size) [rowE 3 v21 (markL (levelsAt q n) ((n : Int) + 1) (comes q (levelsAt q n) (k + 1)) : List Int), blkE gn (.cells #[I ((n : Int) + 1)] 3), blkE g24 (.cells #[v21] 22), blkE g11 (.cells #[I ((questFault q).1), I ((questFault q).2)] 27), blkE g4 (.cells #[I (0), I (0)] 27), blkE g1 (.cells #[I (q.Facts), vf, vg, va] 25), rdE vf (q.First : List Int), rdE vg (q.Goal : List Int), rdE va (q.Acts : List Act)] H82 from (by have h__ := (hS82.drop (List.Sublist.cons_cons _ (List.Sublist.cons _ (List.Sublist.cons _ (List.Sublist.cons _ (List.Sublist.cons _ (List.Sublist.cons _ (List.Sublist.cons_cons _ (List.Sublist.cons_cons _ (List.Sublist.cons_cons _ (List.Sublist.cons_cons _ (List.Sublist.cons_cons _ (List.Sublist.cons_cons _ (List.Sublist.cons_cons _ (List.Sublist.cons_cons _ (List.Sublist.slnil)))))))))))))))); (first | rw [← comes_cant hcant] at h__ | rw [inAct_end (i := i) hcan (by omega)] at h__); exact h__))⟩
    omega
  have hml2 := markL_len (L := levelsAt q n) (n := (n : Int) + 1) (p := inAct q (levelsAt q n) k i)
  have hai := (hfk.1.2 i (by omega)).1
  refine wpF_skip ?_
  refine wpF_seq ?_
  refine wpF_block ?_
  refine wpF_seq ?_
  refine wpF_cut (fun f H => f 1 = PT g1 0 ∧ f 3 = PT g4 0 ∧ f 5 = PT g24 0 ∧ f 9 = PT gn 0 ∧ f 10 = B (dd) ∧ f 14 = I (nth ((nth q.Acts k).Add) i) ∧ f 48 = va ∧ f 49 = I ((q.Acts.length : Int)) ∧ f 50 = I ((k : Int)) ∧ f 59 = u64n2 ∧ f 60 = I ((((nth q.Acts k).Add).length : Int)) ∧ f 61 = I ((i : Int)) ∧ H82 = H) ?_ ?_
  · refine wpF_region ?_
    refine wpL_q (U := NoB) rfl (q_indexRd (k := i) rfl Try.underlying22 el_Int_3_EasyL1 a83_59 a83_61 (hS82.rdl 3 rfl) (by omega) (by omega)) ?_
    refine wpL_q (U := NoB) rfl (q_loadInt (k := i) rfl rfl el_Int_3_EasyL1 (hS82.rdl 3 rfl) (by omega) (fun _ h => h)) ?_
    refine wpL_q (U := NoB) rfl (q_assign (v := I (nth ((nth q.Acts k).Add) i)) rfl rfl) ?_
    exact ⟨a83_1, a83_3, a83_5, a83_9, a83_10, rfl, a83_48, a83_49, a83_50, a83_59, a83_60, a83_61, rfl⟩
  rintro f85 _ ⟨a85_1, a85_3, a85_5, a85_9, a85_10, a85_14, a85_48, a85_49, a85_50, a85_59, a85_60, a85_61, rfl⟩
  clear a83_1 a83_10 a83_3 a83_48 a83_49 a83_5 a83_50 a83_59 a83_60 a83_61 a83_62 a83_9
  refine wpF_seq ?_
  refine wpF_cut (fun f H => f 1 = PT g1 0 ∧ f 3 = PT g4 0 ∧ f 5 = PT g24 0 ∧ f 9 = PT gn 0 ∧ f 10 = B (dd) ∧ f 14 = I (nth ((nth q.Acts k).Add) i) ∧ f 48 = va ∧ f 49 = I ((q.Acts.length : Int)) ∧ f 50 = I ((k : Int)) ∧ f 59 = u64n2 ∧ f 60 = I ((((nth q.Acts k).Add).length : Int)) ∧ f 61 = I ((i : Int)) ∧ f 69 = B (decide ((nth (markL (levelsAt q n) ((n : Int) + 1) (inAct q (levelsAt q n) k i)) ((nth ((nth q.Acts k).Add) i).toNat)) < 0)) ∧ H82 = H) ?_ ?_
  · refine wpF_region ?_
    refine wpL_q (U := NoB) rfl (q_loadBlk rfl a85_5 Try.isAgg22 (hS82.blk 7 rfl) rfl (fun h => h)) ?_
    refine wpL_q (U := NoB) rfl (q_move (v := I (nth ((nth q.Acts k).Add) i)) rfl a85_14) ?_
    refine wpL_q (U := NoB) rfl (q_indexRd (k := (nth ((nth q.Acts k).Add) i).toNat) rfl Try.underlying22 el_Int_3_EasyL1 rfl rfl (hS82.rowl 0 rfl) (by omega) (by omega)) ?_
    refine wpL_q (U := NoB) rfl (q_loadInt (k := (nth ((nth q.Acts k).Add) i).toNat) rfl rfl el_Int_3_EasyL1 (hS82.rowl 0 rfl) (by omega) (fun _ h => h)) ?_
    refine wpL_q (U := NoB) rfl (q_lss rfl rfl rfl) ?_
    exact ⟨a85_1, a85_3, a85_5, a85_9, a85_10, a85_14, a85_48, a85_49, a85_50, a85_59, a85_60, a85_61, rfl, rfl⟩
  rintro f86 _ ⟨a86_1, a86_3, a86_5, a86_9, a86_10, a86_14, a86_48, a86_49, a86_50, a86_59, a86_60, a86_61, a86_69, rfl⟩
  clear a85_1 a85_10 a85_14 a85_3 a85_48 a85_49 a85_5 a85_50 a85_59 a85_60 a85_61 a85_9
  refine wpF_cut (fun f H => ∃ (bE : Bool), (bE = true ↔ Chg (levelsAt q n) (inAct q (levelsAt q n) k (i + 1))) ∧ f 1 = PT g1 0 ∧ f 3 = PT g4 0 ∧ f 5 = PT g24 0 ∧ f 9 = PT gn 0 ∧ f 10 = B (bE) ∧ f 48 = va ∧ f 49 = I ((q.Acts.length : Int)) ∧ f 50 = I ((k : Int)) ∧ f 59 = u64n2 ∧ f 60 = I ((((nth q.Acts k).Add).length : Int)) ∧ f 61 = I ((i : Int)) ∧ St H0 NoB (fun b => S b ∧ b < H0.size) [rowE 3 v21 (markL (levelsAt q n) ((n : Int) + 1) (inAct q (levelsAt q n) k (i + 1)) : List Int), blkE g69 (.cells #[u64n0, u64n1, u64n2, u64n3] 37), rdE u64n3 ((nth q.Acts k).Drop : List Int), rdE u64n2 ((nth q.Acts k).Add : List Int), rdE u64n1 ((nth q.Acts k).Bar : List Int), rdE u64n0 ((nth q.Acts k).Need : List Int), blkE gn (.cells #[I ((n : Int) + 1)] 3), blkE g24 (.cells #[v21] 22), blkE g11 (.cells #[I ((questFault q).1), I ((questFault q).2)] 27), blkE g4 (.cells #[I (0), I (0)] 27), blkE g1 (.cells #[I (q.Facts), vf, vg, va] 25), rdE vf (q.First : List Int), rdE vg (q.Goal : List Int), rdE va (q.Acts : List Act)] H) ?_ ?_
  · refine wpF_condP a86_69 (fun h69 => ?t93) (fun h69 => ?e93)
    case e93 =>
      refine wpF_skip ?_
      exact ⟨dd, (hd.trans (markL_keep (inAct_step (q := q) (L := levelsAt q n) (k := k) (i := i) (by omega) (by omega)) (by omega) h69).2.symm), a86_1, a86_3, a86_5, a86_9, a86_10, a86_48, a86_49, a86_50, a86_59, a86_60, a86_61, (show St H0 NoB (fun b => S b ∧ b < H0.size) [rowE 3 v21 (markL (levelsAt q n) ((n : Int) + 1) (inAct q (levelsAt q n) k (i + 1)) : List Int), blkE g69 (.cells #[u64n0, u64n1, u64n2, u64n3] 37), rdE u64n3 ((nth q.Acts k).Drop : List Int), rdE u64n2 ((nth q.Acts k).Add : List Int), rdE u64n1 ((nth q.Acts k).Bar : List Int), rdE u64n0 ((nth q.Acts k).Need : List Int), blkE gn (.cells #[I ((n : Int) + 1)] 3), blkE g24 (.cells #[v21] 22), blkE g11 (.cells #[I ((questFault q).1), I ((questFault q).2)] 27), blkE g4 (.cells #[I (0), I (0)] 27), blkE g1 (.cells #[I (q.Facts), vf, vg, va] 25), rdE vf (q.First : List Int), rdE vg (q.Goal : List Int), rdE va (q.Acts : List Act)] H82 from (by have h__ := hS82; rw [← (markL_keep (inAct_step (q := q) (L := levelsAt q n) (k := k) (i := i) (by omega) (by omega)) (by omega) h69).1] at h__; exact h__))⟩
    refine wpF_cut (fun f H => f 1 = PT g1 0 ∧ f 3 = PT g4 0 ∧ f 5 = PT g24 0 ∧ f 9 = PT gn 0 ∧ f 10 = B (true) ∧ f 48 = va ∧ f 49 = I ((q.Acts.length : Int)) ∧ f 50 = I ((k : Int)) ∧ f 59 = u64n2 ∧ f 60 = I ((((nth q.Acts k).Add).length : Int)) ∧ f 61 = I ((i : Int)) ∧ St H0 NoB (fun b => S b ∧ b < H0.size) [rowE 3 v21 ((markL (levelsAt q n) ((n : Int) + 1) (inAct q (levelsAt q n) k i)).set ((nth ((nth q.Acts k).Add) i).toNat) ((n : Int) + 1) : List Int), blkE g69 (.cells #[u64n0, u64n1, u64n2, u64n3] 37), rdE u64n3 ((nth q.Acts k).Drop : List Int), rdE u64n2 ((nth q.Acts k).Add : List Int), rdE u64n1 ((nth q.Acts k).Bar : List Int), rdE u64n0 ((nth q.Acts k).Need : List Int), blkE gn (.cells #[I ((n : Int) + 1)] 3), blkE g24 (.cells #[v21] 22), blkE g11 (.cells #[I ((questFault q).1), I ((questFault q).2)] 27), blkE g4 (.cells #[I (0), I (0)] 27), blkE g1 (.cells #[I (q.Facts), vf, vg, va] 25), rdE vf (q.First : List Int), rdE vg (q.Goal : List Int), rdE va (q.Acts : List Act)] H) ?_ ?_
    · refine wpF_region ?_
      refine wpL_q (U := NoB) rfl (q_loadBlk rfl a86_5 Try.isAgg22 (hS82.blk 7 rfl) rfl (fun h => h)) ?_
      refine wpL_q (U := NoB) rfl (q_move (v := I (nth ((nth q.Acts k).Add) i)) rfl a86_14) ?_
      refine wpL_q (U := NoB) rfl (q_loadBlk rfl a86_9 Try.isAgg3 (hS82.blk 6 rfl) rfl (fun h => h)) ?_
      refine wpL_q (U := NoB) rfl (q_indexRd (k := (nth ((nth q.Acts k).Add) i).toNat) rfl Try.underlying22 el_Int_3_EasyL1 rfl rfl (hS82.rowl 0 rfl) (by omega) (by omega)) ?_
      have hS89 : St H0 NoB (fun b => S b ∧ b < H0.size) [rowE 3 v21 (markL (levelsAt q n) ((n : Int) + 1) (inAct q (levelsAt q n) k i) : List Int), blkE g69 (.cells #[u64n0, u64n1, u64n2, u64n3] 37), rdE u64n3 ((nth q.Acts k).Drop : List Int), rdE u64n2 ((nth q.Acts k).Add : List Int), rdE u64n1 ((nth q.Acts k).Bar : List Int), rdE u64n0 ((nth q.Acts k).Need : List Int), blkE gn (.cells #[I ((n : Int) + 1)] 3), blkE g24 (.cells #[v21] 22), blkE g11 (.cells #[I ((questFault q).1), I ((questFault q).2)] 27), blkE g4 (.cells #[I (0), I (0)] 27), blkE g1 (.cells #[I (q.Facts), vf, vg, va] 25), rdE vf (q.First : List Int), rdE vg (q.Goal : List Int), rdE va (q.Acts : List Act)] H82 := hS82
      refine wpL_o rfl ?_
      refine e_rowSet (k := (nth ((nth q.Acts k).Add) i).toNat) (u := I ((n : Int) + 1)) rfl rfl rfl rfl Try.sizeOf3 (by first | (simp; omega) | omega) hS89 (Rd.int.2 ⟨rfl, by constructor <;> omega⟩) (fun H90 hS91 hxx => ?_)
      replace hS91 : St H0 NoB (fun b => S b ∧ b < H0.size) [rowE 3 v21 ((markL (levelsAt q n) ((n : Int) + 1) (inAct q (levelsAt q n) k i)).set ((nth ((nth q.Acts k).Add) i).toNat) ((n : Int) + 1) : List Int), blkE g69 (.cells #[u64n0, u64n1, u64n2, u64n3] 37), rdE u64n3 ((nth q.Acts k).Drop : List Int), rdE u64n2 ((nth q.Acts k).Add : List Int), rdE u64n1 ((nth q.Acts k).Bar : List Int), rdE u64n0 ((nth q.Acts k).Need : List Int), blkE gn (.cells #[I ((n : Int) + 1)] 3), blkE g24 (.cells #[v21] 22), blkE g11 (.cells #[I ((questFault q).1), I ((questFault q).2)] 27), blkE g4 (.cells #[I (0), I (0)] 27), blkE g1 (.cells #[I (q.Facts), vf, vg, va] 25), rdE vf (q.First : List Int), rdE vg (q.Goal : List Int), rdE va (q.Acts : List Act)] H90 := hS91
      refine wpL_q (U := NoB) rfl (q_assign (v := B (true)) rfl rfl) ?_
      exact ⟨a86_1, a86_3, a86_5, a86_9, rfl, a86_48, a86_49, a86_50, a86_59, a86_60, a86_61, hS91⟩
    rintro f92 H92 ⟨a92_1, a92_3, a92_5, a92_9, a92_10, a92_48, a92_49, a92_50, a92_59, a92_60, a92_61, hS92⟩
    clear a86_1 a86_10 a86_14 a86_3 a86_48 a86_49 a86_5 a86_50 a86_59 a86_60 a86_61 a86_69 a86_9
    exact ⟨true, ⟨fun _ => Chg.set (inAct_step (q := q) (L := levelsAt q n) (k := k) (i := i) (by omega) (by omega)) (by omega) h69 (by omega), fun _ => rfl⟩, a92_1, a92_3, a92_5, a92_9, a92_10, a92_48, a92_49, a92_50, a92_59, a92_60, a92_61, (show St H0 NoB (fun b => S b ∧ b < H0.size) [rowE 3 v21 (markL (levelsAt q n) ((n : Int) + 1) (inAct q (levelsAt q n) k (i + 1)) : List Int), blkE g69 (.cells #[u64n0, u64n1, u64n2, u64n3] 37), rdE u64n3 ((nth q.Acts k).Drop : List Int), rdE u64n2 ((nth q.Acts k).Add : List Int), rdE u64n1 ((nth q.Acts k).Bar : List Int), rdE u64n0 ((nth q.Acts k).Need : List Int), blkE gn (.cells #[I ((n : Int) + 1)] 3), blkE g24 (.cells #[v21] 22), blkE g11 (.cells #[I ((questFault q).1), I ((questFault q).2)] 27), blkE g4 (.cells #[I (0), I (0)] 27), blkE g1 (.cells #[I (q.Facts), vf, vg, va] 25), rdE vf (q.First : List Int), rdE vg (q.Goal : List Int), rdE va (q.Acts : List Act)] H92 from (by have h__ := hS92; rw [markL_set (inAct_step (q := q) (L := levelsAt q n) (k := k) (i := i) (by omega) (by omega)) (by omega) h69 (by omega)] at h__; exact h__))⟩
  rintro f87 H87 ⟨bE, hE, a87_1, a87_3, a87_5, a87_9, a87_10, a87_48, a87_49, a87_50, a87_59, a87_60, a87_61, hS87⟩
  clear a86_1 a86_10 a86_14 a86_3 a86_48 a86_49 a86_5 a86_50 a86_59 a86_60 a86_61 a86_69 a86_9
  refine wpF_cut (fun f H => f 1 = PT g1 0 ∧ f 3 = PT g4 0 ∧ f 5 = PT g24 0 ∧ f 9 = PT gn 0 ∧ f 10 = B (bE) ∧ f 48 = va ∧ f 49 = I ((q.Acts.length : Int)) ∧ f 50 = I ((k : Int)) ∧ f 59 = u64n2 ∧ f 60 = I ((((nth q.Acts k).Add).length : Int)) ∧ f 61 = I ((i : Int) + 1) ∧ H87 = H) ?_ ?_
  · refine wpF_region ?_
    refine wpL_q (U := NoB) rfl (q_add rfl a87_61 rfl (by constructor <;> omega)) ?_
    refine wpL_q (U := NoB) rfl (q_move (v := I ((i : Int) + 1)) rfl rfl) ?_
    exact ⟨a87_1, a87_3, a87_5, a87_9, a87_10, a87_48, a87_49, a87_50, a87_59, a87_60, rfl, rfl⟩
  rintro f94 _ ⟨a94_1, a94_3, a94_5, a94_9, a94_10, a94_48, a94_49, a94_50, a94_59, a94_60, a94_61, rfl⟩
  clear a87_1 a87_10 a87_3 a87_48 a87_49 a87_5 a87_50 a87_59 a87_60 a87_61 a87_9
  refine ⟨_, ?_, i + 1, bE, rfl, (by omega), hE, a94_1, a94_3, a94_5, a94_9, a94_10, a94_48, a94_49, a94_50, a94_59, a94_60, (Eq.trans a94_61 (congrArg I (by omega))), hS87⟩
  omega

set_option maxHeartbeats 2000000 in
set_option maxRecDepth 100000 in
theorem Rounds_R {H0 : Heap} {S : Nat → Prop} (vf vg va : Value) (q : Quest) (h6qFacts : In64 q.Facts) (rvf : Rd S H0 vf q.First) (rvg : Rd S H0 vg q.Goal) (rva : Rd S H0 va q.Acts) (hQ : QW q) : CallsH Try.prog 25 #[Value.agg #[I (q.Facts), vf, vg, va]] H0 (fun rv_ H' => Ext NoB H0 H' ∧ Rd (fun b => S b ∧ b < H0.size) H' rv_ (levels q)) := by
  have hsf := (Rd.list.1 rvf).small
  have hsa := (Rd.list.1 rva).small
  have hfx := hQ.facts
  have hmany := hQ.many
  have hS0 : St H0 NoB (fun b => S b ∧ b < H0.size) [rdE vf (q.First : List Int), rdE vg (q.Goal : List Int), rdE va (q.Acts : List Act)] H0 := St.arg (St.arg (St.arg (St.start (fun _ h => h.2)) (Bl0.nil) rva (fun _ h => h.1)) (Bl0.cons (Bl0.nil)) rvg (fun _ h => h.1)) (Bl0.cons (Bl0.cons (Bl0.nil))) rvf (fun _ h => h.1)
  refine callsH_of_wpF (args := [Value.agg #[I (q.Facts), vf, vg, va]]) (rs := [.tmp 2]) Try.func25 rfl Try.ntmps25 Try.results25 (by kernel_rfl) (Nat.le_of_ble_eq_true rfl) ?_
  have a0_0 : argF [Value.agg #[I (q.Facts), vf, vg, va]] 0 = Value.agg #[I (q.Facts), vf, vg, va] := rfl
  generalize argF [Value.agg #[I (q.Facts), vf, vg, va]] = f0 at *
  refine wpF_seq ?_
  refine wpF_cut (fun f H => ∃ (g1 : Nat), f 1 = PT g1 0 ∧ St H0 NoB (fun b => S b ∧ b < H0.size) [blkE g1 (.cells #[I (q.Facts), vf, vg, va] 25), rdE vf (q.First : List Int), rdE vg (q.Goal : List Int), rdE va (q.Acts : List Act)] H) ?_ ?_
  · refine wpF_region ?_
    refine wpL_o rfl ?_
    refine e_box (v := Value.agg #[I (q.Facts), vf, vg, va]) rfl a0_0 hS0 (fun g1 H2 hS3 hxx => ?_)
    replace hS3 : St H0 NoB (fun b => S b ∧ b < H0.size) [blkE g1 (.cells #[I (q.Facts), vf, vg, va] 25), rdE vf (q.First : List Int), rdE vg (q.Goal : List Int), rdE va (q.Acts : List Act)] H2 := hS3
    refine wpL_q (U := NoB) rfl (q_assign (v := (Value.slice none 0 0)) rfl rfl) ?_
    exact ⟨g1, rfl, hS3⟩
  rintro f4 H4 ⟨g1, a4_1, hS4⟩
  clear a0_0
  refine wpF_seq ?_
  refine wpF_cut (fun f H => ∃ (v5 : Value), f 1 = PT g1 0 ∧ f 3 = v5 ∧ St H0 NoB (fun b => S b ∧ b < H0.size) [rowE 3 v5 (List.replicate ((q.Facts).toNat) (0 : Int) : List Int), blkE g1 (.cells #[I (q.Facts), vf, vg, va] 25), rdE vf (q.First : List Int), rdE vg (q.Goal : List Int), rdE va (q.Acts : List Act)] H) ?_ ?_
  · refine wpF_region ?_
    refine wpL_q (U := NoB) rfl (q_fieldAddr rfl Try.underlying25 rfl Try.sizeOf3 a4_1) ?_
    refine wpL_q (U := NoB) rfl (q_loadBlk rfl rfl Try.isAgg3 (hS4.blk 0 rfl) rfl (fun h => h)) ?_
    refine wpL_o rfl ?_
    refine e_makeSlice (n := (q.Facts).toNat) (x0 := ((0 : Int) : Int)) rfl Try.underlying22 Try.zeroValue3 em_Int_3_EasyL1 Try.sizeOf3 rfl rfl (by omega) (fun _ _ => Rd.int.2 ⟨rfl, by decide⟩) hS4 (by have hb : GoT.bytes Int = 8 := rfl; rw [hb]; omega) (by omega) (fun v5 H6 hS7 hxx => ?_)
    replace hS7 : St H0 NoB (fun b => S b ∧ b < H0.size) [rowE 3 v5 (List.replicate ((q.Facts).toNat) (0 : Int) : List Int), blkE g1 (.cells #[I (q.Facts), vf, vg, va] 25), rdE vf (q.First : List Int), rdE vg (q.Goal : List Int), rdE va (q.Acts : List Act)] H6 := hS7
    refine wpL_q (U := NoB) rfl (q_assign (v := v5) rfl rfl) ?_
    exact ⟨v5, a4_1, rfl, hS7⟩
  rintro f8 H8 ⟨v5, a8_1, a8_3, hS8⟩
  clear a4_1
  refine wpF_seq ?_
  refine wpF_seq ?_
  refine wpF_cut (fun f H => f 1 = PT g1 0 ∧ f 3 = v5 ∧ f 4 = I (0) ∧ H8 = H) ?_ ?_
  · refine wpF_region ?_
    refine wpL_q (U := NoB) rfl (q_assign (v := I (0)) rfl rfl) ?_
    exact ⟨a8_1, a8_3, rfl, rfl⟩
  rintro f9 _ ⟨a9_1, a9_3, a9_4, rfl⟩
  clear a8_1 a8_3
  refine wpF_block ?_
  refine wpF_loop (fun mz f H => ∃ (u : Nat), mz = q.Facts.toNat - u ∧ (u ≤ q.Facts.toNat) ∧ f 1 = PT g1 0 ∧ f 3 = v5 ∧ f 4 = I ((u : Int)) ∧ St H0 NoB (fun b => S b ∧ b < H0.size) [rowE 3 v5 (lvInit q u : List Int), blkE g1 (.cells #[I (q.Facts), vf, vg, va] 25), rdE vf (q.First : List Int), rdE vg (q.Goal : List Int), rdE va (q.Acts : List Act)] H) (q.Facts.toNat - 0) ?_ ?_
  · exact ⟨0, rfl, Nat.zero_le _, a9_1, a9_3, (Eq.trans a9_4 (congrArg I (by omega))), (show St H0 NoB (fun b => S b ∧ b < H0.size) [rowE 3 v5 (lvInit q 0 : List Int), blkE g1 (.cells #[I (q.Facts), vf, vg, va] 25), rdE vf (q.First : List Int), rdE vg (q.Goal : List Int), rdE va (q.Acts : List Act)] H8 from (by have h__ := hS8; rw [← lvInit_zero] at h__; exact h__))⟩
  intro m10 f10 H10 hI10
  obtain ⟨u, hm10, hu, a10_1, a10_3, a10_4, hS10⟩ := hI10
  clear a9_1 a9_3 a9_4
  refine wpF_seq ?_
  refine wpF_seq ?_
  refine wpF_cut (fun f H => f 1 = PT g1 0 ∧ f 3 = v5 ∧ f 4 = I ((u : Int)) ∧ f 17 = B (decide ((u : Int) < q.Facts)) ∧ H10 = H) ?_ ?_
  · refine wpF_region ?_
    refine wpL_q (U := NoB) rfl (q_move (v := I ((u : Int))) rfl a10_4) ?_
    refine wpL_q (U := NoB) rfl (q_fieldAddr rfl Try.underlying25 rfl Try.sizeOf3 a10_1) ?_
    refine wpL_q (U := NoB) rfl (q_loadBlk rfl rfl Try.isAgg3 (hS10.blk 1 rfl) rfl (fun h => h)) ?_
    refine wpL_q (U := NoB) rfl (q_lss rfl rfl rfl) ?_
    exact ⟨a10_1, a10_3, a10_4, rfl, rfl⟩
  rintro f11 _ ⟨a11_1, a11_3, a11_4, a11_17, rfl⟩
  clear a10_1 a10_3 a10_4
  refine wpF_condP a11_17 (fun hlt0 => ?t87) (fun hlt0 => ?e87)
  case t87 =>
    have hil := lvInit_len (q := q) (i := u)
    have hil2 : ((lvInit q u).set u (-1)).length = q.Facts.toNat := by rw [List.length_set, hil]
    refine wpF_skip ?_
    refine wpF_seq ?_
    refine wpF_block ?_
    refine wpF_seq ?_
    refine wpF_cut (fun f H => f 1 = PT g1 0 ∧ f 3 = v5 ∧ f 4 = I ((u : Int)) ∧ St H0 NoB (fun b => S b ∧ b < H0.size) [rowE 3 v5 ((lvInit q u).set u (-1) : List Int), blkE g1 (.cells #[I (q.Facts), vf, vg, va] 25), rdE vf (q.First : List Int), rdE vg (q.Goal : List Int), rdE va (q.Acts : List Act)] H) ?_ ?_
    · refine wpF_region ?_
      refine wpL_q (U := NoB) rfl (q_move (v := v5) rfl a11_3) ?_
      refine wpL_q (U := NoB) rfl (q_move (v := I ((u : Int))) rfl a11_4) ?_
      refine wpL_q (U := NoB) rfl (q_indexRd (k := u) rfl Try.underlying22 el_Int_3_EasyL1 rfl rfl (hS10.rowl 0 rfl) (by omega) (by omega)) ?_
      have hS13 : St H0 NoB (fun b => S b ∧ b < H0.size) [rowE 3 v5 (lvInit q u : List Int), blkE g1 (.cells #[I (q.Facts), vf, vg, va] 25), rdE vf (q.First : List Int), rdE vg (q.Goal : List Int), rdE va (q.Acts : List Act)] H10 := hS10
      refine wpL_o rfl ?_
      refine e_rowSet (k := u) (u := I (-1)) rfl rfl rfl rfl Try.sizeOf3 (by first | (simp; omega) | omega) hS13 (Rd.int.2 ⟨rfl, by constructor <;> omega⟩) (fun H14 hS15 hxx => ?_)
      replace hS15 : St H0 NoB (fun b => S b ∧ b < H0.size) [rowE 3 v5 ((lvInit q u).set u (-1) : List Int), blkE g1 (.cells #[I (q.Facts), vf, vg, va] 25), rdE vf (q.First : List Int), rdE vg (q.Goal : List Int), rdE va (q.Acts : List Act)] H14 := hS15
      exact ⟨a11_1, a11_3, a11_4, hS15⟩
    rintro f16 H16 ⟨a16_1, a16_3, a16_4, hS16⟩
    clear a11_1 a11_17 a11_3 a11_4
    refine wpF_seq ?_
    refine wpF_cut (fun f H => f 1 = PT g1 0 ∧ f 3 = v5 ∧ f 4 = I ((u : Int)) ∧ f 26 = B (hasB q.First (u : Int)) ∧ St H0 NoB (fun b => S b ∧ b < H0.size) [rowE 3 v5 ((lvInit q u).set u (-1) : List Int), blkE g1 (.cells #[I (q.Facts), vf, vg, va] 25), rdE vf (q.First : List Int), rdE vg (q.Goal : List Int), rdE va (q.Acts : List Act)] H) ?_ ?_
    · refine wpF_region ?_
      refine wpL_q (U := NoB) rfl (q_fieldAddr rfl Try.underlying25 rfl Try.sizeOf22 a16_1) ?_
      refine wpL_q (U := NoB) rfl (q_loadBlk rfl rfl Try.isAgg22 (hS16.blk 1 rfl) rfl (fun h => h)) ?_
      refine wpL_q (U := NoB) rfl (q_move (v := I ((u : Int))) rfl a16_4) ?_
      refine wpL_o rfl ?_
      refine e_call rfl Try.call41 (arr2 (v0 := vf) (v1 := I ((u : Int))) rfl rfl) (Has_R vf q.First (u : Int) (hS16.rdN 2 rfl) ) ?_
      rintro _ H17 ⟨hxx, rfl⟩
      have hS18 : St H0 NoB (fun b => S b ∧ b < H0.size) [rowE 3 v5 ((lvInit q u).set u (-1) : List Int), blkE g1 (.cells #[I (q.Facts), vf, vg, va] 25), rdE vf (q.First : List Int), rdE vg (q.Goal : List Int), rdE va (q.Acts : List Act)] H17 := hS16.ext hxx
      exact ⟨a16_1, a16_3, a16_4, rfl, hS18⟩
    rintro f20 H20 ⟨a20_1, a20_3, a20_4, a20_26, hS20⟩
    clear a16_1 a16_3 a16_4
    refine wpF_cut (fun f H => f 1 = PT g1 0 ∧ f 3 = v5 ∧ f 4 = I ((u : Int)) ∧ St H0 NoB (fun b => S b ∧ b < H0.size) [rowE 3 v5 (lvInit q (u + 1) : List Int), blkE g1 (.cells #[I (q.Facts), vf, vg, va] 25), rdE vf (q.First : List Int), rdE vg (q.Goal : List Int), rdE va (q.Acts : List Act)] H) ?_ ?_
    · refine wpF_cond a20_26 (fun h26 => ?t27) (fun h26 => ?e27)
      case e27 =>
        refine wpF_skip ?_
        exact ⟨a20_1, a20_3, a20_4, (show St H0 NoB (fun b => S b ∧ b < H0.size) [rowE 3 v5 (lvInit q (u + 1) : List Int), blkE g1 (.cells #[I (q.Facts), vf, vg, va] 25), rdE vf (q.First : List Int), rdE vg (q.Goal : List Int), rdE va (q.Acts : List Act)] H20 from (by have h__ := hS20; rw [lvInit_no h26] at h__; exact h__))⟩
      refine wpF_cut (fun f H => f 1 = PT g1 0 ∧ f 3 = v5 ∧ f 4 = I ((u : Int)) ∧ St H0 NoB (fun b => S b ∧ b < H0.size) [rowE 3 v5 (((lvInit q u).set u (-1)).set u 0 : List Int), blkE g1 (.cells #[I (q.Facts), vf, vg, va] 25), rdE vf (q.First : List Int), rdE vg (q.Goal : List Int), rdE va (q.Acts : List Act)] H) ?_ ?_
      · refine wpF_region ?_
        refine wpL_q (U := NoB) rfl (q_move (v := v5) rfl a20_3) ?_
        refine wpL_q (U := NoB) rfl (q_move (v := I ((u : Int))) rfl a20_4) ?_
        refine wpL_q (U := NoB) rfl (q_indexRd (k := u) rfl Try.underlying22 el_Int_3_EasyL1 rfl rfl (hS20.rowl 0 rfl) (by omega) (by omega)) ?_
        have hS23 : St H0 NoB (fun b => S b ∧ b < H0.size) [rowE 3 v5 ((lvInit q u).set u (-1) : List Int), blkE g1 (.cells #[I (q.Facts), vf, vg, va] 25), rdE vf (q.First : List Int), rdE vg (q.Goal : List Int), rdE va (q.Acts : List Act)] H20 := hS20
        refine wpL_o rfl ?_
        refine e_rowSet (k := u) (u := I (0)) rfl rfl rfl rfl Try.sizeOf3 (by first | (simp; omega) | omega) hS23 (Rd.int.2 ⟨rfl, by constructor <;> omega⟩) (fun H24 hS25 hxx => ?_)
        replace hS25 : St H0 NoB (fun b => S b ∧ b < H0.size) [rowE 3 v5 (((lvInit q u).set u (-1)).set u 0 : List Int), blkE g1 (.cells #[I (q.Facts), vf, vg, va] 25), rdE vf (q.First : List Int), rdE vg (q.Goal : List Int), rdE va (q.Acts : List Act)] H24 := hS25
        exact ⟨a20_1, a20_3, a20_4, hS25⟩
      rintro f26 H26 ⟨a26_1, a26_3, a26_4, hS26⟩
      clear a20_1 a20_26 a20_3 a20_4
      exact ⟨a26_1, a26_3, a26_4, (show St H0 NoB (fun b => S b ∧ b < H0.size) [rowE 3 v5 (lvInit q (u + 1) : List Int), blkE g1 (.cells #[I (q.Facts), vf, vg, va] 25), rdE vf (q.First : List Int), rdE vg (q.Goal : List Int), rdE va (q.Acts : List Act)] H26 from (by have h__ := hS26; rw [lvInit_yes h26] at h__; exact h__))⟩
    rintro f21 H21 ⟨a21_1, a21_3, a21_4, hS21⟩
    clear a20_1 a20_26 a20_3 a20_4
    refine wpF_cut (fun f H => f 1 = PT g1 0 ∧ f 3 = v5 ∧ f 4 = I ((u : Int) + 1) ∧ H21 = H) ?_ ?_
    · refine wpF_region ?_
      refine wpL_q (U := NoB) rfl (q_move (v := I ((u : Int))) rfl a21_4) ?_
      refine wpL_q (U := NoB) rfl (q_add rfl rfl rfl (by constructor <;> omega)) ?_
      refine wpL_q (U := NoB) rfl (q_assign (v := I ((u : Int) + 1)) rfl rfl) ?_
      exact ⟨a21_1, a21_3, rfl, rfl⟩
    rintro f28 _ ⟨a28_1, a28_3, a28_4, rfl⟩
    clear a21_1 a21_3 a21_4
    refine ⟨_, ?_, u + 1, rfl, (by omega), a28_1, a28_3, (Eq.trans a28_4 (congrArg I (by omega))), hS21⟩
    omega
  have hue : u = q.Facts.toNat := by omega
  refine wpF_exit ?_
  refine atX_here ?_
  refine wpF_seq ?_
  refine wpF_seq ?_
  refine wpF_cut (fun f H => f 1 = PT g1 0 ∧ f 3 = v5 ∧ f 5 = I (1) ∧ H10 = H) ?_ ?_
  · refine wpF_region ?_
    refine wpL_q (U := NoB) rfl (q_assign (v := I (1)) rfl rfl) ?_
    exact ⟨a11_1, a11_3, rfl, rfl⟩
  rintro f29 _ ⟨a29_1, a29_3, a29_5, rfl⟩
  clear a11_1 a11_17 a11_3 a11_4
  refine wpF_block ?_
  refine wpF_loop (fun mz f H => ∃ (n : Nat), mz = q.Facts.toNat + 1 - n ∧ (n ≤ q.Facts.toNat + 1) ∧ f 1 = PT g1 0 ∧ f 3 = v5 ∧ f 5 = I ((n : Int) + 1) ∧ St H0 NoB (fun b => S b ∧ b < H0.size) [rowE 3 v5 (levelsAt q n : List Int), blkE g1 (.cells #[I (q.Facts), vf, vg, va] 25), rdE vf (q.First : List Int), rdE vg (q.Goal : List Int), rdE va (q.Acts : List Act)] H) (q.Facts.toNat + 1 - 0) ?_ ?_
  · exact ⟨0, rfl, Nat.zero_le _, a29_1, a29_3, (Eq.trans a29_5 (congrArg I (by omega))), (show St H0 NoB (fun b => S b ∧ b < H0.size) [rowE 3 v5 (levelsAt q 0 : List Int), blkE g1 (.cells #[I (q.Facts), vf, vg, va] 25), rdE vf (q.First : List Int), rdE vg (q.Goal : List Int), rdE va (q.Acts : List Act)] H10 from (by have h__ := hS10; rw [hue, lvInit_all] at h__; exact h__))⟩
  intro m30 f30 H30 hI30
  obtain ⟨n, hm30, hn, a30_1, a30_3, a30_5, hS30⟩ := hI30
  clear a29_1 a29_3 a29_5
  refine wpF_seq ?_
  refine wpF_seq ?_
  refine wpF_cut (fun f H => f 1 = PT g1 0 ∧ f 3 = v5 ∧ f 5 = I ((n : Int) + 1) ∧ f 34 = B (decide (((n : Int) + 1) ≤ (q.Facts + 1))) ∧ H30 = H) ?_ ?_
  · refine wpF_region ?_
    refine wpL_q (U := NoB) rfl (q_move (v := I ((n : Int) + 1)) rfl a30_5) ?_
    refine wpL_q (U := NoB) rfl (q_fieldAddr rfl Try.underlying25 rfl Try.sizeOf3 a30_1) ?_
    refine wpL_q (U := NoB) rfl (q_loadBlk rfl rfl Try.isAgg3 (hS30.blk 1 rfl) rfl (fun h => h)) ?_
    refine wpL_q (U := NoB) rfl (q_add rfl rfl rfl (by constructor <;> omega)) ?_
    refine wpL_q (U := NoB) rfl (q_leq rfl rfl rfl) ?_
    exact ⟨a30_1, a30_3, a30_5, rfl, rfl⟩
  rintro f31 _ ⟨a31_1, a31_3, a31_5, a31_34, rfl⟩
  clear a30_1 a30_3 a30_5
  refine wpF_condP a31_34 (fun hle => ?t86) (fun hle => ?e86)
  case e86 =>
    have hne : n = q.Facts.toNat + 1 := by omega
    refine wpF_exit ?_
    refine atX_here ?_
    refine wpF_seq ?_
    refine wpF_cut (fun f H => f 2 = v5 ∧ H30 = H) ?_ ?_
    · refine wpF_region ?_
      refine wpL_q (U := NoB) rfl (q_move (v := v5) rfl a31_3) ?_
      refine wpL_q (U := NoB) rfl (q_assign (v := v5) rfl rfl) ?_
      exact ⟨rfl, rfl⟩
    rintro f84 _ ⟨a84_2, rfl⟩
    clear a31_1 a31_3 a31_34 a31_5
    refine wpF_ret ?_
    refine ⟨_, resT a84_2 resN, hS30.frame, ?_⟩
    show Rd (fun b => S b ∧ b < H0.size) H30 v5 (levels q)
    have hS85 : St H0 NoB (fun b => S b ∧ b < H0.size) [rdE v5 (levelsAt q n : List Int), blkE g1 (.cells #[I (q.Facts), vf, vg, va] 25), rdE vf (q.First : List Int), rdE vg (q.Goal : List Int), rdE va (q.Acts : List Act)] H30 := St.fin hS30
    rw [levels, ← hne]
    exact (hS85.result (hS85.rdS 0 rfl))
  have hlen := levelsAt_len (q := q) n
  refine wpF_skip ?_
  refine wpF_seq ?_
  refine wpF_block ?_
  refine wpF_seq ?_
  refine wpF_cut (fun f H => f 1 = PT g1 0 ∧ f 3 = v5 ∧ f 5 = I ((n : Int) + 1) ∧ f 6 = (Value.slice none 0 0) ∧ H30 = H) ?_ ?_
  · refine wpF_region ?_
    refine wpL_q (U := NoB) rfl (q_assign (v := (Value.slice none 0 0)) rfl rfl) ?_
    exact ⟨a31_1, a31_3, a31_5, rfl, rfl⟩
  rintro f33 _ ⟨a33_1, a33_3, a33_5, a33_6, rfl⟩
  clear a31_1 a31_3 a31_34 a31_5
  have hS34 : St H0 NoB (fun b => S b ∧ b < H0.size) [rowE 3 (Value.slice none 0 0) ([] : List Int), rowE 3 v5 (levelsAt q n : List Int), blkE g1 (.cells #[I (q.Facts), vf, vg, va] 25), rdE vf (q.First : List Int), rdE vg (q.Goal : List Int), rdE va (q.Acts : List Act)] H30 := hS30.row0 3
  refine wpF_seq ?_
  refine wpF_seq ?_
  refine wpF_cut (fun f H => f 1 = PT g1 0 ∧ f 3 = v5 ∧ f 5 = I ((n : Int) + 1) ∧ f 6 = (Value.slice none 0 0) ∧ f 7 = I (0) ∧ H30 = H) ?_ ?_
  · refine wpF_region ?_
    refine wpL_q (U := NoB) rfl (q_assign (v := I (0)) rfl rfl) ?_
    exact ⟨a33_1, a33_3, a33_5, a33_6, rfl, rfl⟩
  rintro f35 _ ⟨a35_1, a35_3, a35_5, a35_6, a35_7, rfl⟩
  clear a33_1 a33_3 a33_5 a33_6
  refine wpF_block ?_
  refine wpF_loop (fun mz f H => ∃ (k : Nat), ∃ (vc : Value), mz = q.Acts.length - k ∧ (k ≤ q.Acts.length) ∧ f 1 = PT g1 0 ∧ f 3 = v5 ∧ f 5 = I ((n : Int) + 1) ∧ f 6 = vc ∧ f 7 = I ((k : Int)) ∧ St H0 NoB (fun b => S b ∧ b < H0.size) [rowE 3 vc (comeL q (levelsAt q n) k : List Int), rowE 3 v5 (levelsAt q n : List Int), blkE g1 (.cells #[I (q.Facts), vf, vg, va] 25), rdE vf (q.First : List Int), rdE vg (q.Goal : List Int), rdE va (q.Acts : List Act)] H) (q.Acts.length - 0) ?_ ?_
  · exact ⟨0, (Value.slice none 0 0), rfl, Nat.zero_le _, a35_1, a35_3, a35_5, a35_6, (Eq.trans a35_7 (congrArg I (by omega))), (show St H0 NoB (fun b => S b ∧ b < H0.size) [rowE 3 (Value.slice none 0 0) (comeL q (levelsAt q n) 0 : List Int), rowE 3 v5 (levelsAt q n : List Int), blkE g1 (.cells #[I (q.Facts), vf, vg, va] 25), rdE vf (q.First : List Int), rdE vg (q.Goal : List Int), rdE va (q.Acts : List Act)] H30 from hS34)⟩
  intro m36 f36 H36 hI36
  obtain ⟨k, vc, hm36, hk, a36_1, a36_3, a36_5, a36_6, a36_7, hS36⟩ := hI36
  clear a35_1 a35_3 a35_5 a35_6 a35_7
  refine wpF_seq ?_
  refine wpF_seq ?_
  refine wpF_cut (fun f H => f 1 = PT g1 0 ∧ f 3 = v5 ∧ f 5 = I ((n : Int) + 1) ∧ f 6 = vc ∧ f 7 = I ((k : Int)) ∧ f 41 = B (decide ((k : Int) < (q.Acts.length : Int))) ∧ H36 = H) ?_ ?_
  · refine wpF_region ?_
    refine wpL_q (U := NoB) rfl (q_move (v := I ((k : Int))) rfl a36_7) ?_
    refine wpL_q (U := NoB) rfl (q_fieldAddr rfl Try.underlying25 rfl Try.sizeOf23 a36_1) ?_
    refine wpL_q (U := NoB) rfl (q_loadBlk rfl rfl Try.isAgg23 (hS36.blk 2 rfl) rfl (fun h => h)) ?_
    refine wpL_q (U := NoB) rfl (q_lenRd rfl Try.underlying23 rfl (hS36.rdl 5 rfl)) ?_
    refine wpL_q (U := NoB) rfl (q_lss rfl rfl rfl) ?_
    exact ⟨a36_1, a36_3, a36_5, a36_6, a36_7, rfl, rfl⟩
  rintro f37 _ ⟨a37_1, a37_3, a37_5, a37_6, a37_7, a37_41, rfl⟩
  clear a36_1 a36_3 a36_5 a36_6 a36_7
  refine wpF_condP a37_41 (fun hltk => ?t83) (fun hltk => ?e83)
  case e83 =>
    have hke : k = q.Acts.length := by omega
    have hcl := comeL_len (q := q) (L := levelsAt q n) hQ k (by omega)
    refine wpF_exit ?_
    refine atX_here ?_
    refine wpF_seq ?_
    have hS67 : St H0 NoB (fun b => S b ∧ b < H0.size) [rdE vc (comeL q (levelsAt q n) k : List Int), rowE 3 v5 (levelsAt q n : List Int), blkE g1 (.cells #[I (q.Facts), vf, vg, va] 25), rdE vf (q.First : List Int), rdE vg (q.Goal : List Int), rdE va (q.Acts : List Act)] H36 := St.fin hS36
    refine wpF_cut (fun f H => f 1 = PT g1 0 ∧ f 3 = v5 ∧ f 5 = I ((n : Int) + 1) ∧ f 6 = vc ∧ f 10 = I (0) ∧ H36 = H) ?_ ?_
    · refine wpF_region ?_
      refine wpL_q (U := NoB) rfl (q_assign (v := I (0)) rfl rfl) ?_
      exact ⟨a37_1, a37_3, a37_5, a37_6, rfl, rfl⟩
    rintro f68 _ ⟨a68_1, a68_3, a68_5, a68_6, a68_10, rfl⟩
    clear a37_1 a37_3 a37_41 a37_5 a37_6 a37_7
    refine wpF_block ?_
    refine wpF_loop (fun mz f H => ∃ (i : Nat), mz = (comeL q (levelsAt q n) k).length - i ∧ (i ≤ (comeL q (levelsAt q n) k).length) ∧ f 1 = PT g1 0 ∧ f 3 = v5 ∧ f 5 = I ((n : Int) + 1) ∧ f 6 = vc ∧ f 10 = I ((i : Int)) ∧ St H0 NoB (fun b => S b ∧ b < H0.size) [rowE 3 v5 (markL (levelsAt q n) ((n : Int) + 1) (inCome (comeL q (levelsAt q n) k) i) : List Int), rdE vc (comeL q (levelsAt q n) k : List Int), blkE g1 (.cells #[I (q.Facts), vf, vg, va] 25), rdE vf (q.First : List Int), rdE vg (q.Goal : List Int), rdE va (q.Acts : List Act)] H) ((comeL q (levelsAt q n) k).length - 0) ?_ ?_
    · exact ⟨0, rfl, Nat.zero_le _, a68_1, a68_3, a68_5, a68_6, (Eq.trans a68_10 (congrArg I (by omega))), (show St H0 NoB (fun b => S b ∧ b < H0.size) [rowE 3 v5 (markL (levelsAt q n) ((n : Int) + 1) (inCome (comeL q (levelsAt q n) k) 0) : List Int), rdE vc (comeL q (levelsAt q n) k : List Int), blkE g1 (.cells #[I (q.Facts), vf, vg, va] 25), rdE vf (q.First : List Int), rdE vg (q.Goal : List Int), rdE va (q.Acts : List Act)] H36 from (by have h__ := (St.drop (show St H0 NoB (fun b => S b ∧ b < H0.size) [rowE 3 v5 (levelsAt q n : List Int), rdE vc (comeL q (levelsAt q n) k : List Int), blkE g1 (.cells #[I (q.Facts), vf, vg, va] 25), rdE vf (q.First : List Int), rdE vg (q.Goal : List Int), rdE va (q.Acts : List Act)] H36 from ((((((hS67.front 5 rfl).front 5 rfl).front 5 rfl).front 5 rfl).front 4 rfl).front 5 rfl)) (List.Sublist.cons_cons _ (List.Sublist.cons_cons _ (List.Sublist.cons_cons _ (List.Sublist.cons_cons _ (List.Sublist.cons_cons _ (List.Sublist.cons_cons _ (List.Sublist.slnil)))))))); rw [show rowE 3 _ (levelsAt q n) = rowE 3 _ (markL (levelsAt q n) ((n : Int) + 1) (inCome (comeL q (levelsAt q n) k) 0)) from congrArg (rowE 3 _) (by rw [inCome_zero, markL_none])] at h__; exact h__))⟩
    intro m69 f69 H69 hI69
    obtain ⟨i, hm69, hi, a69_1, a69_3, a69_5, a69_6, a69_10, hS69⟩ := hI69
    clear a68_1 a68_10 a68_3 a68_5 a68_6
    refine wpF_seq ?_
    refine wpF_seq ?_
    refine wpF_cut (fun f H => f 1 = PT g1 0 ∧ f 3 = v5 ∧ f 5 = I ((n : Int) + 1) ∧ f 6 = vc ∧ f 10 = I ((i : Int)) ∧ f 83 = B (decide ((i : Int) < ((comeL q (levelsAt q n) k).length : Int))) ∧ H69 = H) ?_ ?_
    · refine wpF_region ?_
      refine wpL_q (U := NoB) rfl (q_move (v := I ((i : Int))) rfl a69_10) ?_
      refine wpL_q (U := NoB) rfl (q_move (v := vc) rfl a69_6) ?_
      refine wpL_q (U := NoB) rfl (q_lenRd rfl Try.underlying22 rfl (hS69.rdl 1 rfl)) ?_
      refine wpL_q (U := NoB) rfl (q_lss rfl rfl rfl) ?_
      exact ⟨a69_1, a69_3, a69_5, a69_6, a69_10, rfl, rfl⟩
    rintro f70 _ ⟨a70_1, a70_3, a70_5, a70_6, a70_10, a70_83, rfl⟩
    clear a69_1 a69_10 a69_3 a69_5 a69_6
    refine wpF_condP a70_83 (fun hltc => ?t82) (fun hltc => ?e82)
    case e82 =>
      have hin : inCome (comeL q (levelsAt q n) k) i = comes q (levelsAt q n) q.Acts.length := by rw [inCome_all (by omega), hke]
      refine wpF_exit ?_
      refine atX_here ?_
      refine wpF_cut (fun f H => f 1 = PT g1 0 ∧ f 3 = v5 ∧ f 5 = I (((n : Int) + 1) + 1) ∧ H69 = H) ?_ ?_
      · refine wpF_region ?_
        refine wpL_q (U := NoB) rfl (q_move (v := I ((n : Int) + 1)) rfl a70_5) ?_
        refine wpL_q (U := NoB) rfl (q_add rfl rfl rfl (by constructor <;> omega)) ?_
        refine wpL_q (U := NoB) rfl (q_assign (v := I (((n : Int) + 1) + 1)) rfl rfl) ?_
        exact ⟨a70_1, a70_3, rfl, rfl⟩
      rintro f81 _ ⟨a81_1, a81_3, a81_5, rfl⟩
      clear a70_1 a70_10 a70_3 a70_5 a70_6 a70_83
      refine ⟨_, ?_, n + 1, rfl, (by omega), a81_1, a81_3, (Eq.trans a81_5 (congrArg I (by omega))), (show St H0 NoB (fun b => S b ∧ b < H0.size) [rowE 3 v5 (levelsAt q (n + 1) : List Int), blkE g1 (.cells #[I (q.Facts), vf, vg, va] 25), rdE vf (q.First : List Int), rdE vg (q.Goal : List Int), rdE va (q.Acts : List Act)] H69 from (by have h__ := (hS69.drop (List.Sublist.cons_cons _ (List.Sublist.cons _ (List.Sublist.cons_cons _ (List.Sublist.cons_cons _ (List.Sublist.cons_cons _ (List.Sublist.cons_cons _ (List.Sublist.slnil)))))))); rw [hin] at h__; exact h__))⟩
      omega
    have hcm := comeL_mem (q := q) (L := levelsAt q n) (k := k) hQ (by omega) (nth_mem (k := i) (by omega))
    have hml := markL_len (L := levelsAt q n) (n := (n : Int) + 1) (p := inCome (comeL q (levelsAt q n) k) i)
    refine wpF_skip ?_
    refine wpF_seq ?_
    refine wpF_block ?_
    refine wpF_seq ?_
    refine wpF_cut (fun f H => f 1 = PT g1 0 ∧ f 3 = v5 ∧ f 5 = I ((n : Int) + 1) ∧ f 6 = vc ∧ f 10 = I ((i : Int)) ∧ f 93 = B (decide ((nth (markL (levelsAt q n) ((n : Int) + 1) (inCome (comeL q (levelsAt q n) k) i)) ((nth (comeL q (levelsAt q n) k) i).toNat)) < 0)) ∧ H69 = H) ?_ ?_
    · refine wpF_region ?_
      refine wpL_q (U := NoB) rfl (q_move (v := v5) rfl a70_3) ?_
      refine wpL_q (U := NoB) rfl (q_move (v := vc) rfl a70_6) ?_
      refine wpL_q (U := NoB) rfl (q_move (v := I ((i : Int))) rfl a70_10) ?_
      refine wpL_q (U := NoB) rfl (q_indexRd (k := i) rfl Try.underlying22 el_Int_3_EasyL1 rfl rfl (hS69.rdl 1 rfl) (by omega) (by omega)) ?_
      refine wpL_q (U := NoB) rfl (q_loadInt (k := i) rfl rfl el_Int_3_EasyL1 (hS69.rdl 1 rfl) (by omega) (fun _ h => h)) ?_
      refine wpL_q (U := NoB) rfl (q_indexRd (k := (nth (comeL q (levelsAt q n) k) i).toNat) rfl Try.underlying22 el_Int_3_EasyL1 rfl rfl (hS69.rowl 0 rfl) (by omega) (by omega)) ?_
      refine wpL_q (U := NoB) rfl (q_loadInt (k := (nth (comeL q (levelsAt q n) k) i).toNat) rfl rfl el_Int_3_EasyL1 (hS69.rowl 0 rfl) (by omega) (fun _ h => h)) ?_
      refine wpL_q (U := NoB) rfl (q_lss rfl rfl rfl) ?_
      exact ⟨a70_1, a70_3, a70_5, a70_6, a70_10, rfl, rfl⟩
    rintro f72 _ ⟨a72_1, a72_3, a72_5, a72_6, a72_10, a72_93, rfl⟩
    clear a70_1 a70_10 a70_3 a70_5 a70_6 a70_83
    refine wpF_cut (fun f H => f 1 = PT g1 0 ∧ f 3 = v5 ∧ f 5 = I ((n : Int) + 1) ∧ f 6 = vc ∧ f 10 = I ((i : Int)) ∧ St H0 NoB (fun b => S b ∧ b < H0.size) [rowE 3 v5 (markL (levelsAt q n) ((n : Int) + 1) (inCome (comeL q (levelsAt q n) k) (i + 1)) : List Int), rdE vc (comeL q (levelsAt q n) k : List Int), blkE g1 (.cells #[I (q.Facts), vf, vg, va] 25), rdE vf (q.First : List Int), rdE vg (q.Goal : List Int), rdE va (q.Acts : List Act)] H) ?_ ?_
    · refine wpF_condP a72_93 (fun h93 => ?t79) (fun h93 => ?e79)
      case e79 =>
        refine wpF_skip ?_
        exact ⟨a72_1, a72_3, a72_5, a72_6, a72_10, (show St H0 NoB (fun b => S b ∧ b < H0.size) [rowE 3 v5 (markL (levelsAt q n) ((n : Int) + 1) (inCome (comeL q (levelsAt q n) k) (i + 1)) : List Int), rdE vc (comeL q (levelsAt q n) k : List Int), blkE g1 (.cells #[I (q.Facts), vf, vg, va] 25), rdE vf (q.First : List Int), rdE vg (q.Goal : List Int), rdE va (q.Acts : List Act)] H69 from (by have h__ := hS69; rw [← (markL_keep (p := inCome (comeL q (levelsAt q n) k) i) (p' := inCome (comeL q (levelsAt q n) k) (i + 1)) (has_take (by omega) hcm.1) (by omega) h93).1] at h__; exact h__))⟩
      refine wpF_cut (fun f H => f 1 = PT g1 0 ∧ f 3 = v5 ∧ f 5 = I ((n : Int) + 1) ∧ f 6 = vc ∧ f 10 = I ((i : Int)) ∧ St H0 NoB (fun b => S b ∧ b < H0.size) [rowE 3 v5 ((markL (levelsAt q n) ((n : Int) + 1) (inCome (comeL q (levelsAt q n) k) i)).set ((nth (comeL q (levelsAt q n) k) i).toNat) ((n : Int) + 1) : List Int), rdE vc (comeL q (levelsAt q n) k : List Int), blkE g1 (.cells #[I (q.Facts), vf, vg, va] 25), rdE vf (q.First : List Int), rdE vg (q.Goal : List Int), rdE va (q.Acts : List Act)] H) ?_ ?_
      · refine wpF_region ?_
        refine wpL_q (U := NoB) rfl (q_move (v := v5) rfl a72_3) ?_
        refine wpL_q (U := NoB) rfl (q_move (v := vc) rfl a72_6) ?_
        refine wpL_q (U := NoB) rfl (q_move (v := I ((i : Int))) rfl a72_10) ?_
        refine wpL_q (U := NoB) rfl (q_indexRd (k := i) rfl Try.underlying22 el_Int_3_EasyL1 rfl rfl (hS69.rdl 1 rfl) (by omega) (by omega)) ?_
        refine wpL_q (U := NoB) rfl (q_loadInt (k := i) rfl rfl el_Int_3_EasyL1 (hS69.rdl 1 rfl) (by omega) (fun _ h => h)) ?_
        refine wpL_q (U := NoB) rfl (q_move (v := I ((n : Int) + 1)) rfl a72_5) ?_
        refine wpL_q (U := NoB) rfl (q_indexRd (k := (nth (comeL q (levelsAt q n) k) i).toNat) rfl Try.underlying22 el_Int_3_EasyL1 rfl rfl (hS69.rowl 0 rfl) (by omega) (by omega)) ?_
        have hS75 : St H0 NoB (fun b => S b ∧ b < H0.size) [rowE 3 v5 (markL (levelsAt q n) ((n : Int) + 1) (inCome (comeL q (levelsAt q n) k) i) : List Int), rdE vc (comeL q (levelsAt q n) k : List Int), blkE g1 (.cells #[I (q.Facts), vf, vg, va] 25), rdE vf (q.First : List Int), rdE vg (q.Goal : List Int), rdE va (q.Acts : List Act)] H69 := hS69
        refine wpL_o rfl ?_
        refine e_rowSet (k := (nth (comeL q (levelsAt q n) k) i).toNat) (u := I ((n : Int) + 1)) rfl rfl rfl rfl Try.sizeOf3 (by first | (simp; omega) | omega) hS75 (Rd.int.2 ⟨rfl, by constructor <;> omega⟩) (fun H76 hS77 hxx => ?_)
        replace hS77 : St H0 NoB (fun b => S b ∧ b < H0.size) [rowE 3 v5 ((markL (levelsAt q n) ((n : Int) + 1) (inCome (comeL q (levelsAt q n) k) i)).set ((nth (comeL q (levelsAt q n) k) i).toNat) ((n : Int) + 1) : List Int), rdE vc (comeL q (levelsAt q n) k : List Int), blkE g1 (.cells #[I (q.Facts), vf, vg, va] 25), rdE vf (q.First : List Int), rdE vg (q.Goal : List Int), rdE va (q.Acts : List Act)] H76 := hS77
        exact ⟨a72_1, a72_3, a72_5, a72_6, a72_10, hS77⟩
      rintro f78 H78 ⟨a78_1, a78_3, a78_5, a78_6, a78_10, hS78⟩
      clear a72_1 a72_10 a72_3 a72_5 a72_6 a72_93
      exact ⟨a78_1, a78_3, a78_5, a78_6, a78_10, (show St H0 NoB (fun b => S b ∧ b < H0.size) [rowE 3 v5 (markL (levelsAt q n) ((n : Int) + 1) (inCome (comeL q (levelsAt q n) k) (i + 1)) : List Int), rdE vc (comeL q (levelsAt q n) k : List Int), blkE g1 (.cells #[I (q.Facts), vf, vg, va] 25), rdE vf (q.First : List Int), rdE vg (q.Goal : List Int), rdE va (q.Acts : List Act)] H78 from (by have h__ := hS78; rw [markL_set (p := inCome (comeL q (levelsAt q n) k) i) (p' := inCome (comeL q (levelsAt q n) k) (i + 1)) (has_take (by omega) hcm.1) (by omega) h93 (by omega)] at h__; exact h__))⟩
    rintro f73 H73 ⟨a73_1, a73_3, a73_5, a73_6, a73_10, hS73⟩
    clear a72_1 a72_10 a72_3 a72_5 a72_6 a72_93
    refine wpF_cut (fun f H => f 1 = PT g1 0 ∧ f 3 = v5 ∧ f 5 = I ((n : Int) + 1) ∧ f 6 = vc ∧ f 10 = I ((i : Int) + 1) ∧ H73 = H) ?_ ?_
    · refine wpF_region ?_
      refine wpL_q (U := NoB) rfl (q_move (v := I ((i : Int))) rfl a73_10) ?_
      refine wpL_q (U := NoB) rfl (q_add rfl rfl rfl (by constructor <;> omega)) ?_
      refine wpL_q (U := NoB) rfl (q_assign (v := I ((i : Int) + 1)) rfl rfl) ?_
      exact ⟨a73_1, a73_3, a73_5, a73_6, rfl, rfl⟩
    rintro f80 _ ⟨a80_1, a80_3, a80_5, a80_6, a80_10, rfl⟩
    clear a73_1 a73_10 a73_3 a73_5 a73_6
    refine ⟨_, ?_, i + 1, rfl, (by omega), a80_1, a80_3, a80_5, a80_6, (Eq.trans a80_10 (congrArg I (by omega))), hS73⟩
    omega
  have hfk := hQ.form k (by omega)
  have hcl := comeL_len (q := q) (L := levelsAt q n) hQ k (by omega)
  have hnl := hfk.1.1.1.len (by omega)
  have hal := hfk.1.2.len (by omega)
  refine wpF_skip ?_
  refine wpF_seq ?_
  refine wpF_block ?_
  refine wpF_seq ?_
  refine wpF_cut (fun f H => f 1 = PT g1 0 ∧ f 3 = v5 ∧ f 5 = I ((n : Int) + 1) ∧ f 6 = vc ∧ f 7 = I ((k : Int)) ∧ f 8 = B (true) ∧ H36 = H) ?_ ?_
  · refine wpF_region ?_
    refine wpL_q (U := NoB) rfl (q_assign (v := B (true)) rfl rfl) ?_
    exact ⟨a37_1, a37_3, a37_5, a37_6, a37_7, rfl, rfl⟩
  rintro f39 _ ⟨a39_1, a39_3, a39_5, a39_6, a39_7, a39_8, rfl⟩
  clear a37_1 a37_3 a37_41 a37_5 a37_6 a37_7
  refine wpF_seq ?_
  refine wpF_seq ?_
  refine wpF_cut (fun f H => f 1 = PT g1 0 ∧ f 3 = v5 ∧ f 5 = I ((n : Int) + 1) ∧ f 6 = vc ∧ f 7 = I ((k : Int)) ∧ f 8 = B (true) ∧ f 9 = I (0) ∧ H36 = H) ?_ ?_
  · refine wpF_region ?_
    refine wpL_q (U := NoB) rfl (q_assign (v := I (0)) rfl rfl) ?_
    exact ⟨a39_1, a39_3, a39_5, a39_6, a39_7, a39_8, rfl, rfl⟩
  rintro f40 _ ⟨a40_1, a40_3, a40_5, a40_6, a40_7, a40_8, a40_9, rfl⟩
  clear a39_1 a39_3 a39_5 a39_6 a39_7 a39_8
  refine wpF_block ?_
  refine wpF_loop (fun mz f H => ∃ (i : Nat), ∃ (ok : Bool), mz = (nth q.Acts k).Need.length - i ∧ (i ≤ (nth q.Acts k).Need.length) ∧ (ok = true ↔ ∀ j, j < i → 0 ≤ nth (levelsAt q n) (nth (nth q.Acts k).Need j).toNat) ∧ f 1 = PT g1 0 ∧ f 3 = v5 ∧ f 5 = I ((n : Int) + 1) ∧ f 6 = vc ∧ f 7 = I ((k : Int)) ∧ f 8 = B (ok) ∧ f 9 = I ((i : Int)) ∧ St H0 NoB (fun b => S b ∧ b < H0.size) [rowE 3 vc (comeL q (levelsAt q n) k : List Int), rowE 3 v5 (levelsAt q n : List Int), blkE g1 (.cells #[I (q.Facts), vf, vg, va] 25), rdE vf (q.First : List Int), rdE vg (q.Goal : List Int), rdE va (q.Acts : List Act)] H) ((nth q.Acts k).Need.length - 0) ?_ ?_
  · exact ⟨0, true, rfl, Nat.zero_le _, ⟨fun _ j hj => absurd hj (Nat.not_lt_zero j), fun _ => rfl⟩, a40_1, a40_3, a40_5, a40_6, a40_7, a40_8, (Eq.trans a40_9 (congrArg I (by omega))), hS36⟩
  intro m41 f41 H41 hI41
  obtain ⟨i, ok, hm41, hi, hok, a41_1, a41_3, a41_5, a41_6, a41_7, a41_8, a41_9, hS41⟩ := hI41
  clear a40_1 a40_3 a40_5 a40_6 a40_7 a40_8 a40_9
  refine wpF_seq ?_
  refine wpF_seq ?_
  refine wpF_cut (fun f H => f 1 = PT g1 0 ∧ f 3 = v5 ∧ f 5 = I ((n : Int) + 1) ∧ f 6 = vc ∧ f 7 = I ((k : Int)) ∧ f 8 = B (ok) ∧ f 9 = I ((i : Int)) ∧ f 52 = B (decide ((i : Int) < (((nth q.Acts k).Need).length : Int))) ∧ H41 = H) ?_ ?_
  · refine wpF_region ?_
    refine wpL_q (U := NoB) rfl (q_move (v := I ((i : Int))) rfl a41_9) ?_
    refine wpL_q (U := NoB) rfl (q_fieldAddr rfl Try.underlying25 rfl Try.sizeOf23 a41_1) ?_
    refine wpL_q (U := NoB) rfl (q_loadBlk rfl rfl Try.isAgg23 (hS41.blk 2 rfl) rfl (fun h => h)) ?_
    refine wpL_q (U := NoB) rfl (q_move (v := I ((k : Int))) rfl a41_7) ?_
    refine wpL_q (U := NoB) rfl (q_indexRd (k := k) rfl Try.underlying23 el_Act_37_EasyL1 rfl rfl (hS41.rdl 5 rfl) (by omega) (by omega)) ?_
    refine wpL_q (U := NoB) rfl (q_fieldE (k := k) rfl Try.underlying37 rfl Try.sizeOf22 rfl rfl (hS41.rdl 5 rfl) (by omega)) ?_
    obtain ⟨_, hcu42, hFu42⟩ := (Rd.list.1 (hS41.rdS 5 rfl)).cellF k (by omega)
    obtain ⟨u42n0, u42n1, u42n2, u42n3, rfl, hu420, hu421, hu422, hu423⟩ := hcu42
    have hS43 : St H0 NoB (fun b => S b ∧ b < H0.size) [rdE u42n0 ((nth q.Acts k).Need : List Int), rowE 3 vc (comeL q (levelsAt q n) k : List Int), rowE 3 v5 (levelsAt q n : List Int), blkE g1 (.cells #[I (q.Facts), vf, vg, va] 25), rdE vf (q.First : List Int), rdE vg (q.Goal : List Int), rdE va (q.Acts : List Act)] H41 := hS41.rd (Rd.list.2 hu420)
    refine wpL_q (U := NoB) rfl (q_loadF rfl rfl (hFu42 0 _ Try.prog 22 _ rfl Try.isAgg22 (fun _ h => False.elim h))) ?_
    refine wpL_q (U := NoB) rfl (q_lenRd rfl Try.underlying22 rfl (hS43.rdl 0 rfl)) ?_
    refine wpL_q (U := NoB) rfl (q_lss rfl rfl rfl) ?_
    exact ⟨a41_1, a41_3, a41_5, a41_6, a41_7, a41_8, a41_9, rfl, rfl⟩
  rintro f44 _ ⟨a44_1, a44_3, a44_5, a44_6, a44_7, a44_8, a44_9, a44_52, rfl⟩
  clear a41_1 a41_3 a41_5 a41_6 a41_7 a41_8 a41_9
  refine wpF_condP a44_52 (fun hlti => ?t66) (fun hlti => ?e66)
  case e66 =>
    have hcan := canR_iff (a := nth q.Acts k) (L := levelsAt q n) hok (by omega)
    refine wpF_exit ?_
    refine atX_here ?_
    refine wpF_seq ?_
    refine wpF_cut (fun f H => f 1 = PT g1 0 ∧ f 3 = v5 ∧ f 5 = I ((n : Int) + 1) ∧ f 6 = vc ∧ f 7 = I ((k : Int)) ∧ f 71 = B (ok) ∧ H41 = H) ?_ ?_
    · refine wpF_region ?_
      refine wpL_q (U := NoB) rfl (q_move (v := B (ok)) rfl a44_8) ?_
      exact ⟨a44_1, a44_3, a44_5, a44_6, a44_7, rfl, rfl⟩
    rintro f53 _ ⟨a53_1, a53_3, a53_5, a53_6, a53_7, a53_71, rfl⟩
    clear a44_1 a44_3 a44_5 a44_52 a44_6 a44_7 a44_8 a44_9
    refine wpF_cut (fun f H => ∃ (vN : Value), f 1 = PT g1 0 ∧ f 3 = v5 ∧ f 5 = I ((n : Int) + 1) ∧ f 6 = vN ∧ f 7 = I ((k : Int)) ∧ St H0 NoB (fun b => S b ∧ b < H0.size) [rowE 3 vN (comeL q (levelsAt q n) (k + 1) : List Int), rowE 3 v5 (levelsAt q n : List Int), blkE g1 (.cells #[I (q.Facts), vf, vg, va] 25), rdE vf (q.First : List Int), rdE vg (q.Goal : List Int), rdE va (q.Acts : List Act)] H) ?_ ?_
    · refine wpF_cond a53_71 (fun h71 => ?t64) (fun h71 => ?e64)
      case e64 =>
        refine wpF_skip ?_
        exact ⟨vc, a53_1, a53_3, a53_5, a53_6, a53_7, (show St H0 NoB (fun b => S b ∧ b < H0.size) [rowE 3 vc (comeL q (levelsAt q n) (k + 1) : List Int), rowE 3 v5 (levelsAt q n : List Int), blkE g1 (.cells #[I (q.Facts), vf, vg, va] 25), rdE vf (q.First : List Int), rdE vg (q.Goal : List Int), rdE va (q.Acts : List Act)] H41 from (by have h__ := hS41; rw [← comeL_no (fun h => by rw [hcan, h71] at h; cases h)] at h__; exact h__))⟩
      refine wpF_cut (fun f H => ∃ (v59 : Value), f 1 = PT g1 0 ∧ f 3 = v5 ∧ f 5 = I ((n : Int) + 1) ∧ f 6 = v59 ∧ f 7 = I ((k : Int)) ∧ St H0 NoB (fun b => S b ∧ b < H0.size) [rowE 3 v59 (comeL q (levelsAt q n) (k + 1) : List Int), rowE 3 v5 (levelsAt q n : List Int), blkE g1 (.cells #[I (q.Facts), vf, vg, va] 25), rdE vf (q.First : List Int), rdE vg (q.Goal : List Int), rdE va (q.Acts : List Act)] H) ?_ ?_
      · refine wpF_region ?_
        refine wpL_q (U := NoB) rfl (q_move (v := vc) rfl a53_6) ?_
        refine wpL_q (U := NoB) rfl (q_fieldAddr rfl Try.underlying25 rfl Try.sizeOf23 a53_1) ?_
        refine wpL_q (U := NoB) rfl (q_loadBlk rfl rfl Try.isAgg23 (hS41.blk 2 rfl) rfl (fun h => h)) ?_
        refine wpL_q (U := NoB) rfl (q_move (v := I ((k : Int))) rfl a53_7) ?_
        refine wpL_q (U := NoB) rfl (q_indexRd (k := k) rfl Try.underlying23 el_Act_37_EasyL1 rfl rfl (hS41.rdl 5 rfl) (by omega) (by omega)) ?_
        refine wpL_q (U := NoB) rfl (q_fieldE (k := k) rfl Try.underlying37 rfl Try.sizeOf22 rfl rfl (hS41.rdl 5 rfl) (by omega)) ?_
        obtain ⟨_, hcu56, hFu56⟩ := (Rd.list.1 (hS41.rdS 5 rfl)).cellF k (by omega)
        obtain ⟨u56n0, u56n1, u56n2, u56n3, rfl, hu560, hu561, hu562, hu563⟩ := hcu56
        have hS57 : St H0 NoB (fun b => S b ∧ b < H0.size) [rdE u56n2 ((nth q.Acts k).Add : List Int), rowE 3 vc (comeL q (levelsAt q n) k : List Int), rowE 3 v5 (levelsAt q n : List Int), blkE g1 (.cells #[I (q.Facts), vf, vg, va] 25), rdE vf (q.First : List Int), rdE vg (q.Goal : List Int), rdE va (q.Acts : List Act)] H41 := hS41.rd (Rd.list.2 hu562)
        refine wpL_q (U := NoB) rfl (q_loadF rfl rfl (hFu56 2 _ Try.prog 22 _ rfl Try.isAgg22 (fun _ h => False.elim h))) ?_
        have hS58 : St H0 NoB (fun b => S b ∧ b < H0.size) [rowE 3 vc (comeL q (levelsAt q n) k : List Int), rdE u56n2 ((nth q.Acts k).Add : List Int), rowE 3 v5 (levelsAt q n : List Int), blkE g1 (.cells #[I (q.Facts), vf, vg, va] 25), rdE vf (q.First : List Int), rdE vg (q.Goal : List Int), rdE va (q.Acts : List Act)] H41 := (hS57.front 1 rfl)
        refine wpL_o rfl ?_
        refine e_append rfl Try.underlying22 em_Int_3_EasyL1 rfl rfl hS58 (hS58.rdS 1 rfl) (fun _ h => h) (by have hb : GoT.bytes Int = 8 := rfl; simp [hb]; omega) (by decide) (fun v59 H60 hS61 hxx => ?_)
        replace hS61 : St H0 NoB (fun b => S b ∧ b < H0.size) [rowE 3 v59 ((comeL q (levelsAt q n) k) ++ ((nth q.Acts k).Add) : List Int), rdE u56n2 ((nth q.Acts k).Add : List Int), rowE 3 v5 (levelsAt q n : List Int), blkE g1 (.cells #[I (q.Facts), vf, vg, va] 25), rdE vf (q.First : List Int), rdE vg (q.Goal : List Int), rdE va (q.Acts : List Act)] H60 := hS61
        have hS62 : St H0 NoB (fun b => S b ∧ b < H0.size) [rowE 3 v59 (comeL q (levelsAt q n) (k + 1) : List Int), rdE u56n2 ((nth q.Acts k).Add : List Int), rowE 3 v5 (levelsAt q n : List Int), blkE g1 (.cells #[I (q.Facts), vf, vg, va] 25), rdE vf (q.First : List Int), rdE vg (q.Goal : List Int), rdE va (q.Acts : List Act)] H60 := by rw [show (comeL q (levelsAt q n) (k + 1)) = ((comeL q (levelsAt q n) k) ++ ((nth q.Acts k).Add)) from (comeL_yes (hcan.trans h71))]; exact hS61
        refine wpL_q (U := NoB) rfl (q_assign (v := v59) rfl rfl) ?_
        exact ⟨v59, a53_1, a53_3, a53_5, rfl, a53_7, (hS62.drop (List.Sublist.cons_cons _ (List.Sublist.cons _ (List.Sublist.cons_cons _ (List.Sublist.cons_cons _ (List.Sublist.cons_cons _ (List.Sublist.cons_cons _ (List.Sublist.cons_cons _ (List.Sublist.slnil)))))))))⟩
      rintro f63 H63 ⟨v59, a63_1, a63_3, a63_5, a63_6, a63_7, hS63⟩
      clear a53_1 a53_3 a53_5 a53_6 a53_7 a53_71
      exact ⟨v59, a63_1, a63_3, a63_5, a63_6, a63_7, hS63⟩
    rintro f54 H54 ⟨vN, a54_1, a54_3, a54_5, a54_6, a54_7, hS54⟩
    clear a53_1 a53_3 a53_5 a53_6 a53_7 a53_71
    refine wpF_cut (fun f H => f 1 = PT g1 0 ∧ f 3 = v5 ∧ f 5 = I ((n : Int) + 1) ∧ f 6 = vN ∧ f 7 = I ((k : Int) + 1) ∧ H54 = H) ?_ ?_
    · refine wpF_region ?_
      refine wpL_q (U := NoB) rfl (q_move (v := I ((k : Int))) rfl a54_7) ?_
      refine wpL_q (U := NoB) rfl (q_add rfl rfl rfl (by constructor <;> omega)) ?_
      refine wpL_q (U := NoB) rfl (q_assign (v := I ((k : Int) + 1)) rfl rfl) ?_
      exact ⟨a54_1, a54_3, a54_5, a54_6, rfl, rfl⟩
    rintro f65 _ ⟨a65_1, a65_3, a65_5, a65_6, a65_7, rfl⟩
    clear a54_1 a54_3 a54_5 a54_6 a54_7
    refine ⟨_, ?_, k + 1, vN, rfl, (by omega), a65_1, a65_3, a65_5, a65_6, (Eq.trans a65_7 (congrArg I (by omega))), hS54⟩
    omega
  have hni := (hfk.1.1.1 i (by omega)).1
  refine wpF_skip ?_
  refine wpF_seq ?_
  refine wpF_block ?_
  refine wpF_cut (fun f H => f 1 = PT g1 0 ∧ f 3 = v5 ∧ f 5 = I ((n : Int) + 1) ∧ f 6 = vc ∧ f 7 = I ((k : Int)) ∧ f 8 = B (decide ((ok = true) ∧ (0 ≤ (nth (levelsAt q n) ((nth ((nth q.Acts k).Need) i).toNat))))) ∧ f 9 = I ((i : Int)) ∧ H41 = H) ?_ ?_
  · refine wpF_region ?_
    refine wpL_q (U := NoB) rfl (q_move (v := B (ok)) rfl a44_8) ?_
    refine wpL_q (U := NoB) rfl (q_move (v := B (ok)) rfl rfl) ?_
    by_cases hg46 : ok = true
    · have hb47 := Eq.trans rfl (congrArg B hg46)
      refine wpL_gq (U := NoB) rfl rfl rfl hb47 (q_move (v := v5) rfl a44_3) ?_
      refine wpL_gq (U := NoB) rfl rfl rfl hb47 (q_fieldAddr rfl Try.underlying25 rfl Try.sizeOf23 a44_1) ?_
      refine wpL_gq (U := NoB) rfl rfl rfl hb47 (q_loadBlk rfl rfl Try.isAgg23 (hS41.blk 2 rfl) rfl (fun h => h)) ?_
      refine wpL_gq (U := NoB) rfl rfl rfl hb47 (q_move (v := I ((k : Int))) rfl a44_7) ?_
      refine wpL_gq (U := NoB) rfl rfl rfl hb47 (q_indexRd (k := k) rfl Try.underlying23 el_Act_37_EasyL1 rfl rfl (hS41.rdl 5 rfl) (by omega) (by omega)) ?_
      refine wpL_gq (U := NoB) rfl rfl rfl hb47 (q_fieldE (k := k) rfl Try.underlying37 rfl Try.sizeOf22 rfl rfl (hS41.rdl 5 rfl) (by omega)) ?_
      obtain ⟨_, hcu49, hFu49⟩ := (Rd.list.1 (hS41.rdS 5 rfl)).cellF k (by omega)
      obtain ⟨u49n0, u49n1, u49n2, u49n3, rfl, hu490, hu491, hu492, hu493⟩ := hcu49
      have hS50 : St H0 NoB (fun b => S b ∧ b < H0.size) [rdE u49n0 ((nth q.Acts k).Need : List Int), rowE 3 vc (comeL q (levelsAt q n) k : List Int), rowE 3 v5 (levelsAt q n : List Int), blkE g1 (.cells #[I (q.Facts), vf, vg, va] 25), rdE vf (q.First : List Int), rdE vg (q.Goal : List Int), rdE va (q.Acts : List Act)] H41 := hS41.rd (Rd.list.2 hu490)
      refine wpL_gq (U := NoB) rfl rfl rfl hb47 (q_loadF rfl rfl (hFu49 0 _ Try.prog 22 _ rfl Try.isAgg22 (fun _ h => False.elim h))) ?_
      refine wpL_gq (U := NoB) rfl rfl rfl hb47 (q_move (v := I ((i : Int))) rfl a44_9) ?_
      refine wpL_gq (U := NoB) rfl rfl rfl hb47 (q_indexRd (k := i) rfl Try.underlying22 el_Int_3_EasyL1 rfl rfl (hS50.rdl 0 rfl) (by omega) (by omega)) ?_
      refine wpL_gq (U := NoB) rfl rfl rfl hb47 (q_loadInt (k := i) rfl rfl el_Int_3_EasyL1 (hS50.rdl 0 rfl) (by omega) (fun _ h => h)) ?_
      refine wpL_gq (U := NoB) rfl rfl rfl hb47 (q_indexRd (k := (nth ((nth q.Acts k).Need) i).toNat) rfl Try.underlying22 el_Int_3_EasyL1 rfl rfl (hS50.rowl 2 rfl) (by omega) (by omega)) ?_
      refine wpL_gq (U := NoB) rfl rfl rfl hb47 (q_loadInt (k := (nth ((nth q.Acts k).Need) i).toNat) rfl rfl el_Int_3_EasyL1 (hS50.rowl 2 rfl) (by omega) (fun _ h => h)) ?_
      refine wpL_gq (U := NoB) rfl rfl rfl hb47 (q_geq rfl rfl rfl) ?_
      refine wpL_q (U := NoB) rfl (q_pickT (v := B (decide (0 ≤ (nth (levelsAt q n) ((nth ((nth q.Acts k).Need) i).toNat))))) rfl hb47 rfl) ?_
      refine wpL_q (U := NoB) rfl (q_assign (v := B (decide (0 ≤ (nth (levelsAt q n) ((nth ((nth q.Acts k).Need) i).toNat))))) rfl rfl) ?_
      exact ⟨a44_1, a44_3, a44_5, a44_6, a44_7, (Eq.trans rfl (congrArg B (decide_congr_of ((Iff.rfl).trans (((and_iff_right hg46).trans Iff.rfl)).symm)))), a44_9, rfl⟩
    · have hb48 := Eq.trans rfl (congrArg B (Bool.eq_false_iff.2 hg46))
      refine wpL_gs rfl rfl rfl hb48 rfl ?_
      refine wpL_gs rfl rfl rfl hb48 rfl ?_
      refine wpL_gs rfl rfl rfl hb48 rfl ?_
      refine wpL_gs rfl rfl rfl hb48 rfl ?_
      refine wpL_gs rfl rfl rfl hb48 rfl ?_
      refine wpL_gs rfl rfl rfl hb48 rfl ?_
      refine wpL_gs rfl rfl rfl hb48 rfl ?_
      refine wpL_gs rfl rfl rfl hb48 rfl ?_
      refine wpL_gs rfl rfl rfl hb48 rfl ?_
      refine wpL_gs rfl rfl rfl hb48 rfl ?_
      refine wpL_gs rfl rfl rfl hb48 rfl ?_
      refine wpL_gs rfl rfl rfl hb48 rfl ?_
      refine wpL_gs rfl rfl rfl hb48 rfl ?_
      refine wpL_q (U := NoB) rfl (q_pickF (v := B (false)) rfl hb48 rfl) ?_
      refine wpL_q (U := NoB) rfl (q_assign (v := B (false)) rfl rfl) ?_
      exact ⟨a44_1, a44_3, a44_5, a44_6, a44_7, (Eq.trans rfl (congrArg B ((decide_eq_false (fun h => hg46 h.1)).symm))), a44_9, rfl⟩
  rintro f51 _ ⟨a51_1, a51_3, a51_5, a51_6, a51_7, a51_8, a51_9, rfl⟩
  clear a44_1 a44_3 a44_5 a44_52 a44_6 a44_7 a44_8 a44_9
  refine wpF_cut (fun f H => f 1 = PT g1 0 ∧ f 3 = v5 ∧ f 5 = I ((n : Int) + 1) ∧ f 6 = vc ∧ f 7 = I ((k : Int)) ∧ f 8 = B (decide ((ok = true) ∧ (0 ≤ (nth (levelsAt q n) ((nth ((nth q.Acts k).Need) i).toNat))))) ∧ f 9 = I ((i : Int) + 1) ∧ H41 = H) ?_ ?_
  · refine wpF_region ?_
    refine wpL_q (U := NoB) rfl (q_move (v := I ((i : Int))) rfl a51_9) ?_
    refine wpL_q (U := NoB) rfl (q_add rfl rfl rfl (by constructor <;> omega)) ?_
    refine wpL_q (U := NoB) rfl (q_assign (v := I ((i : Int) + 1)) rfl rfl) ?_
    exact ⟨a51_1, a51_3, a51_5, a51_6, a51_7, a51_8, rfl, rfl⟩
  rintro f52 _ ⟨a52_1, a52_3, a52_5, a52_6, a52_7, a52_8, a52_9, rfl⟩
  clear a51_1 a51_3 a51_5 a51_6 a51_7 a51_8 a51_9
  refine ⟨_, ?_, i + 1, decide ((ok = true) ∧ (0 ≤ (nth (levelsAt q n) ((nth ((nth q.Acts k).Need) i).toNat)))), rfl, (by omega), (all_step hok), a52_1, a52_3, a52_5, a52_6, a52_7, (Eq.trans a52_8 (congrArg B (by simp))), (Eq.trans a52_9 (congrArg I (by omega))), hS41⟩
  omega

set_option maxRecDepth 100000 in
theorem Far_L {H0 : Heap} (vf vg va : Value) (q : Quest) (h6qFacts : In64 q.Facts) (rvf : Rd NoB H0 vf q.First) (rvg : Rd NoB H0 vg q.Goal) (rva : Rd NoB H0 va q.Acts) : CallsH Try.prog 24 #[Value.agg #[I (q.Facts), vf, vg, va]] H0 (fun rv_ H' => Ext NoB H0 H' ∧ rv_ = Value.tuple #[I (farI q), B (farB q), Value.agg #[I (questFault q).1, I (questFault q).2]]) := by
  have hsg := (Rd.list.1 rvg).small
  have hS0 : St H0 NoB NoB [rdE vf (q.First : List Int), rdE vg (q.Goal : List Int), rdE va (q.Acts : List Act)] H0 := St.arg (St.arg (St.arg (St.start (fun _ h => h.elim)) (Bl0.nil) rva (fun _ h => h)) (Bl0.cons (Bl0.nil)) rvg (fun _ h => h)) (Bl0.cons (Bl0.cons (Bl0.nil))) rvf (fun _ h => h)
  refine callsH_of_wpF (args := [Value.agg #[I (q.Facts), vf, vg, va]]) (rs := [.tmp 2, .tmp 3, .cell 4 27]) Try.func24 rfl Try.ntmps24 Try.results24 (by kernel_rfl) (Nat.le_of_ble_eq_true rfl) ?_
  have a0_0 : argF [Value.agg #[I (q.Facts), vf, vg, va]] 0 = Value.agg #[I (q.Facts), vf, vg, va] := rfl
  generalize argF [Value.agg #[I (q.Facts), vf, vg, va]] = f0 at *
  refine wpF_seq ?_
  refine wpF_cut (fun f H => ∃ (g1 : Nat), ∃ (g4 : Nat), f 1 = PT g1 0 ∧ f 4 = PT g4 0 ∧ St H0 NoB NoB [blkE g4 (.cells #[I (0), I (0)] 27), blkE g1 (.cells #[I (q.Facts), vf, vg, va] 25), rdE vf (q.First : List Int), rdE vg (q.Goal : List Int), rdE va (q.Acts : List Act)] H) ?_ ?_
  · refine wpF_region ?_
    refine wpL_o rfl ?_
    refine e_box (v := Value.agg #[I (q.Facts), vf, vg, va]) rfl a0_0 hS0 (fun g1 H2 hS3 hxx => ?_)
    replace hS3 : St H0 NoB NoB [blkE g1 (.cells #[I (q.Facts), vf, vg, va] 25), rdE vf (q.First : List Int), rdE vg (q.Goal : List Int), rdE va (q.Acts : List Act)] H2 := hS3
    refine wpL_q (U := NoB) rfl (q_assign (v := I (0)) rfl rfl) ?_
    refine wpL_q (U := NoB) rfl (q_assign (v := B (false)) rfl rfl) ?_
    refine wpL_o rfl ?_
    refine e_alloc rfl Try.zeroValue27 hS3 (fun g4 H5 hS6 hxx => ?_)
    replace hS6 : St H0 NoB NoB [blkE g4 (.cells #[I (0), I (0)] 27), blkE g1 (.cells #[I (q.Facts), vf, vg, va] 25), rdE vf (q.First : List Int), rdE vg (q.Goal : List Int), rdE va (q.Acts : List Act)] H5 := hS6
    exact ⟨g1, g4, rfl, rfl, hS6⟩
  rintro f7 H7 ⟨g1, g4, a7_1, a7_4, hS7⟩
  clear a0_0
  refine wpF_seq ?_
  refine wpF_cut (fun f H => ∃ (r8 : Value), ∃ (g12 : Nat), f 1 = PT g1 0 ∧ f 4 = PT g4 0 ∧ f 5 = r8 ∧ f 6 = PT g12 0 ∧ St H0 NoB NoB [blkE g12 (.cells #[I ((questFault q).1), I ((questFault q).2)] 27), rdE r8 (levelsOut q : List Int), blkE g4 (.cells #[I (0), I (0)] 27), blkE g1 (.cells #[I (q.Facts), vf, vg, va] 25), rdE vf (q.First : List Int), rdE vg (q.Goal : List Int), rdE va (q.Acts : List Act)] H) ?_ ?_
  · refine wpF_region ?_
    refine wpL_q (U := NoB) rfl (q_loadBlkA rfl a7_1 Try.isAgg25 Try.sizeOf25 rfl (hS7.blk 1 rfl) (fun h => h)) ?_
    refine wpL_o rfl ?_
    refine e_call rfl Try.call23 (arr1 (v0 := Value.agg #[I (q.Facts), vf, vg, va]) rfl) (Levels_L vf vg va q (by first | assumption | (constructor <;> omega)) (hS7.rdS 2 rfl) (hS7.rdS 3 rfl) (hS7.rdS 4 rfl) ) ?_
    rintro _ H9 ⟨hxx, r8, rfl, hrr8⟩
    have hS10 : St H0 NoB NoB [rdE r8 (levelsOut q : List Int), blkE g4 (.cells #[I (0), I (0)] 27), blkE g1 (.cells #[I (q.Facts), vf, vg, va] 25), rdE vf (q.First : List Int), rdE vg (q.Goal : List Int), rdE va (q.Acts : List Act)] H9 := hS7.res hxx hrr8
    refine wpL_q (U := NoB) rfl (q_move (v := Value.tuple #[r8, Value.agg #[I ((questFault q).1), I ((questFault q).2)]]) rfl rfl) ?_
    refine wpL_q (U := NoB) rfl (q_extract (vs := #[r8, Value.agg #[I ((questFault q).1), I ((questFault q).2)]]) (v := r8) rfl rfl rfl) ?_
    refine wpL_q (U := NoB) rfl (q_extract (vs := #[r8, Value.agg #[I ((questFault q).1), I ((questFault q).2)]]) (v := Value.agg #[I ((questFault q).1), I ((questFault q).2)]) rfl rfl rfl) ?_
    refine wpL_o rfl ?_
    refine e_alloc rfl Try.zeroValue27 hS10 (fun g12 H13 hS14 hxx => ?_)
    replace hS14 : St H0 NoB NoB [blkE g12 (.cells #[I (0), I (0)] 27), rdE r8 (levelsOut q : List Int), blkE g4 (.cells #[I (0), I (0)] 27), blkE g1 (.cells #[I (q.Facts), vf, vg, va] 25), rdE vf (q.First : List Int), rdE vg (q.Goal : List Int), rdE va (q.Acts : List Act)] H13 := hS14
    refine wpL_q (U := NoB) rfl (q_assign (v := r8) rfl rfl) ?_
    refine wpL_o rfl ?_
    refine e_storeBlkA (cs' := #[I ((questFault q).1), I ((questFault q).2)]) rfl rfl rfl Try.sizeOf27 rfl rfl (List.forall_mem_cons.2 ⟨rfl, List.forall_mem_cons.2 ⟨rfl, List.forall_mem_nil _⟩⟩) hS14 (fun H15 hS16 hxx => ?_)
    replace hS16 : St H0 NoB NoB [blkE g12 (.cells #[I ((questFault q).1), I ((questFault q).2)] 27), rdE r8 (levelsOut q : List Int), blkE g4 (.cells #[I (0), I (0)] 27), blkE g1 (.cells #[I (q.Facts), vf, vg, va] 25), rdE vf (q.First : List Int), rdE vg (q.Goal : List Int), rdE va (q.Acts : List Act)] H15 := hS16
    exact ⟨r8, g12, a7_1, a7_4, rfl, rfl, hS16⟩
  rintro f17 H17 ⟨r8, g12, a17_1, a17_4, a17_5, a17_6, hS17⟩
  clear a7_1 a7_4
  refine wpF_seq ?_
  refine wpF_seq ?_
  refine wpF_cut (fun f H => f 1 = PT g1 0 ∧ f 4 = PT g4 0 ∧ f 5 = r8 ∧ f 6 = PT g12 0 ∧ f 17 = B (decide (((questFault q).1) ≠ 0)) ∧ H17 = H) ?_ ?_
  · refine wpF_region ?_
    refine wpL_q (U := NoB) rfl (q_fieldAddr rfl Try.underlying27 rfl Try.sizeOf3 a17_6) ?_
    refine wpL_q (U := NoB) rfl (q_loadBlk rfl rfl Try.isAgg3 (hS17.blk 0 rfl) rfl (fun h => h)) ?_
    refine wpL_q (U := NoB) rfl (q_neq rfl rfl rfl) ?_
    exact ⟨a17_1, a17_4, a17_5, a17_6, rfl, rfl⟩
  rintro f18 _ ⟨a18_1, a18_4, a18_5, a18_6, a18_17, rfl⟩
  clear a17_1 a17_4 a17_5 a17_6
  refine wpF_condP a18_17 (fun h1 => ?t40) (fun h1 => ?e40)
  case t40 =>
    refine wpF_seq ?_
    refine wpF_cut (fun f H => f 2 = I (0) ∧ f 3 = B (false) ∧ f 4 = PT g4 0 ∧ St H0 NoB NoB [blkE g4 (.cells #[I ((questFault q).1), I ((questFault q).2)] 27), blkE g12 (.cells #[I ((questFault q).1), I ((questFault q).2)] 27), blkE g1 (.cells #[I (q.Facts), vf, vg, va] 25), rdE vf (q.First : List Int), rdE vg (q.Goal : List Int), rdE va (q.Acts : List Act)] H) ?_ ?_
    · refine wpF_drawn [none, none, none, some 0] [[], [], [], []] (fun l b => match l with | 0 => True | _ => False) (by kernel_rfl) (by kernel_rfl) ?_
      refine wpR_q 0 (by kernel_rfl) rfl (quietAt rfl rfl (q_loadBlkA rfl a18_6 Try.isAgg27 Try.sizeOf27 rfl (hS17.blk 0 rfl) (labU_not [] rfl (List.forall_mem_nil _)))) ?_
      refine wpR_q 1 (by kernel_rfl) rfl (quietAt rfl rfl (q_assign (v := I (0)) rfl rfl)) ?_
      refine wpR_q 2 (by kernel_rfl) rfl (quietAt rfl rfl (q_assign (v := B (false)) rfl rfl)) ?_
      refine wpR_n [3] (by kernel_rfl) ?_
      refine List.forall_mem_cons.2 ⟨?_, List.forall_mem_nil _⟩
      refine exE rfl rfl ?_
      refine e_storeBlkA (cs' := #[I ((questFault q).1), I ((questFault q).2)]) rfl a18_4 rfl Try.sizeOf27 rfl rfl (List.forall_mem_cons.2 ⟨rfl, List.forall_mem_cons.2 ⟨rfl, List.forall_mem_nil _⟩⟩) (hS17.front 2 rfl) (fun H20o3 hS20o3 hxx => ?_)
      replace hS20o3 : St H0 NoB NoB [blkE g4 (.cells #[I ((questFault q).1), I ((questFault q).2)] 27), blkE g12 (.cells #[I ((questFault q).1), I ((questFault q).2)] 27), rdE r8 (levelsOut q : List Int), blkE g1 (.cells #[I (q.Facts), vf, vg, va] 25), rdE vf (q.First : List Int), rdE vg (q.Goal : List Int), rdE va (q.Acts : List Act)] H20o3 := hS20o3
      refine ⟨Ext.mono hxx (labS_of 0 rfl (fun _ _ => trivial)), ?_⟩
      refine wpR_end (by kernel_rfl) ?_
      exact ⟨rfl, rfl, a18_4, (hS20o3.drop (List.Sublist.cons_cons _ (List.Sublist.cons_cons _ (List.Sublist.cons _ (List.Sublist.cons_cons _ (List.Sublist.cons_cons _ (List.Sublist.cons_cons _ (List.Sublist.cons_cons _ (List.Sublist.slnil)))))))))⟩
    rintro f21 H21 ⟨a21_2, a21_3, a21_4, hS21⟩
    clear a18_1 a18_17 a18_4 a18_5 a18_6
    refine wpF_ret ?_
    refine ⟨_, resT a21_2 (resT a21_3 (resC a21_4 (loadV_blkA Try.isAgg27 Try.sizeOf27 rfl (hS21.blk 0 rfl)) (resN))), hS21.frame, ?_⟩
    show (Value.tuple #[I (0), B (false), Value.agg #[I ((questFault q).1), I ((questFault q).2)]]) = Value.tuple #[I (farI q), B (farB q), Value.agg #[I (questFault q).1, I (questFault q).2]]
    rw [farI, farB, if_pos h1, if_pos h1]
  have hQ := QW.of (Decidable.of_not_not h1)
  have hfx := hQ.facts
  have hlo : levelsOut q = levels q := by rw [levelsOut, if_neg h1]
  have hll : (levelsOut q).length = q.Facts.toNat := by rw [hlo]; exact levelsAt_len _
  refine wpF_skip ?_
  refine wpF_seq ?_
  refine wpF_cut (fun f H => f 1 = PT g1 0 ∧ f 4 = PT g4 0 ∧ f 5 = r8 ∧ f 7 = I (0) ∧ H17 = H) ?_ ?_
  · refine wpF_region ?_
    refine wpL_q (U := NoB) rfl (q_assign (v := I (0)) rfl rfl) ?_
    exact ⟨a18_1, a18_4, a18_5, rfl, rfl⟩
  rintro f22 _ ⟨a22_1, a22_4, a22_5, a22_7, rfl⟩
  clear a18_1 a18_17 a18_4 a18_5 a18_6
  refine wpF_seq ?_
  refine wpF_seq ?_
  refine wpF_cut (fun f H => f 4 = PT g4 0 ∧ f 5 = r8 ∧ f 7 = I (0) ∧ f 20 = vg ∧ f 21 = I ((q.Goal.length : Int)) ∧ f 22 = I (0) ∧ H17 = H) ?_ ?_
  · refine wpF_region ?_
    refine wpL_q (U := NoB) rfl (q_fieldAddr rfl Try.underlying25 rfl Try.sizeOf22 a22_1) ?_
    refine wpL_q (U := NoB) rfl (q_loadBlk rfl rfl Try.isAgg22 (hS17.blk 3 rfl) rfl (fun h => h)) ?_
    refine wpL_q (U := NoB) rfl (q_lenRd rfl Try.underlying22 rfl (hS17.rdl 5 rfl)) ?_
    refine wpL_q (U := NoB) rfl (q_move (v := I (0)) rfl rfl) ?_
    exact ⟨a22_4, a22_5, a22_7, rfl, rfl, rfl, rfl⟩
  rintro f23 _ ⟨a23_4, a23_5, a23_7, a23_20, a23_21, a23_22, rfl⟩
  clear a22_1 a22_4 a22_5 a22_7
  refine wpF_block ?_
  refine wpF_loop (fun mz f H => ∃ (i : Nat), mz = q.Goal.length - i ∧ (i ≤ q.Goal.length) ∧ (farOk (levelsOut q) (q.Goal.take i) = true) ∧ f 4 = PT g4 0 ∧ f 5 = r8 ∧ f 7 = I (farTo (levelsOut q) (q.Goal.take i)) ∧ f 20 = vg ∧ f 21 = I ((q.Goal.length : Int)) ∧ f 22 = I ((i : Int)) ∧ St H0 NoB NoB [blkE g12 (.cells #[I ((questFault q).1), I ((questFault q).2)] 27), rdE r8 (levelsOut q : List Int), blkE g4 (.cells #[I (0), I (0)] 27), blkE g1 (.cells #[I (q.Facts), vf, vg, va] 25), rdE vf (q.First : List Int), rdE vg (q.Goal : List Int), rdE va (q.Acts : List Act)] H) (q.Goal.length - 0) ?_ ?_
  · exact ⟨0, rfl, Nat.zero_le _, rfl, a23_4, a23_5, a23_7, a23_20, a23_21, (Eq.trans a23_22 (congrArg I (by omega))), hS17⟩
  intro m24 f24 H24 hI24
  obtain ⟨i, hm24, hi, hok, a24_4, a24_5, a24_7, a24_20, a24_21, a24_22, hS24⟩ := hI24
  clear a23_20 a23_21 a23_22 a23_4 a23_5 a23_7
  refine wpF_seq ?_
  refine wpF_cut (fun f H => f 4 = PT g4 0 ∧ f 5 = r8 ∧ f 7 = I (farTo (levelsOut q) (q.Goal.take i)) ∧ f 20 = vg ∧ f 21 = I ((q.Goal.length : Int)) ∧ f 22 = I ((i : Int)) ∧ f 23 = B (decide ((i : Int) < (q.Goal.length : Int))) ∧ H24 = H) ?_ ?_
  · refine wpF_region ?_
    refine wpL_q (U := NoB) rfl (q_lss rfl a24_22 a24_21) ?_
    exact ⟨a24_4, a24_5, a24_7, a24_20, a24_21, a24_22, rfl, rfl⟩
  rintro f25 _ ⟨a25_4, a25_5, a25_7, a25_20, a25_21, a25_22, a25_23, rfl⟩
  clear a24_20 a24_21 a24_22 a24_4 a24_5 a24_7
  refine wpF_seq ?_
  refine wpF_condP a25_23 (fun hlt => ?t39) (fun hlt => ?e39)
  case e39 =>
    refine wpF_exit ?_
    refine atX_here ?_
    refine wpF_seq ?_
    refine wpF_cut (fun f H => f 2 = I (farTo (levelsOut q) (q.Goal.take i)) ∧ f 3 = B (true) ∧ f 4 = PT g4 0 ∧ St H0 NoB NoB [blkE g4 (.cells #[I (0), I (0)] 27), blkE g12 (.cells #[I ((questFault q).1), I ((questFault q).2)] 27), blkE g1 (.cells #[I (q.Facts), vf, vg, va] 25), rdE vf (q.First : List Int), rdE vg (q.Goal : List Int), rdE va (q.Acts : List Act)] H) ?_ ?_
    · refine wpF_region ?_
      refine wpL_q (U := NoB) rfl (q_move (v := I (farTo (levelsOut q) (q.Goal.take i))) rfl a25_7) ?_
      refine wpL_q (U := NoB) rfl (q_build (v := Value.agg #[I (0), I (0)]) rfl par0 (fun w => by kernel_rfl)) ?_
      refine wpL_q (U := NoB) rfl (q_assign (v := I (farTo (levelsOut q) (q.Goal.take i))) rfl rfl) ?_
      refine wpL_q (U := NoB) rfl (q_assign (v := B (true)) rfl rfl) ?_
      refine wpL_o rfl ?_
      refine e_storeBlkA (cs' := #[I (0), I (0)]) rfl a25_4 rfl Try.sizeOf27 rfl rfl (List.forall_mem_cons.2 ⟨rfl, List.forall_mem_cons.2 ⟨rfl, List.forall_mem_nil _⟩⟩) (hS24.front 2 rfl) (fun H36 hS37 hxx => ?_)
      replace hS37 : St H0 NoB NoB [blkE g4 (.cells #[I (0), I (0)] 27), blkE g12 (.cells #[I ((questFault q).1), I ((questFault q).2)] 27), rdE r8 (levelsOut q : List Int), blkE g1 (.cells #[I (q.Facts), vf, vg, va] 25), rdE vf (q.First : List Int), rdE vg (q.Goal : List Int), rdE va (q.Acts : List Act)] H36 := hS37
      exact ⟨rfl, rfl, a25_4, (hS37.drop (List.Sublist.cons_cons _ (List.Sublist.cons_cons _ (List.Sublist.cons _ (List.Sublist.cons_cons _ (List.Sublist.cons_cons _ (List.Sublist.cons_cons _ (List.Sublist.cons_cons _ (List.Sublist.slnil)))))))))⟩
    rintro f38 H38 ⟨a38_2, a38_3, a38_4, hS38⟩
    clear a25_20 a25_21 a25_22 a25_23 a25_4 a25_5 a25_7
    refine wpF_ret ?_
    refine ⟨_, resT a38_2 (resT a38_3 (resC a38_4 (loadV_blkA Try.isAgg27 Try.sizeOf27 rfl (hS38.blk 0 rfl)) (resN))), hS38.frame, ?_⟩
    show (Value.tuple #[I (farTo (levelsOut q) (q.Goal.take i)), B (true), Value.agg #[I (0), I (0)]]) = Value.tuple #[I (farI q), B (farB q), Value.agg #[I (questFault q).1, I (questFault q).2]]
    rw [List.take_of_length_le (by omega)] at hok
    rw [hlo] at hok
    rw [List.take_of_length_le (by omega), hlo, farI, farB, if_neg h1, if_neg h1, farN, if_pos hok, hok, hQ.code]
  have hgi := (hQ.goal i (by omega)).1
  refine wpF_skip ?_
  refine wpF_seq ?_
  refine wpF_block ?_
  refine wpF_seq ?_
  refine wpF_cut (fun f H => f 4 = PT g4 0 ∧ f 5 = r8 ∧ f 7 = I (farTo (levelsOut q) (q.Goal.take i)) ∧ f 9 = I (nth q.Goal i) ∧ f 20 = vg ∧ f 21 = I ((q.Goal.length : Int)) ∧ f 22 = I ((i : Int)) ∧ H24 = H) ?_ ?_
  · refine wpF_region ?_
    refine wpL_q (U := NoB) rfl (q_indexRd (k := i) rfl Try.underlying22 el_Int_3_EasyL1 a25_20 a25_22 (hS24.rdl 5 rfl) (by omega) (by omega)) ?_
    refine wpL_q (U := NoB) rfl (q_loadInt (k := i) rfl rfl el_Int_3_EasyL1 (hS24.rdl 5 rfl) (by omega) (fun _ h => h)) ?_
    refine wpL_q (U := NoB) rfl (q_assign (v := I (nth q.Goal i)) rfl rfl) ?_
    exact ⟨a25_4, a25_5, a25_7, rfl, a25_20, a25_21, a25_22, rfl⟩
  rintro f27 _ ⟨a27_4, a27_5, a27_7, a27_9, a27_20, a27_21, a27_22, rfl⟩
  clear a25_20 a25_21 a25_22 a25_23 a25_4 a25_5 a25_7
  refine wpF_seq ?_
  refine wpF_seq ?_
  refine wpF_cut (fun f H => f 4 = PT g4 0 ∧ f 5 = r8 ∧ f 7 = I (farTo (levelsOut q) (q.Goal.take i)) ∧ f 9 = I (nth q.Goal i) ∧ f 20 = vg ∧ f 21 = I ((q.Goal.length : Int)) ∧ f 22 = I ((i : Int)) ∧ f 30 = B (decide ((nth (levelsOut q) ((nth q.Goal i).toNat)) < 0)) ∧ H24 = H) ?_ ?_
  · refine wpF_region ?_
    refine wpL_q (U := NoB) rfl (q_move (v := r8) rfl a27_5) ?_
    refine wpL_q (U := NoB) rfl (q_move (v := I (nth q.Goal i)) rfl a27_9) ?_
    refine wpL_q (U := NoB) rfl (q_indexRd (k := (nth q.Goal i).toNat) rfl Try.underlying22 el_Int_3_EasyL1 rfl rfl (hS24.rdl 1 rfl) (by omega) (by omega)) ?_
    refine wpL_q (U := NoB) rfl (q_loadInt (k := (nth q.Goal i).toNat) rfl rfl el_Int_3_EasyL1 (hS24.rdl 1 rfl) (by omega) (fun _ h => h)) ?_
    refine wpL_q (U := NoB) rfl (q_lss rfl rfl rfl) ?_
    exact ⟨a27_4, a27_5, a27_7, a27_9, a27_20, a27_21, a27_22, rfl, rfl⟩
  rintro f28 _ ⟨a28_4, a28_5, a28_7, a28_9, a28_20, a28_21, a28_22, a28_30, rfl⟩
  clear a27_20 a27_21 a27_22 a27_4 a27_5 a27_7 a27_9
  refine wpF_condP a28_30 (fun h30 => ?t35) (fun h30 => ?e35)
  case t35 =>
    refine wpF_seq ?_
    refine wpF_cut (fun f H => f 2 = I (0) ∧ f 3 = B (false) ∧ f 4 = PT g4 0 ∧ St H0 NoB NoB [blkE g4 (.cells #[I (0), I (0)] 27), blkE g12 (.cells #[I ((questFault q).1), I ((questFault q).2)] 27), blkE g1 (.cells #[I (q.Facts), vf, vg, va] 25), rdE vf (q.First : List Int), rdE vg (q.Goal : List Int), rdE va (q.Acts : List Act)] H) ?_ ?_
    · refine wpF_region ?_
      refine wpL_q (U := NoB) rfl (q_build (v := Value.agg #[I (0), I (0)]) rfl par0 (fun w => by kernel_rfl)) ?_
      refine wpL_q (U := NoB) rfl (q_assign (v := I (0)) rfl rfl) ?_
      refine wpL_q (U := NoB) rfl (q_assign (v := B (false)) rfl rfl) ?_
      refine wpL_o rfl ?_
      refine e_storeBlkA (cs' := #[I (0), I (0)]) rfl a28_4 rfl Try.sizeOf27 rfl rfl (List.forall_mem_cons.2 ⟨rfl, List.forall_mem_cons.2 ⟨rfl, List.forall_mem_nil _⟩⟩) (hS24.front 2 rfl) (fun H30 hS31 hxx => ?_)
      replace hS31 : St H0 NoB NoB [blkE g4 (.cells #[I (0), I (0)] 27), blkE g12 (.cells #[I ((questFault q).1), I ((questFault q).2)] 27), rdE r8 (levelsOut q : List Int), blkE g1 (.cells #[I (q.Facts), vf, vg, va] 25), rdE vf (q.First : List Int), rdE vg (q.Goal : List Int), rdE va (q.Acts : List Act)] H30 := hS31
      exact ⟨rfl, rfl, a28_4, (hS31.drop (List.Sublist.cons_cons _ (List.Sublist.cons_cons _ (List.Sublist.cons _ (List.Sublist.cons_cons _ (List.Sublist.cons_cons _ (List.Sublist.cons_cons _ (List.Sublist.cons_cons _ (List.Sublist.slnil)))))))))⟩
    rintro f32 H32 ⟨a32_2, a32_3, a32_4, hS32⟩
    clear a28_20 a28_21 a28_22 a28_30 a28_4 a28_5 a28_7 a28_9
    refine wpF_ret ?_
    refine ⟨_, resT a32_2 (resT a32_3 (resC a32_4 (loadV_blkA Try.isAgg27 Try.sizeOf27 rfl (hS32.blk 0 rfl)) (resN))), hS32.frame, ?_⟩
    show (Value.tuple #[I (0), B (false), Value.agg #[I (0), I (0)]]) = Value.tuple #[I (farI q), B (farB q), Value.agg #[I (questFault q).1, I (questFault q).2]]
    have hno : farOk (levels q) q.Goal = false := farOk_no (i := i) (by omega) (by rw [← hlo]; exact h30)
    rw [farI, farB, if_neg h1, if_neg h1, farN, hno, hQ.code]
    rfl
  refine wpF_skip ?_
  refine wpF_cut (fun f H => f 4 = PT g4 0 ∧ f 5 = r8 ∧ f 7 = I (max (farTo (levelsOut q) (q.Goal.take i)) (nth (levelsOut q) ((nth q.Goal i).toNat))) ∧ f 20 = vg ∧ f 21 = I ((q.Goal.length : Int)) ∧ f 22 = I ((i : Int)) ∧ H24 = H) ?_ ?_
  · refine wpF_region ?_
    refine wpL_q (U := NoB) rfl (q_move (v := I (farTo (levelsOut q) (q.Goal.take i))) rfl a28_7) ?_
    refine wpL_q (U := NoB) rfl (q_move (v := r8) rfl a28_5) ?_
    refine wpL_q (U := NoB) rfl (q_move (v := I (nth q.Goal i)) rfl a28_9) ?_
    refine wpL_q (U := NoB) rfl (q_indexRd (k := (nth q.Goal i).toNat) rfl Try.underlying22 el_Int_3_EasyL1 rfl rfl (hS24.rdl 1 rfl) (by omega) (by omega)) ?_
    refine wpL_q (U := NoB) rfl (q_loadInt (k := (nth q.Goal i).toNat) rfl rfl el_Int_3_EasyL1 (hS24.rdl 1 rfl) (by omega) (fun _ h => h)) ?_
    refine wpL_q (U := NoB) rfl (q_max rfl rfl rfl) ?_
    refine wpL_q (U := NoB) rfl (q_assign (v := I (max (farTo (levelsOut q) (q.Goal.take i)) (nth (levelsOut q) ((nth q.Goal i).toNat)))) rfl rfl) ?_
    exact ⟨a28_4, a28_5, rfl, a28_20, a28_21, a28_22, rfl⟩
  rintro f33 _ ⟨a33_4, a33_5, a33_7, a33_20, a33_21, a33_22, rfl⟩
  clear a28_20 a28_21 a28_22 a28_30 a28_4 a28_5 a28_7 a28_9
  refine wpF_cut (fun f H => f 4 = PT g4 0 ∧ f 5 = r8 ∧ f 7 = I (max (farTo (levelsOut q) (q.Goal.take i)) (nth (levelsOut q) ((nth q.Goal i).toNat))) ∧ f 20 = vg ∧ f 21 = I ((q.Goal.length : Int)) ∧ f 22 = I ((i : Int) + 1) ∧ H24 = H) ?_ ?_
  · refine wpF_region ?_
    refine wpL_q (U := NoB) rfl (q_add rfl a33_22 rfl (by constructor <;> omega)) ?_
    refine wpL_q (U := NoB) rfl (q_move (v := I ((i : Int) + 1)) rfl rfl) ?_
    exact ⟨a33_4, a33_5, a33_7, a33_20, a33_21, rfl, rfl⟩
  rintro f34 _ ⟨a34_4, a34_5, a34_7, a34_20, a34_21, a34_22, rfl⟩
  clear a33_20 a33_21 a33_22 a33_4 a33_5 a33_7
  refine ⟨_, ?_, i + 1, rfl, (by omega), (by rw [farOk_take (i := i) (by omega), hok, Bool.true_and]; exact decide_eq_true (by omega)), a34_4, a34_5, (Eq.trans a34_7 (congrArg I (farTo_take (i := i) (by omega)).symm)), a34_20, a34_21, (Eq.trans a34_22 (congrArg I (by omega))), hS24⟩
  omega

end Go.Um
