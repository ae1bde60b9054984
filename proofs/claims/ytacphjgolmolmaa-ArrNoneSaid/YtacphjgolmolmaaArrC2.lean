import Derived.Test.YtacphjgolmolmaaProg
import Derived.Test.YtacphjgolmolmaaArrC1
import Derived.Test.YtacphjgolmolmaaUmSub
namespace Go.Um
open Go.Proofs
open GoT (sz ag rdc)
open KeyT (kv)

theorem el_Decl_43_ArrC2 : ElT Try.prog Decl 43 := ⟨Try.isAgg43, Try.sizeOf43⟩
theorem el_Int_3_ArrC2 : ElT Try.prog Int 3 := ⟨Try.isAgg3, Try.sizeOf3⟩
theorem el_Node_37_ArrC2 : ElT Try.prog Node 37 := ⟨Try.isAgg37, Try.sizeOf37⟩
theorem em_Decl_43_ArrC2 : ElemOk Try.prog Decl 43 := ⟨Try.t43, (.agg #[(.string (ByteArray.mk #[])), (.slice none 0 0), (.int .i64 0)]), by kernel_rfl, by kernel_rfl, by kernel_rfl, by kernel_rfl, by kernel_rfl⟩
theorem em_Int_3_ArrC2 : ElemOk Try.prog Int 3 := ⟨Try.t3, (.int .i64 0), by kernel_rfl, by kernel_rfl, by kernel_rfl, by kernel_rfl, by kernel_rfl⟩

set_option maxHeartbeats 8000000 in
set_option maxRecDepth 100000 in
theorem Do_L {H0 : Heap} {S : Nat → Prop} (vD vN vH : Value) (a : Ask) (rvD : Rd S H0 vD a.Decls) (rvN : Rd S H0 vN a.Nodes) (rvH : Rd S H0 vH a.Hold) : CallsH Try.prog 6 #[Value.agg #[vD, vN, vH]] H0 (fun rv_ H' => Ext NoB H0 H' ∧ ∃ w0_ w1_ w2_, rv_ = Value.tuple #[Value.agg #[w0_, w1_, w2_], Value.agg #[I (doF a).1, I (doF a).2]] ∧ Rd (fun b => S b ∧ b < H0.size) H' w0_ (doA a).Decls ∧ Rd (fun b => S b ∧ b < H0.size) H' w1_ (doA a).Nodes ∧ Rd (fun b => S b ∧ b < H0.size) H' w2_ (doA a).Hold) := by
  have hsN : a.Nodes.length * 64 ≤ 140737488355328 := (Rd.list.1 rvN).bound
  have hS0 : St H0 NoB (fun b => S b ∧ b < H0.size) [rdE vD a.Decls, rdE vN a.Nodes, rdE vH a.Hold] H0 := St.arg (St.arg (St.arg (St.start (fun _ h => h.2)) (Bl0.nil) rvH (fun _ h => h.1)) (Bl0.cons (Bl0.nil)) rvN (fun _ h => h.1)) (Bl0.cons (Bl0.cons (Bl0.nil))) rvD (fun _ h => h.1)
  refine callsH_of_wpF (args := [Value.agg #[vD, vN, vH]]) (rs := [.cell 2 26, .cell 3 28]) Try.func6 rfl Try.ntmps6 Try.results6 (by kernel_rfl) (Nat.le_of_ble_eq_true rfl) ?_
  have a0_0 : argF [Value.agg #[vD, vN, vH]] 0 = Value.agg #[vD, vN, vH] := rfl
  generalize argF [Value.agg #[vD, vN, vH]] = f0 at *
  refine wpF_seq ?_
  refine wpF_cut (fun f H => ∃ (g1 : Nat), ∃ (g4 : Nat), ∃ (g7 : Nat), f 1 = PT g1 0 ∧ f 2 = PT g4 0 ∧ f 3 = PT g7 0 ∧ St H0 NoB (fun b => S b ∧ b < H0.size) [blkE g7 (.cells #[I (0), I (0)] 28), blkE g4 (.cells #[(Value.slice none 0 0), (Value.slice none 0 0), (Value.slice none 0 0)] 26), blkE g1 (.cells #[vD, vN, vH] 26), rdE vD a.Decls, rdE vN a.Nodes, rdE vH a.Hold] H) ?_ ?_
  · refine wpF_region ?_
    refine wpL_o rfl ?_
    refine e_box (v := Value.agg #[vD, vN, vH]) rfl a0_0 hS0 (fun g1 H2 hS3 hxx => ?_)
    replace hS3 : St H0 NoB (fun b => S b ∧ b < H0.size) [blkE g1 (.cells #[vD, vN, vH] 26), rdE vD a.Decls, rdE vN a.Nodes, rdE vH a.Hold] H2 := hS3
    refine wpL_o rfl ?_
    refine e_alloc rfl Try.zeroValue26 hS3 (fun g4 H5 hS6 hxx => ?_)
    replace hS6 : St H0 NoB (fun b => S b ∧ b < H0.size) [blkE g4 (.cells #[(Value.slice none 0 0), (Value.slice none 0 0), (Value.slice none 0 0)] 26), blkE g1 (.cells #[vD, vN, vH] 26), rdE vD a.Decls, rdE vN a.Nodes, rdE vH a.Hold] H5 := hS6
    refine wpL_o rfl ?_
    refine e_alloc rfl Try.zeroValue28 hS6 (fun g7 H8 hS9 hxx => ?_)
    replace hS9 : St H0 NoB (fun b => S b ∧ b < H0.size) [blkE g7 (.cells #[I (0), I (0)] 28), blkE g4 (.cells #[(Value.slice none 0 0), (Value.slice none 0 0), (Value.slice none 0 0)] 26), blkE g1 (.cells #[vD, vN, vH] 26), rdE vD a.Decls, rdE vN a.Nodes, rdE vH a.Hold] H8 := hS9
    exact ⟨g1, g4, g7, rfl, rfl, rfl, hS9⟩
  rintro f10 H10 ⟨g1, g4, g7, a10_1, a10_2, a10_3, hS10⟩
  clear a0_0
  refine wpF_seq ?_
  refine wpF_cut (fun f H => ∃ (r11 : Value), ∃ (g15 : Nat), f 1 = PT g1 0 ∧ f 2 = PT g4 0 ∧ f 3 = PT g7 0 ∧ f 4 = r11 ∧ f 5 = PT g15 0 ∧ St H0 NoB (fun b => S b ∧ b < H0.size) [blkE g15 (.cells #[I (((sortsF a)).1), I (((sortsF a)).2)] 28), rdE r11 (sortsL a), blkE g7 (.cells #[I (0), I (0)] 28), blkE g4 (.cells #[(Value.slice none 0 0), (Value.slice none 0 0), (Value.slice none 0 0)] 26), blkE g1 (.cells #[vD, vN, vH] 26), rdE vD a.Decls, rdE vN a.Nodes, rdE vH a.Hold] H) ?_ ?_
  · refine wpF_region ?_
    refine wpL_q (U := NoB) rfl (q_loadBlkA rfl a10_1 Try.isAgg26 Try.sizeOf26 rfl (hS10.blk 2 rfl) (fun h => h)) ?_
    refine wpL_o rfl ?_
    refine e_call rfl Try.call7 (arr1 (v0 := Value.agg #[vD, vN, vH]) rfl) (Sorts_L vD vN vH a (hS10.rdS 3 rfl) (hS10.rdS 4 rfl) (hS10.rdS 5 rfl) ) ?_
    rintro _ H12 ⟨hxx, r11, rfl, hrr11⟩
    have hS13 : St H0 NoB (fun b => S b ∧ b < H0.size) [rdE r11 (sortsL a), blkE g7 (.cells #[I (0), I (0)] 28), blkE g4 (.cells #[(Value.slice none 0 0), (Value.slice none 0 0), (Value.slice none 0 0)] 26), blkE g1 (.cells #[vD, vN, vH] 26), rdE vD a.Decls, rdE vN a.Nodes, rdE vH a.Hold] H12 := hS10.res hxx hrr11
    refine wpL_q (U := NoB) rfl (q_move (v := Value.tuple #[r11, Value.agg #[I (((sortsF a)).1), I (((sortsF a)).2)]]) rfl rfl) ?_
    refine wpL_q (U := NoB) rfl (q_extract (vs := #[r11, Value.agg #[I (((sortsF a)).1), I (((sortsF a)).2)]]) (v := r11) rfl rfl rfl) ?_
    refine wpL_q (U := NoB) rfl (q_extract (vs := #[r11, Value.agg #[I (((sortsF a)).1), I (((sortsF a)).2)]]) (v := Value.agg #[I (((sortsF a)).1), I (((sortsF a)).2)]) rfl rfl rfl) ?_
    refine wpL_o rfl ?_
    refine e_alloc rfl Try.zeroValue28 hS13 (fun g15 H16 hS17 hxx => ?_)
    replace hS17 : St H0 NoB (fun b => S b ∧ b < H0.size) [blkE g15 (.cells #[I (0), I (0)] 28), rdE r11 (sortsL a), blkE g7 (.cells #[I (0), I (0)] 28), blkE g4 (.cells #[(Value.slice none 0 0), (Value.slice none 0 0), (Value.slice none 0 0)] 26), blkE g1 (.cells #[vD, vN, vH] 26), rdE vD a.Decls, rdE vN a.Nodes, rdE vH a.Hold] H16 := hS17
    refine wpL_q (U := NoB) rfl (q_assign (v := r11) rfl rfl) ?_
    refine wpL_o rfl ?_
    refine e_storeBlkA (cs' := #[I (((sortsF a)).1), I (((sortsF a)).2)]) rfl rfl rfl Try.sizeOf28 rfl rfl (List.forall_mem_cons.2 ⟨rfl, List.forall_mem_cons.2 ⟨rfl, List.forall_mem_nil _⟩⟩) hS17 (fun H18 hS19 hxx => ?_)
    replace hS19 : St H0 NoB (fun b => S b ∧ b < H0.size) [blkE g15 (.cells #[I (((sortsF a)).1), I (((sortsF a)).2)] 28), rdE r11 (sortsL a), blkE g7 (.cells #[I (0), I (0)] 28), blkE g4 (.cells #[(Value.slice none 0 0), (Value.slice none 0 0), (Value.slice none 0 0)] 26), blkE g1 (.cells #[vD, vN, vH] 26), rdE vD a.Decls, rdE vN a.Nodes, rdE vH a.Hold] H18 := hS19
    exact ⟨r11, g15, a10_1, a10_2, a10_3, rfl, rfl, hS19⟩
  rintro f20 H20 ⟨r11, g15, a20_1, a20_2, a20_3, a20_4, a20_5, hS20⟩
  clear a10_1 a10_2 a10_3
  refine wpF_seq ?_
  refine wpF_seq ?_
  refine wpF_cut (fun f H => f 1 = PT g1 0 ∧ f 2 = PT g4 0 ∧ f 3 = PT g7 0 ∧ f 4 = r11 ∧ f 5 = PT g15 0 ∧ f 25 = B (decide ((((sortsF a)).1) ≠ 0)) ∧ H20 = H) ?_ ?_
  · refine wpF_region ?_
    refine wpL_q (U := NoB) rfl (q_fieldAddr rfl Try.underlying28 rfl Try.sizeOf3 a20_5) ?_
    refine wpL_q (U := NoB) rfl (q_loadBlk rfl rfl Try.isAgg3 (hS20.blk 0 rfl) rfl (fun h => h)) ?_
    refine wpL_q (U := NoB) rfl (q_neq rfl rfl rfl) ?_
    exact ⟨a20_1, a20_2, a20_3, a20_4, a20_5, rfl, rfl⟩
  rintro f21 _ ⟨a21_1, a21_2, a21_3, a21_4, a21_5, a21_25, rfl⟩
  clear a20_1 a20_2 a20_3 a20_4 a20_5
  refine wpF_condP a21_25 (fun h25 => ?t170) (fun h25 => ?e170)
  case t170 =>
    refine wpF_seq ?_
    refine wpF_cut (fun f H => f 2 = PT g4 0 ∧ f 3 = PT g7 0 ∧ St H0 NoB (fun b => S b ∧ b < H0.size) [blkE g7 (.cells #[I (((sortsF a)).1), I (((sortsF a)).2)] 28), blkE g4 (.cells #[(Value.slice none 0 0), (Value.slice none 0 0), (Value.slice none 0 0)] 26), blkE g15 (.cells #[I (((sortsF a)).1), I (((sortsF a)).2)] 28), blkE g1 (.cells #[vD, vN, vH] 26), rdE vD a.Decls, rdE vN a.Nodes, rdE vH a.Hold] H) ?_ ?_
    · refine wpF_drawn [none, none, some 0, some 1] [[], [0], [], []] (fun l b => match l with | 0 => b = g4 | 1 => True | _ => False) (by kernel_rfl) (by kernel_rfl) ?_
      refine wpR_q 0 (by kernel_rfl) rfl (quietAt rfl rfl (q_build (v := Value.agg #[(Value.slice none 0 0), (Value.slice none 0 0), (Value.slice none 0 0)]) rfl par0 (fun w => by kernel_rfl))) ?_
      refine wpR_q 1 (by kernel_rfl) rfl (quietAt rfl rfl (q_loadBlkA rfl a21_5 Try.isAgg28 Try.sizeOf28 rfl (hS20.blk 0 rfl) (labU_not [0] rfl (List.forall_mem_cons.2 ⟨fun hb => hS20.dis 0 3 (by decide) rfl rfl _ rfl hb, List.forall_mem_nil _⟩)))) ?_
      refine wpR_n [2] (by kernel_rfl) ?_
      refine List.forall_mem_cons.2 ⟨?_, List.forall_mem_nil _⟩
      refine exE rfl rfl ?_
      refine e_storeBlkA (cs' := #[(Value.slice none 0 0), (Value.slice none 0 0), (Value.slice none 0 0)]) rfl a21_2 rfl Try.sizeOf26 rfl rfl (List.forall_mem_cons.2 ⟨rfl, List.forall_mem_cons.2 ⟨rfl, List.forall_mem_cons.2 ⟨rfl, List.forall_mem_nil _⟩⟩⟩) (hS20.front 3 rfl) (fun H24o2 hS24o2 hxx => ?_)
      replace hS24o2 : St H0 NoB (fun b => S b ∧ b < H0.size) [blkE g4 (.cells #[(Value.slice none 0 0), (Value.slice none 0 0), (Value.slice none 0 0)] 26), blkE g15 (.cells #[I (((sortsF a)).1), I (((sortsF a)).2)] 28), rdE r11 (sortsL a), blkE g7 (.cells #[I (0), I (0)] 28), blkE g1 (.cells #[vD, vN, vH] 26), rdE vD a.Decls, rdE vN a.Nodes, rdE vH a.Hold] H24o2 := hS24o2
      refine ⟨Ext.mono hxx (labS_of 0 rfl (fun b hb => hb)), ?_⟩
      refine wpR_n [3] (by kernel_rfl) ?_
      refine List.forall_mem_cons.2 ⟨?_, List.forall_mem_nil _⟩
      refine exE rfl rfl ?_
      refine e_storeBlkA (cs' := #[I (((sortsF a)).1), I (((sortsF a)).2)]) rfl a21_3 rfl Try.sizeOf28 rfl rfl (List.forall_mem_cons.2 ⟨rfl, List.forall_mem_cons.2 ⟨rfl, List.forall_mem_nil _⟩⟩) (hS24o2.front 3 rfl) (fun H24o3 hS24o3 hxx => ?_)
      replace hS24o3 : St H0 NoB (fun b => S b ∧ b < H0.size) [blkE g7 (.cells #[I (((sortsF a)).1), I (((sortsF a)).2)] 28), blkE g4 (.cells #[(Value.slice none 0 0), (Value.slice none 0 0), (Value.slice none 0 0)] 26), blkE g15 (.cells #[I (((sortsF a)).1), I (((sortsF a)).2)] 28), rdE r11 (sortsL a), blkE g1 (.cells #[vD, vN, vH] 26), rdE vD a.Decls, rdE vN a.Nodes, rdE vH a.Hold] H24o3 := hS24o3
      refine ⟨Ext.mono hxx (labS_of 1 rfl (fun _ _ => trivial)), ?_⟩
      refine wpR_end (by kernel_rfl) ?_
      exact ⟨a21_2, a21_3, (hS24o3.drop (sk (sk (sk (sn (sk (sk (sk (sk (List.Sublist.slnil))))))))))⟩
    rintro f25 H25 ⟨a25_2, a25_3, hS25⟩
    clear a21_1 a21_2 a21_25 a21_3 a21_4 a21_5
    refine wpF_ret ?_
    refine ⟨_, resC a25_2 (loadV_blkA Try.isAgg26 Try.sizeOf26 rfl (hS25.blk 1 rfl)) (resC a25_3 (loadV_blkA Try.isAgg28 Try.sizeOf28 rfl (hS25.blk 0 rfl)) (resN)), hS25.frame, ?_⟩
    show ∃ w0_ w1_ w2_, (Value.tuple #[Value.agg #[(Value.slice none 0 0), (Value.slice none 0 0), (Value.slice none 0 0)], Value.agg #[I (((sortsF a)).1), I (((sortsF a)).2)]]) = Value.tuple #[Value.agg #[w0_, w1_, w2_], Value.agg #[I (doF a).1, I (doF a).2]] ∧ Rd (fun b => S b ∧ b < H0.size) H25 w0_ (doA a).Decls ∧ Rd (fun b => S b ∧ b < H0.size) H25 w1_ (doA a).Nodes ∧ Rd (fun b => S b ∧ b < H0.size) H25 w2_ (doA a).Hold
    have hq_ : doF a = _ := doF_bad h25
    have hd_ := doA_bad (a := a) (by rw [hq_]; exact h25)
    exact ⟨_, _, _, by rw [hq_], by rw [hd_]; exact rdNil, by rw [hd_]; exact rdNil, by rw [hd_]; exact rdNil⟩
  have hA : AskOk a := askOk (Decidable.of_not_not h25)
  have hfew := hA.few
  have hmany := hA.many
  have hholds := hA.holds
  have hS23 : St H0 NoB (fun b => S b ∧ b < H0.size) [blkE g15 (.cells #[I (((sortsF a)).1), I (((sortsF a)).2)] 28), rdE r11 (sorts a), blkE g7 (.cells #[I (0), I (0)] 28), blkE g4 (.cells #[(Value.slice none 0 0), (Value.slice none 0 0), (Value.slice none 0 0)] 26), blkE g1 (.cells #[vD, vN, vH] 26), rdE vD a.Decls, rdE vN a.Nodes, rdE vH a.Hold] H20 := by have h__ := hS20; rw [sortsL_eq h25] at h__; exact h__
  refine wpF_skip ?_
  refine wpF_seq ?_
  refine wpF_cut (fun f H => ∃ (g26 : Nat), f 1 = PT g1 0 ∧ f 2 = PT g4 0 ∧ f 3 = PT g7 0 ∧ f 4 = r11 ∧ f 6 = PT g26 0 ∧ St H0 NoB (fun b => S b ∧ b < H0.size) [blkE g26 (.cells #[(Value.slice none 0 0), (Value.slice none 0 0), (Value.slice none 0 0)] 26), blkE g15 (.cells #[I (((sortsF a)).1), I (((sortsF a)).2)] 28), rdE r11 (sorts a), blkE g7 (.cells #[I (0), I (0)] 28), blkE g4 (.cells #[(Value.slice none 0 0), (Value.slice none 0 0), (Value.slice none 0 0)] 26), blkE g1 (.cells #[vD, vN, vH] 26), rdE vD a.Decls, rdE vN a.Nodes, rdE vH a.Hold] H) ?_ ?_
  · refine wpF_region ?_
    refine wpL_o rfl ?_
    refine e_alloc rfl Try.zeroValue26 hS23 (fun g26 H27 hS28 hxx => ?_)
    replace hS28 : St H0 NoB (fun b => S b ∧ b < H0.size) [blkE g26 (.cells #[(Value.slice none 0 0), (Value.slice none 0 0), (Value.slice none 0 0)] 26), blkE g15 (.cells #[I (((sortsF a)).1), I (((sortsF a)).2)] 28), rdE r11 (sorts a), blkE g7 (.cells #[I (0), I (0)] 28), blkE g4 (.cells #[(Value.slice none 0 0), (Value.slice none 0 0), (Value.slice none 0 0)] 26), blkE g1 (.cells #[vD, vN, vH] 26), rdE vD a.Decls, rdE vN a.Nodes, rdE vH a.Hold] H27 := hS28
    exact ⟨g26, a21_1, a21_2, a21_3, a21_4, rfl, hS28⟩
  rintro f29 H29 ⟨g26, a29_1, a29_2, a29_3, a29_4, a29_6, hS29⟩
  clear a21_1 a21_2 a21_25 a21_3 a21_4 a21_5
  have hS30 : St H0 NoB (fun b => S b ∧ b < H0.size) [rowE 43 (Value.slice none 0 0) ([] : List Decl), blkE g26 (.cells #[(Value.slice none 0 0), (Value.slice none 0 0), (Value.slice none 0 0)] 26), blkE g15 (.cells #[I (((sortsF a)).1), I (((sortsF a)).2)] 28), rdE r11 (sorts a), blkE g7 (.cells #[I (0), I (0)] 28), blkE g4 (.cells #[(Value.slice none 0 0), (Value.slice none 0 0), (Value.slice none 0 0)] 26), blkE g1 (.cells #[vD, vN, vH] 26), rdE vD a.Decls, rdE vN a.Nodes, rdE vH a.Hold] H29 := hS29.row0 43
  refine wpF_seq ?_
  refine wpF_seq ?_
  refine wpF_cut (fun f H => f 1 = PT g1 0 ∧ f 2 = PT g4 0 ∧ f 3 = PT g7 0 ∧ f 4 = r11 ∧ f 6 = PT g26 0 ∧ f 29 = vD ∧ f 30 = I ((a.Decls.length : Int)) ∧ f 31 = I (0) ∧ H29 = H) ?_ ?_
  · refine wpF_region ?_
    refine wpL_q (U := NoB) rfl (q_fieldAddr rfl Try.underlying26 rfl Try.sizeOf22 a29_1) ?_
    refine wpL_q (U := NoB) rfl (q_loadBlk rfl rfl Try.isAgg22 (hS30.blk 6 rfl) rfl (fun h => h)) ?_
    refine wpL_q (U := NoB) rfl (q_lenRd rfl Try.underlying22 rfl (hS30.rdl 7 rfl)) ?_
    refine wpL_q (U := NoB) rfl (q_move (v := I (0)) rfl rfl) ?_
    exact ⟨a29_1, a29_2, a29_3, a29_4, a29_6, rfl, rfl, rfl, rfl⟩
  rintro f31 _ ⟨a31_1, a31_2, a31_3, a31_4, a31_6, a31_29, a31_30, a31_31, rfl⟩
  clear a29_1 a29_2 a29_3 a29_4 a29_6
  refine wpF_block ?_
  refine wpF_loop (fun mz f H => ∃ (k : Nat), ∃ (vo : Value), mz = a.Decls.length - k ∧ (k ≤ a.Decls.length) ∧ f 1 = PT g1 0 ∧ f 2 = PT g4 0 ∧ f 3 = PT g7 0 ∧ f 4 = r11 ∧ f 6 = PT g26 0 ∧ f 29 = vD ∧ f 30 = I ((a.Decls.length : Int)) ∧ f 31 = I ((k : Int)) ∧ St H0 NoB (fun b => S b ∧ b < H0.size) [rowE 43 vo ((a.Decls.take k).map declA : List Decl), blkE g26 (.cells #[vo, (Value.slice none 0 0), (Value.slice none 0 0)] 26), blkE g15 (.cells #[I (((sortsF a)).1), I (((sortsF a)).2)] 28), rdE r11 (sorts a), blkE g7 (.cells #[I (0), I (0)] 28), blkE g4 (.cells #[(Value.slice none 0 0), (Value.slice none 0 0), (Value.slice none 0 0)] 26), blkE g1 (.cells #[vD, vN, vH] 26), rdE vD a.Decls, rdE vN a.Nodes, rdE vH a.Hold] H) (a.Decls.length - 0) ?_ ?_
  · exact ⟨0, (Value.slice none 0 0), rfl, Nat.zero_le _, a31_1, a31_2, a31_3, a31_4, a31_6, a31_29, a31_30, (Eq.trans a31_31 (congrArg I (by omega))), (show St H0 NoB (fun b => S b ∧ b < H0.size) [rowE 43 (Value.slice none 0 0) ((a.Decls.take 0).map declA : List Decl), blkE g26 (.cells #[(Value.slice none 0 0), (Value.slice none 0 0), (Value.slice none 0 0)] 26), blkE g15 (.cells #[I (((sortsF a)).1), I (((sortsF a)).2)] 28), rdE r11 (sorts a), blkE g7 (.cells #[I (0), I (0)] 28), blkE g4 (.cells #[(Value.slice none 0 0), (Value.slice none 0 0), (Value.slice none 0 0)] 26), blkE g1 (.cells #[vD, vN, vH] 26), rdE vD a.Decls, rdE vN a.Nodes, rdE vH a.Hold] H29 from hS30)⟩
  intro m32 f32 H32 hI32
  obtain ⟨k, vo, hm32, hk, a32_1, a32_2, a32_3, a32_4, a32_6, a32_29, a32_30, a32_31, hS32⟩ := hI32
  clear a31_1 a31_2 a31_29 a31_3 a31_30 a31_31 a31_4 a31_6
  refine wpF_seq ?_
  refine wpF_cut (fun f H => f 1 = PT g1 0 ∧ f 2 = PT g4 0 ∧ f 3 = PT g7 0 ∧ f 4 = r11 ∧ f 6 = PT g26 0 ∧ f 29 = vD ∧ f 30 = I ((a.Decls.length : Int)) ∧ f 31 = I ((k : Int)) ∧ f 32 = B (decide ((k : Int) < (a.Decls.length : Int))) ∧ H32 = H) ?_ ?_
  · refine wpF_region ?_
    refine wpL_q (U := NoB) rfl (q_lss rfl a32_31 a32_30) ?_
    exact ⟨a32_1, a32_2, a32_3, a32_4, a32_6, a32_29, a32_30, a32_31, rfl, rfl⟩
  rintro f33 _ ⟨a33_1, a33_2, a33_3, a33_4, a33_6, a33_29, a33_30, a33_31, a33_32, rfl⟩
  clear a32_1 a32_2 a32_29 a32_3 a32_30 a32_31 a32_4 a32_6
  refine wpF_seq ?_
  refine wpF_condP a33_32 (fun hlt => ?t169) (fun hlt => ?e169)
  case t169 =>
    refine wpF_skip ?_
    refine wpF_seq ?_
    refine wpF_block ?_
    refine wpF_seq ?_
    refine wpF_cut (fun f H => ∃ (u36n1 : Value), ∃ (g38 : Nat), ((nth a.Decls k).Name.size ≤ maxLen) ∧ (In64 (nth a.Decls k).Srt) ∧ f 1 = PT g1 0 ∧ f 2 = PT g4 0 ∧ f 3 = PT g7 0 ∧ f 4 = r11 ∧ f 6 = PT g26 0 ∧ f 8 = PT g38 0 ∧ f 29 = vD ∧ f 30 = I ((a.Decls.length : Int)) ∧ f 31 = I ((k : Int)) ∧ St H0 NoB (fun b => S b ∧ b < H0.size) [blkE g38 (.cells #[SB ((nth a.Decls k).Name), u36n1, I ((nth a.Decls k).Srt)] 43), rdE u36n1 ((nth a.Decls k).Args), rowE 43 vo ((a.Decls.take k).map declA : List Decl), blkE g26 (.cells #[vo, (Value.slice none 0 0), (Value.slice none 0 0)] 26), blkE g15 (.cells #[I (((sortsF a)).1), I (((sortsF a)).2)] 28), rdE r11 (sorts a), blkE g7 (.cells #[I (0), I (0)] 28), blkE g4 (.cells #[(Value.slice none 0 0), (Value.slice none 0 0), (Value.slice none 0 0)] 26), blkE g1 (.cells #[vD, vN, vH] 26), rdE vD a.Decls, rdE vN a.Nodes, rdE vH a.Hold] H) ?_ ?_
    · refine wpF_region ?_
      refine wpL_q (U := NoB) rfl (q_indexRd (k := k) rfl Try.underlying22 el_Decl_43_ArrC2 a33_29 a33_31 (hS32.rdl 7 rfl) (by omega) (by omega)) ?_
      obtain ⟨u36, huu36, hlu36⟩ := (Rd.list.1 (hS32.rdS 7 rfl)).elem k (by omega)
      obtain ⟨u36n1, rfl, hu360, hu361, hu362⟩ := Rd.decl.1 huu36
      have hS37 : St H0 NoB (fun b => S b ∧ b < H0.size) [rdE u36n1 ((nth a.Decls k).Args), rowE 43 vo ((a.Decls.take k).map declA : List Decl), blkE g26 (.cells #[vo, (Value.slice none 0 0), (Value.slice none 0 0)] 26), blkE g15 (.cells #[I (((sortsF a)).1), I (((sortsF a)).2)] 28), rdE r11 (sorts a), blkE g7 (.cells #[I (0), I (0)] 28), blkE g4 (.cells #[(Value.slice none 0 0), (Value.slice none 0 0), (Value.slice none 0 0)] 26), blkE g1 (.cells #[vD, vN, vH] 26), rdE vD a.Decls, rdE vN a.Nodes, rdE vH a.Hold] H32 := hS32.rd hu361
      refine wpL_q (U := NoB) rfl (q_loadE rfl rfl (hlu36 Try.prog 43 _ el_Decl_43_ArrC2 (fun _ h => False.elim h))) ?_
      refine wpL_o rfl ?_
      refine e_alloc rfl Try.zeroValue43 hS37 (fun g38 H39 hS40 hxx => ?_)
      replace hS40 : St H0 NoB (fun b => S b ∧ b < H0.size) [blkE g38 (.cells #[SB (ByteArray.mk #[]), (Value.slice none 0 0), I (0)] 43), rdE u36n1 ((nth a.Decls k).Args), rowE 43 vo ((a.Decls.take k).map declA : List Decl), blkE g26 (.cells #[vo, (Value.slice none 0 0), (Value.slice none 0 0)] 26), blkE g15 (.cells #[I (((sortsF a)).1), I (((sortsF a)).2)] 28), rdE r11 (sorts a), blkE g7 (.cells #[I (0), I (0)] 28), blkE g4 (.cells #[(Value.slice none 0 0), (Value.slice none 0 0), (Value.slice none 0 0)] 26), blkE g1 (.cells #[vD, vN, vH] 26), rdE vD a.Decls, rdE vN a.Nodes, rdE vH a.Hold] H39 := hS40
      refine wpL_o rfl ?_
      refine e_storeBlkA (cs' := #[SB ((nth a.Decls k).Name), u36n1, I ((nth a.Decls k).Srt)]) rfl rfl rfl Try.sizeOf43 rfl rfl (List.forall_mem_cons.2 ⟨rfl, List.forall_mem_cons.2 ⟨(oneCell_rdL (hS40.rdl 1 rfl)), List.forall_mem_cons.2 ⟨rfl, List.forall_mem_nil _⟩⟩⟩) hS40 (fun H41 hS42 hxx => ?_)
      replace hS42 : St H0 NoB (fun b => S b ∧ b < H0.size) [blkE g38 (.cells #[SB ((nth a.Decls k).Name), u36n1, I ((nth a.Decls k).Srt)] 43), rdE u36n1 ((nth a.Decls k).Args), rowE 43 vo ((a.Decls.take k).map declA : List Decl), blkE g26 (.cells #[vo, (Value.slice none 0 0), (Value.slice none 0 0)] 26), blkE g15 (.cells #[I (((sortsF a)).1), I (((sortsF a)).2)] 28), rdE r11 (sorts a), blkE g7 (.cells #[I (0), I (0)] 28), blkE g4 (.cells #[(Value.slice none 0 0), (Value.slice none 0 0), (Value.slice none 0 0)] 26), blkE g1 (.cells #[vD, vN, vH] 26), rdE vD a.Decls, rdE vN a.Nodes, rdE vH a.Hold] H41 := hS42
      exact ⟨u36n1, g38, hu360, hu362, a33_1, a33_2, a33_3, a33_4, a33_6, rfl, a33_29, a33_30, a33_31, hS42⟩
    rintro f43 H43 ⟨u36n1, g38, hu360, hu362, a43_1, a43_2, a43_3, a43_4, a43_6, a43_8, a43_29, a43_30, a43_31, hS43⟩
    clear a33_1 a33_2 a33_29 a33_3 a33_30 a33_31 a33_32 a33_4 a33_6
    refine wpF_seq ?_
    refine wpF_cut (fun f H => ∃ (r44 : Value), f 1 = PT g1 0 ∧ f 2 = PT g4 0 ∧ f 3 = PT g7 0 ∧ f 4 = r11 ∧ f 6 = PT g26 0 ∧ f 8 = PT g38 0 ∧ f 29 = vD ∧ f 30 = I ((a.Decls.length : Int)) ∧ f 31 = I ((k : Int)) ∧ St H0 NoB (fun b => S b ∧ b < H0.size) [blkE g38 (.cells #[SB ((nth a.Decls k).Name), r44, I ((nth a.Decls k).Srt)] 43), rdE r44 (((nth a.Decls k).Args)), rowE 43 vo ((a.Decls.take k).map declA : List Decl), blkE g26 (.cells #[vo, (Value.slice none 0 0), (Value.slice none 0 0)] 26), blkE g15 (.cells #[I (((sortsF a)).1), I (((sortsF a)).2)] 28), rdE r11 (sorts a), blkE g7 (.cells #[I (0), I (0)] 28), blkE g4 (.cells #[(Value.slice none 0 0), (Value.slice none 0 0), (Value.slice none 0 0)] 26), blkE g1 (.cells #[vD, vN, vH] 26), rdE vD a.Decls, rdE vN a.Nodes, rdE vH a.Hold] H) ?_ ?_
    · refine wpF_region ?_
      refine wpL_q (U := NoB) rfl (q_fieldAddr rfl Try.underlying43 rfl Try.sizeOf24 a43_8) ?_
      refine wpL_q (U := NoB) rfl (q_loadBlk rfl rfl Try.isAgg24 (hS43.blk 0 rfl) rfl (fun h => h)) ?_
      refine wpL_o rfl ?_
      refine e_call rfl Try.call17 (arr1 (v0 := u36n1) rfl) (Clone u36n1 _ (hS43.rdS 1 rfl)) ?_
      rintro r44 H45 ⟨hxx, hrr44⟩
      have hS46 : St H0 NoB (fun b => S b ∧ b < H0.size) [rdE r44 (((nth a.Decls k).Args)), blkE g38 (.cells #[SB ((nth a.Decls k).Name), u36n1, I ((nth a.Decls k).Srt)] 43), rdE u36n1 ((nth a.Decls k).Args), rowE 43 vo ((a.Decls.take k).map declA : List Decl), blkE g26 (.cells #[vo, (Value.slice none 0 0), (Value.slice none 0 0)] 26), blkE g15 (.cells #[I (((sortsF a)).1), I (((sortsF a)).2)] 28), rdE r11 (sorts a), blkE g7 (.cells #[I (0), I (0)] 28), blkE g4 (.cells #[(Value.slice none 0 0), (Value.slice none 0 0), (Value.slice none 0 0)] 26), blkE g1 (.cells #[vD, vN, vH] 26), rdE vD a.Decls, rdE vN a.Nodes, rdE vH a.Hold] H45 := hS43.res hxx hrr44
      refine wpL_q (U := NoB) rfl (q_fieldAddr rfl Try.underlying43 rfl Try.sizeOf24 a43_8) ?_
      refine wpL_o rfl ?_
      refine e_storeBlk (v := r44) rfl rfl rfl (oneCell_rdL (hS46.rdl 0 rfl)) Try.sizeOf24 (by show _ < 3; decide) (hS46.front 1 rfl) (fun H48 hS49 hxx => ?_)
      replace hS49 : St H0 NoB (fun b => S b ∧ b < H0.size) [blkE g38 (.cells #[SB ((nth a.Decls k).Name), r44, I ((nth a.Decls k).Srt)] 43), rdE r44 (((nth a.Decls k).Args)), rdE u36n1 ((nth a.Decls k).Args), rowE 43 vo ((a.Decls.take k).map declA : List Decl), blkE g26 (.cells #[vo, (Value.slice none 0 0), (Value.slice none 0 0)] 26), blkE g15 (.cells #[I (((sortsF a)).1), I (((sortsF a)).2)] 28), rdE r11 (sorts a), blkE g7 (.cells #[I (0), I (0)] 28), blkE g4 (.cells #[(Value.slice none 0 0), (Value.slice none 0 0), (Value.slice none 0 0)] 26), blkE g1 (.cells #[vD, vN, vH] 26), rdE vD a.Decls, rdE vN a.Nodes, rdE vH a.Hold] H48 := hS49
      exact ⟨r44, a43_1, a43_2, a43_3, a43_4, a43_6, a43_8, a43_29, a43_30, a43_31, (hS49.drop (sk (sk (sn (sk (sk (sk (sk (sk (sk (sk (sk (sk (sk (List.Sublist.slnil)))))))))))))))⟩
    rintro f50 H50 ⟨r44, a50_1, a50_2, a50_3, a50_4, a50_6, a50_8, a50_29, a50_30, a50_31, hS50⟩
    clear a43_1 a43_2 a43_29 a43_3 a43_30 a43_31 a43_4 a43_6 a43_8
    refine wpF_seq ?_
    refine wpF_seq ?_
    refine wpF_cut (fun f H => f 1 = PT g1 0 ∧ f 2 = PT g4 0 ∧ f 3 = PT g7 0 ∧ f 4 = r11 ∧ f 6 = PT g26 0 ∧ f 8 = PT g38 0 ∧ f 29 = vD ∧ f 30 = I ((a.Decls.length : Int)) ∧ f 31 = I ((k : Int)) ∧ f 41 = B (decide (((nth a.Decls k).Srt) = 5)) ∧ H50 = H) ?_ ?_
    · refine wpF_region ?_
      refine wpL_q (U := NoB) rfl (q_fieldAddr rfl Try.underlying43 rfl Try.sizeOf3 a50_8) ?_
      refine wpL_q (U := NoB) rfl (q_loadBlk rfl rfl Try.isAgg3 (hS50.blk 0 rfl) rfl (fun h => h)) ?_
      refine wpL_q (U := NoB) rfl (q_eql rfl rfl rfl) ?_
      exact ⟨a50_1, a50_2, a50_3, a50_4, a50_6, a50_8, a50_29, a50_30, a50_31, rfl, rfl⟩
    rintro f51 _ ⟨a51_1, a51_2, a51_3, a51_4, a51_6, a51_8, a51_29, a51_30, a51_31, a51_41, rfl⟩
    clear a50_1 a50_2 a50_29 a50_3 a50_30 a50_31 a50_4 a50_6 a50_8
    refine wpF_cut (fun f H => ∃ (vA : Value), ((declA (nth a.Decls k)).Name.size ≤ maxLen) ∧ (In64 (declA (nth a.Decls k)).Srt) ∧ f 1 = PT g1 0 ∧ f 2 = PT g4 0 ∧ f 3 = PT g7 0 ∧ f 4 = r11 ∧ f 6 = PT g26 0 ∧ f 8 = PT g38 0 ∧ f 29 = vD ∧ f 30 = I ((a.Decls.length : Int)) ∧ f 31 = I ((k : Int)) ∧ St H0 NoB (fun b => S b ∧ b < H0.size) [rdE vA ((declA (nth a.Decls k)).Args), blkE g38 (.cells #[SB ((declA (nth a.Decls k)).Name), vA, I ((declA (nth a.Decls k)).Srt)] 43), rowE 43 vo ((a.Decls.take k).map declA : List Decl), blkE g26 (.cells #[vo, (Value.slice none 0 0), (Value.slice none 0 0)] 26), blkE g15 (.cells #[I (((sortsF a)).1), I (((sortsF a)).2)] 28), rdE r11 (sorts a), blkE g7 (.cells #[I (0), I (0)] 28), blkE g4 (.cells #[(Value.slice none 0 0), (Value.slice none 0 0), (Value.slice none 0 0)] 26), blkE g1 (.cells #[vD, vN, vH] 26), rdE vD a.Decls, rdE vN a.Nodes, rdE vH a.Hold] H) ?_ ?_
    · refine wpF_condP a51_41 (fun h41 => ?t61) (fun h41 => ?e61)
      case e61 =>
        refine wpF_skip ?_
        exact ⟨r44, (by rw [declA_no h41]; assumption), (by rw [declA_no h41]; assumption), a51_1, a51_2, a51_3, a51_4, a51_6, a51_8, a51_29, a51_30, a51_31, (by have h__ := (St.drop (show St H0 NoB (fun b => S b ∧ b < H0.size) [rdE r44 (((nth a.Decls k).Args)), blkE g38 (.cells #[SB ((nth a.Decls k).Name), r44, I ((nth a.Decls k).Srt)] 43), rowE 43 vo ((a.Decls.take k).map declA : List Decl), blkE g26 (.cells #[vo, (Value.slice none 0 0), (Value.slice none 0 0)] 26), blkE g15 (.cells #[I (((sortsF a)).1), I (((sortsF a)).2)] 28), rdE r11 (sorts a), blkE g7 (.cells #[I (0), I (0)] 28), blkE g4 (.cells #[(Value.slice none 0 0), (Value.slice none 0 0), (Value.slice none 0 0)] 26), blkE g1 (.cells #[vD, vN, vH] 26), rdE vD a.Decls, rdE vN a.Nodes, rdE vH a.Hold] H50 from (hS50.front 1 rfl)) (sk (sk (sk (sk (sk (sk (sk (sk (sk (sk (sk (sk (List.Sublist.slnil)))))))))))))); rw [declA_no h41]; exact h__)⟩
      refine wpF_cut (fun f H => ∃ (v54 : Value), f 1 = PT g1 0 ∧ f 2 = PT g4 0 ∧ f 3 = PT g7 0 ∧ f 4 = r11 ∧ f 6 = PT g26 0 ∧ f 8 = PT g38 0 ∧ f 29 = vD ∧ f 30 = I ((a.Decls.length : Int)) ∧ f 31 = I ((k : Int)) ∧ St H0 NoB (fun b => S b ∧ b < H0.size) [blkE g38 (.cells #[SB ((nth a.Decls k).Name), v54, I (4)] 43), rowE 3 v54 ([4] : List Int), rowE 43 vo ((a.Decls.take k).map declA : List Decl), blkE g26 (.cells #[vo, (Value.slice none 0 0), (Value.slice none 0 0)] 26), blkE g15 (.cells #[I (((sortsF a)).1), I (((sortsF a)).2)] 28), rdE r11 (sorts a), blkE g7 (.cells #[I (0), I (0)] 28), blkE g4 (.cells #[(Value.slice none 0 0), (Value.slice none 0 0), (Value.slice none 0 0)] 26), blkE g1 (.cells #[vD, vN, vH] 26), rdE vD a.Decls, rdE vN a.Nodes, rdE vH a.Hold] H) ?_ ?_
      · refine wpF_region ?_
        refine wpL_q (U := NoB) rfl (q_fieldAddr rfl Try.underlying43 rfl Try.sizeOf9 a51_8) ?_
        refine wpL_q (U := NoB) rfl (q_loadBlk rfl rfl Try.isAgg9 (hS50.blk 0 rfl) rfl (fun h => h)) ?_
        refine wpL_o rfl ?_
        refine e_buildSlice (vs := [I (4)]) (xs := ([4] : List Int)) rfl Try.underlying24 Try.zeroValue3 rfl Try.sizeOf3 (par1 (v0 := I (4)) rfl) rfl hS50 (RdVs.cons (Rd.int.2 ⟨rfl, by first | assumption | (constructor <;> omega)⟩) (RdVs.nil)) (by decide) (by decide) (fun v54 H55 hS56 hxx hvv54 => ?_)
        replace hS56 : St H0 NoB (fun b => S b ∧ b < H0.size) [rowE 3 v54 ([4] : List Int), blkE g38 (.cells #[SB ((nth a.Decls k).Name), r44, I ((nth a.Decls k).Srt)] 43), rdE r44 (((nth a.Decls k).Args)), rowE 43 vo ((a.Decls.take k).map declA : List Decl), blkE g26 (.cells #[vo, (Value.slice none 0 0), (Value.slice none 0 0)] 26), blkE g15 (.cells #[I (((sortsF a)).1), I (((sortsF a)).2)] 28), rdE r11 (sorts a), blkE g7 (.cells #[I (0), I (0)] 28), blkE g4 (.cells #[(Value.slice none 0 0), (Value.slice none 0 0), (Value.slice none 0 0)] 26), blkE g1 (.cells #[vD, vN, vH] 26), rdE vD a.Decls, rdE vN a.Nodes, rdE vH a.Hold] H55 := hS56
        refine wpL_q (U := NoB) rfl (q_build (v := Value.agg #[SB ((nth a.Decls k).Name), v54, I (4)]) rfl (par3 (v0 := SB ((nth a.Decls k).Name)) (v1 := v54) (v2 := I (4)) rfl rfl rfl) ((hS56.rowl 0 rfl).slc (fun zz0 => ∀ w, (Instr.build 43 #[(0, SB ((nth a.Decls k).Name)), (1, zz0), (2, I (4))]).run Try.prog w = .ok (Value.agg #[SB ((nth a.Decls k).Name), zz0, I (4)]) w) (fun a0 n0 c0 => (fun w => by kernel_rfl)))) ?_
        refine wpL_o rfl ?_
        refine e_storeBlkA (cs' := #[SB ((nth a.Decls k).Name), v54, I (4)]) rfl a51_8 rfl Try.sizeOf43 rfl rfl (List.forall_mem_cons.2 ⟨rfl, List.forall_mem_cons.2 ⟨(oneCell_rdL (hS56.rowl 0 rfl)), List.forall_mem_cons.2 ⟨rfl, List.forall_mem_nil _⟩⟩⟩) (hS56.front 1 rfl) (fun H57 hS58 hxx => ?_)
        replace hS58 : St H0 NoB (fun b => S b ∧ b < H0.size) [blkE g38 (.cells #[SB ((nth a.Decls k).Name), v54, I (4)] 43), rowE 3 v54 ([4] : List Int), rdE r44 (((nth a.Decls k).Args)), rowE 43 vo ((a.Decls.take k).map declA : List Decl), blkE g26 (.cells #[vo, (Value.slice none 0 0), (Value.slice none 0 0)] 26), blkE g15 (.cells #[I (((sortsF a)).1), I (((sortsF a)).2)] 28), rdE r11 (sorts a), blkE g7 (.cells #[I (0), I (0)] 28), blkE g4 (.cells #[(Value.slice none 0 0), (Value.slice none 0 0), (Value.slice none 0 0)] 26), blkE g1 (.cells #[vD, vN, vH] 26), rdE vD a.Decls, rdE vN a.Nodes, rdE vH a.Hold] H57 := hS58
        exact ⟨v54, a51_1, a51_2, a51_3, a51_4, a51_6, a51_8, a51_29, a51_30, a51_31, (hS58.drop (sk (sk (sn (sk (sk (sk (sk (sk (sk (sk (sk (sk (sk (List.Sublist.slnil)))))))))))))))⟩
      rintro f59 H59 ⟨v54, a59_1, a59_2, a59_3, a59_4, a59_6, a59_8, a59_29, a59_30, a59_31, hS59⟩
      clear a51_1 a51_2 a51_29 a51_3 a51_30 a51_31 a51_4 a51_41 a51_6 a51_8
      have hS60 : St H0 NoB (fun b => S b ∧ b < H0.size) [rdE v54 ([4] : List Int), blkE g38 (.cells #[SB ((nth a.Decls k).Name), v54, I (4)] 43), rowE 43 vo ((a.Decls.take k).map declA : List Decl), blkE g26 (.cells #[vo, (Value.slice none 0 0), (Value.slice none 0 0)] 26), blkE g15 (.cells #[I (((sortsF a)).1), I (((sortsF a)).2)] 28), rdE r11 (sorts a), blkE g7 (.cells #[I (0), I (0)] 28), blkE g4 (.cells #[(Value.slice none 0 0), (Value.slice none 0 0), (Value.slice none 0 0)] 26), blkE g1 (.cells #[vD, vN, vH] 26), rdE vD a.Decls, rdE vN a.Nodes, rdE vH a.Hold] H59 := St.fin (hS59.front 1 rfl)
      exact ⟨v54, (by rw [declA_yes h41]; assumption), (by rw [declA_yes h41]; exact (by constructor <;> decide : In64 4)), a59_1, a59_2, a59_3, a59_4, a59_6, a59_8, a59_29, a59_30, a59_31, (by have h__ := hS60; rw [declA_yes h41]; exact h__)⟩
    rintro f52 H52 ⟨vA, hds, hdi, a52_1, a52_2, a52_3, a52_4, a52_6, a52_8, a52_29, a52_30, a52_31, hS52⟩
    clear a51_1 a51_2 a51_29 a51_3 a51_30 a51_31 a51_4 a51_41 a51_6 a51_8
    refine wpF_cut (fun f H => ∃ (v67 : Value), f 1 = PT g1 0 ∧ f 2 = PT g4 0 ∧ f 3 = PT g7 0 ∧ f 4 = r11 ∧ f 6 = PT g26 0 ∧ f 29 = vD ∧ f 30 = I ((a.Decls.length : Int)) ∧ f 31 = I ((k : Int)) ∧ St H0 NoB (fun b => S b ∧ b < H0.size) [blkE g26 (.cells #[v67, (Value.slice none 0 0), (Value.slice none 0 0)] 26), rowE 43 v67 ((a.Decls.take (k + 1)).map declA : List Decl), rdE vA ((declA (nth a.Decls k)).Args), blkE g38 (.cells #[SB ((declA (nth a.Decls k)).Name), vA, I ((declA (nth a.Decls k)).Srt)] 43), blkE g15 (.cells #[I (((sortsF a)).1), I (((sortsF a)).2)] 28), rdE r11 (sorts a), blkE g7 (.cells #[I (0), I (0)] 28), blkE g4 (.cells #[(Value.slice none 0 0), (Value.slice none 0 0), (Value.slice none 0 0)] 26), blkE g1 (.cells #[vD, vN, vH] 26), rdE vD a.Decls, rdE vN a.Nodes, rdE vH a.Hold] H) ?_ ?_
    · refine wpF_region ?_
      refine wpL_q (U := NoB) rfl (q_fieldAddr rfl Try.underlying26 rfl Try.sizeOf22 a52_6) ?_
      refine wpL_q (U := NoB) rfl (q_loadBlk rfl rfl Try.isAgg22 (hS52.blk 3 rfl) rfl (fun h => h)) ?_
      refine wpL_q (U := NoB) rfl (q_loadBlkA rfl a52_8 Try.isAgg43 Try.sizeOf43 rfl (hS52.blk 1 rfl) (fun h => h)) ?_
      refine wpL_o rfl ?_
      refine e_buildSlice (vs := [Value.agg #[SB ((declA (nth a.Decls k)).Name), vA, I ((declA (nth a.Decls k)).Srt)]]) (xs := ([(declA (nth a.Decls k))] : List Decl)) rfl Try.underlying22 Try.zeroValue43 rfl Try.sizeOf43 (par1 (v0 := Value.agg #[SB ((declA (nth a.Decls k)).Name), vA, I ((declA (nth a.Decls k)).Srt)]) rfl) rfl hS52 (RdVs.cons (Rd.decl.2 ⟨_, rfl, (by first | assumption | exact Nat.zero_le _ | exact Nat.le_of_ble_eq_true rfl), (hS52.rdS 0 rfl), (by first | assumption | (constructor <;> (dsimp only; omega)) | (constructor <;> omega))⟩) (RdVs.nil)) (by decide) (by decide) (fun v62 H63 hS64 hxx hvv62 => ?_)
      replace hS64 : St H0 NoB (fun b => S b ∧ b < H0.size) [rowE 43 v62 ([(declA (nth a.Decls k))] : List Decl), rdE vA ((declA (nth a.Decls k)).Args), blkE g38 (.cells #[SB ((declA (nth a.Decls k)).Name), vA, I ((declA (nth a.Decls k)).Srt)] 43), rowE 43 vo ((a.Decls.take k).map declA : List Decl), blkE g26 (.cells #[vo, (Value.slice none 0 0), (Value.slice none 0 0)] 26), blkE g15 (.cells #[I (((sortsF a)).1), I (((sortsF a)).2)] 28), rdE r11 (sorts a), blkE g7 (.cells #[I (0), I (0)] 28), blkE g4 (.cells #[(Value.slice none 0 0), (Value.slice none 0 0), (Value.slice none 0 0)] 26), blkE g1 (.cells #[vD, vN, vH] 26), rdE vD a.Decls, rdE vN a.Nodes, rdE vH a.Hold] H63 := hS64
      have hS65 : St H0 NoB (fun b => S b ∧ b < H0.size) [rdE v62 ([(declA (nth a.Decls k))] : List Decl), rdE vA ((declA (nth a.Decls k)).Args), blkE g38 (.cells #[SB ((declA (nth a.Decls k)).Name), vA, I ((declA (nth a.Decls k)).Srt)] 43), rowE 43 vo ((a.Decls.take k).map declA : List Decl), blkE g26 (.cells #[vo, (Value.slice none 0 0), (Value.slice none 0 0)] 26), blkE g15 (.cells #[I (((sortsF a)).1), I (((sortsF a)).2)] 28), rdE r11 (sorts a), blkE g7 (.cells #[I (0), I (0)] 28), blkE g4 (.cells #[(Value.slice none 0 0), (Value.slice none 0 0), (Value.slice none 0 0)] 26), blkE g1 (.cells #[vD, vN, vH] 26), rdE vD a.Decls, rdE vN a.Nodes, rdE vH a.Hold] H63 := St.fin hS64
      have hS66 : St H0 NoB (fun b => S b ∧ b < H0.size) [rowE 43 vo ((a.Decls.take k).map declA : List Decl), rdE v62 ([(declA (nth a.Decls k))] : List Decl), rdE vA ((declA (nth a.Decls k)).Args), blkE g38 (.cells #[SB ((declA (nth a.Decls k)).Name), vA, I ((declA (nth a.Decls k)).Srt)] 43), blkE g26 (.cells #[vo, (Value.slice none 0 0), (Value.slice none 0 0)] 26), blkE g15 (.cells #[I (((sortsF a)).1), I (((sortsF a)).2)] 28), rdE r11 (sorts a), blkE g7 (.cells #[I (0), I (0)] 28), blkE g4 (.cells #[(Value.slice none 0 0), (Value.slice none 0 0), (Value.slice none 0 0)] 26), blkE g1 (.cells #[vD, vN, vH] 26), rdE vD a.Decls, rdE vN a.Nodes, rdE vH a.Hold] H63 := (hS65.front 3 rfl)
      refine wpL_o rfl ?_
      refine e_append rfl Try.underlying22 em_Decl_43_ArrC2 rfl rfl hS66 (hS66.rdS 1 rfl) (fun _ h => h) (by have hb : GoT.bytes Decl = 48 := rfl; rw [hb]; simp only [List.length_append, List.length_map, List.length_take, List.length_cons, List.length_nil]; omega) (by decide) (fun v67 H68 hS69 hxx => ?_)
      replace hS69 : St H0 NoB (fun b => S b ∧ b < H0.size) [rowE 43 v67 (((a.Decls.take k).map declA) ++ ([(declA (nth a.Decls k))]) : List Decl), rdE v62 ([(declA (nth a.Decls k))] : List Decl), rdE vA ((declA (nth a.Decls k)).Args), blkE g38 (.cells #[SB ((declA (nth a.Decls k)).Name), vA, I ((declA (nth a.Decls k)).Srt)] 43), blkE g26 (.cells #[vo, (Value.slice none 0 0), (Value.slice none 0 0)] 26), blkE g15 (.cells #[I (((sortsF a)).1), I (((sortsF a)).2)] 28), rdE r11 (sorts a), blkE g7 (.cells #[I (0), I (0)] 28), blkE g4 (.cells #[(Value.slice none 0 0), (Value.slice none 0 0), (Value.slice none 0 0)] 26), blkE g1 (.cells #[vD, vN, vH] 26), rdE vD a.Decls, rdE vN a.Nodes, rdE vH a.Hold] H68 := hS69
      have hS70 : St H0 NoB (fun b => S b ∧ b < H0.size) [rowE 43 v67 ((a.Decls.take (k + 1)).map declA : List Decl), rdE v62 ([(declA (nth a.Decls k))] : List Decl), rdE vA ((declA (nth a.Decls k)).Args), blkE g38 (.cells #[SB ((declA (nth a.Decls k)).Name), vA, I ((declA (nth a.Decls k)).Srt)] 43), blkE g26 (.cells #[vo, (Value.slice none 0 0), (Value.slice none 0 0)] 26), blkE g15 (.cells #[I (((sortsF a)).1), I (((sortsF a)).2)] 28), rdE r11 (sorts a), blkE g7 (.cells #[I (0), I (0)] 28), blkE g4 (.cells #[(Value.slice none 0 0), (Value.slice none 0 0), (Value.slice none 0 0)] 26), blkE g1 (.cells #[vD, vN, vH] 26), rdE vD a.Decls, rdE vN a.Nodes, rdE vH a.Hold] H68 := by rw [show ((a.Decls.take (k + 1)).map declA) = (((a.Decls.take k).map declA) ++ ([(declA (nth a.Decls k))])) from (map_next (by omega)).symm]; exact hS69
      refine wpL_q (U := NoB) rfl (q_fieldAddr rfl Try.underlying26 rfl Try.sizeOf22 a52_6) ?_
      refine wpL_o rfl ?_
      refine e_storeBlk (v := v67) rfl rfl rfl (oneCell_rdL (hS70.rowl 0 rfl)) Try.sizeOf22 (by show _ < 3; decide) (hS70.front 4 rfl) (fun H71 hS72 hxx => ?_)
      replace hS72 : St H0 NoB (fun b => S b ∧ b < H0.size) [blkE g26 (.cells #[v67, (Value.slice none 0 0), (Value.slice none 0 0)] 26), rowE 43 v67 ((a.Decls.take (k + 1)).map declA : List Decl), rdE v62 ([(declA (nth a.Decls k))] : List Decl), rdE vA ((declA (nth a.Decls k)).Args), blkE g38 (.cells #[SB ((declA (nth a.Decls k)).Name), vA, I ((declA (nth a.Decls k)).Srt)] 43), blkE g15 (.cells #[I (((sortsF a)).1), I (((sortsF a)).2)] 28), rdE r11 (sorts a), blkE g7 (.cells #[I (0), I (0)] 28), blkE g4 (.cells #[(Value.slice none 0 0), (Value.slice none 0 0), (Value.slice none 0 0)] 26), blkE g1 (.cells #[vD, vN, vH] 26), rdE vD a.Decls, rdE vN a.Nodes, rdE vH a.Hold] H71 := hS72
      exact ⟨v67, a52_1, a52_2, a52_3, a52_4, a52_6, a52_29, a52_30, a52_31, (hS72.drop (sk (sk (sn (sk (sk (sk (sk (sk (sk (sk (sk (sk (sk (List.Sublist.slnil)))))))))))))))⟩
    rintro f73 H73 ⟨v67, a73_1, a73_2, a73_3, a73_4, a73_6, a73_29, a73_30, a73_31, hS73⟩
    clear a52_1 a52_2 a52_29 a52_3 a52_30 a52_31 a52_4 a52_6 a52_8
    refine wpF_cut (fun f H => f 1 = PT g1 0 ∧ f 2 = PT g4 0 ∧ f 3 = PT g7 0 ∧ f 4 = r11 ∧ f 6 = PT g26 0 ∧ f 29 = vD ∧ f 30 = I ((a.Decls.length : Int)) ∧ f 31 = I ((k : Int) + 1) ∧ H73 = H) ?_ ?_
    · refine wpF_region ?_
      refine wpL_q (U := NoB) rfl (q_add rfl a73_31 rfl (by constructor <;> omega)) ?_
      refine wpL_q (U := NoB) rfl (q_move (v := I ((k : Int) + 1)) rfl rfl) ?_
      exact ⟨a73_1, a73_2, a73_3, a73_4, a73_6, a73_29, a73_30, rfl, rfl⟩
    rintro f74 _ ⟨a74_1, a74_2, a74_3, a74_4, a74_6, a74_29, a74_30, a74_31, rfl⟩
    clear a73_1 a73_2 a73_29 a73_3 a73_30 a73_31 a73_4 a73_6
    refine ⟨_, ?_, k + 1, v67, rfl, (by omega), a74_1, a74_2, a74_3, a74_4, a74_6, a74_29, a74_30, (Eq.trans a74_31 (congrArg I (by omega))), (St.drop (show St H0 NoB (fun b => S b ∧ b < H0.size) [rowE 43 v67 ((a.Decls.take (k + 1)).map declA : List Decl), blkE g26 (.cells #[v67, (Value.slice none 0 0), (Value.slice none 0 0)] 26), rdE vA ((declA (nth a.Decls k)).Args), blkE g38 (.cells #[SB ((declA (nth a.Decls k)).Name), vA, I ((declA (nth a.Decls k)).Srt)] 43), blkE g15 (.cells #[I (((sortsF a)).1), I (((sortsF a)).2)] 28), rdE r11 (sorts a), blkE g7 (.cells #[I (0), I (0)] 28), blkE g4 (.cells #[(Value.slice none 0 0), (Value.slice none 0 0), (Value.slice none 0 0)] 26), blkE g1 (.cells #[vD, vN, vH] 26), rdE vD a.Decls, rdE vN a.Nodes, rdE vH a.Hold] H73 from (hS73.front 1 rfl)) (sk (sk (sn (sn (sk (sk (sk (sk (sk (sk (sk (sk (List.Sublist.slnil))))))))))))))⟩
    omega
  have hS35 : St H0 NoB (fun b => S b ∧ b < H0.size) [rowE 43 vo (a.Decls.map declA : List Decl), blkE g26 (.cells #[vo, (Value.slice none 0 0), (Value.slice none 0 0)] 26), blkE g15 (.cells #[I (((sortsF a)).1), I (((sortsF a)).2)] 28), rdE r11 (sorts a), blkE g7 (.cells #[I (0), I (0)] 28), blkE g4 (.cells #[(Value.slice none 0 0), (Value.slice none 0 0), (Value.slice none 0 0)] 26), blkE g1 (.cells #[vD, vN, vH] 26), rdE vD a.Decls, rdE vN a.Nodes, rdE vH a.Hold] H32 := by have h__ := hS32; rw [List.take_of_length_le (show a.Decls.length ≤ k by omega)] at h__; exact h__
  refine wpF_exit ?_
  refine atX_here ?_
  refine wpF_seq ?_
  refine wpF_cut (fun f H => ∃ (g75 : Nat), f 1 = PT g1 0 ∧ f 2 = PT g4 0 ∧ f 3 = PT g7 0 ∧ f 4 = r11 ∧ f 6 = PT g26 0 ∧ f 9 = PT g75 0 ∧ St H0 NoB (fun b => S b ∧ b < H0.size) [blkE g75 (.cells #[vD, vN, vH, (Value.slice none 0 0), (Value.slice none 0 0)] 57), rowE 43 vo (a.Decls.map declA : List Decl), blkE g26 (.cells #[vo, (Value.slice none 0 0), (Value.slice none 0 0)] 26), blkE g15 (.cells #[I (((sortsF a)).1), I (((sortsF a)).2)] 28), rdE r11 (sorts a), blkE g7 (.cells #[I (0), I (0)] 28), blkE g4 (.cells #[(Value.slice none 0 0), (Value.slice none 0 0), (Value.slice none 0 0)] 26), blkE g1 (.cells #[vD, vN, vH] 26), rdE vD a.Decls, rdE vN a.Nodes, rdE vH a.Hold] H) ?_ ?_
  · refine wpF_region ?_
    refine wpL_q (U := NoB) rfl (q_loadBlkA rfl a33_1 Try.isAgg26 Try.sizeOf26 rfl (hS35.blk 6 rfl) (fun h => h)) ?_
    refine wpL_q (U := NoB) rfl (q_build (v := Value.agg #[vD, vN, vH, (Value.slice none 0 0), (Value.slice none 0 0)]) rfl (par1 (v0 := Value.agg #[vD, vN, vH]) rfl) (fun w => by kernel_rfl)) ?_
    refine wpL_o rfl ?_
    refine e_box (v := Value.agg #[vD, vN, vH, (Value.slice none 0 0), (Value.slice none 0 0)]) rfl rfl hS35 (fun g75 H76 hS77 hxx => ?_)
    replace hS77 : St H0 NoB (fun b => S b ∧ b < H0.size) [blkE g75 (.cells #[vD, vN, vH, (Value.slice none 0 0), (Value.slice none 0 0)] 57), rowE 43 vo (a.Decls.map declA : List Decl), blkE g26 (.cells #[vo, (Value.slice none 0 0), (Value.slice none 0 0)] 26), blkE g15 (.cells #[I (((sortsF a)).1), I (((sortsF a)).2)] 28), rdE r11 (sorts a), blkE g7 (.cells #[I (0), I (0)] 28), blkE g4 (.cells #[(Value.slice none 0 0), (Value.slice none 0 0), (Value.slice none 0 0)] 26), blkE g1 (.cells #[vD, vN, vH] 26), rdE vD a.Decls, rdE vN a.Nodes, rdE vH a.Hold] H76 := hS77
    refine wpL_q (U := NoB) rfl (q_assign (v := PT g75 0) rfl rfl) ?_
    exact ⟨g75, a33_1, a33_2, a33_3, a33_4, a33_6, rfl, hS77⟩
  rintro f78 H78 ⟨g75, a78_1, a78_2, a78_3, a78_4, a78_6, a78_9, hS78⟩
  clear a33_1 a33_2 a33_29 a33_3 a33_30 a33_31 a33_32 a33_4 a33_6
  have hS79 : St H0 NoB (fun b => S b ∧ b < H0.size) [rowE 37 (Value.slice none 0 0) ([] : List Node), blkE g75 (.cells #[vD, vN, vH, (Value.slice none 0 0), (Value.slice none 0 0)] 57), rowE 43 vo (a.Decls.map declA : List Decl), blkE g26 (.cells #[vo, (Value.slice none 0 0), (Value.slice none 0 0)] 26), blkE g15 (.cells #[I (((sortsF a)).1), I (((sortsF a)).2)] 28), rdE r11 (sorts a), blkE g7 (.cells #[I (0), I (0)] 28), blkE g4 (.cells #[(Value.slice none 0 0), (Value.slice none 0 0), (Value.slice none 0 0)] 26), blkE g1 (.cells #[vD, vN, vH] 26), rdE vD a.Decls, rdE vN a.Nodes, rdE vH a.Hold] H78 := hS78.row0 37
  have hS80 : St H0 NoB (fun b => S b ∧ b < H0.size) [rowE 3 (Value.slice none 0 0) ([] : List Int), rowE 37 (Value.slice none 0 0) ([] : List Node), blkE g75 (.cells #[vD, vN, vH, (Value.slice none 0 0), (Value.slice none 0 0)] 57), rowE 43 vo (a.Decls.map declA : List Decl), blkE g26 (.cells #[vo, (Value.slice none 0 0), (Value.slice none 0 0)] 26), blkE g15 (.cells #[I (((sortsF a)).1), I (((sortsF a)).2)] 28), rdE r11 (sorts a), blkE g7 (.cells #[I (0), I (0)] 28), blkE g4 (.cells #[(Value.slice none 0 0), (Value.slice none 0 0), (Value.slice none 0 0)] 26), blkE g1 (.cells #[vD, vN, vH] 26), rdE vD a.Decls, rdE vN a.Nodes, rdE vH a.Hold] H78 := hS79.row0 3
  refine wpF_seq ?_
  refine wpF_seq ?_
  refine wpF_cut (fun f H => f 1 = PT g1 0 ∧ f 2 = PT g4 0 ∧ f 3 = PT g7 0 ∧ f 4 = r11 ∧ f 6 = PT g26 0 ∧ f 9 = PT g75 0 ∧ f 57 = vN ∧ f 58 = I ((a.Nodes.length : Int)) ∧ f 59 = I (0) ∧ H78 = H) ?_ ?_
  · refine wpF_region ?_
    refine wpL_q (U := NoB) rfl (q_fieldAddr rfl Try.underlying26 rfl Try.sizeOf23 a78_1) ?_
    refine wpL_q (U := NoB) rfl (q_loadBlk rfl rfl Try.isAgg23 (hS80.blk 9 rfl) rfl (fun h => h)) ?_
    refine wpL_q (U := NoB) rfl (q_lenRd rfl Try.underlying23 rfl (hS80.rdl 11 rfl)) ?_
    refine wpL_q (U := NoB) rfl (q_move (v := I (0)) rfl rfl) ?_
    exact ⟨a78_1, a78_2, a78_3, a78_4, a78_6, a78_9, rfl, rfl, rfl, rfl⟩
  rintro f81 _ ⟨a81_1, a81_2, a81_3, a81_4, a81_6, a81_9, a81_57, a81_58, a81_59, rfl⟩
  clear a78_1 a78_2 a78_3 a78_4 a78_6 a78_9
  refine wpF_block ?_
  refine wpF_loop (fun mz f H => ∃ (k : Nat), ∃ (vn : Value), ∃ (vt : Value), mz = a.Nodes.length - k ∧ (k ≤ a.Nodes.length) ∧ ((turnTo a k).Nodes.length ≤ 200) ∧ f 1 = PT g1 0 ∧ f 2 = PT g4 0 ∧ f 3 = PT g7 0 ∧ f 4 = r11 ∧ f 6 = PT g26 0 ∧ f 9 = PT g75 0 ∧ f 57 = vN ∧ f 58 = I ((a.Nodes.length : Int)) ∧ f 59 = I ((k : Int)) ∧ St H0 NoB (fun b => S b ∧ b < H0.size) [rowE 37 vn ((turnTo a k).Nodes : List Node), rowE 3 vt ((turnTo a k).To : List Int), blkE g75 (.cells #[vD, vN, vH, vn, vt] 57), rowE 43 vo (a.Decls.map declA : List Decl), blkE g26 (.cells #[vo, (Value.slice none 0 0), (Value.slice none 0 0)] 26), blkE g15 (.cells #[I (((sortsF a)).1), I (((sortsF a)).2)] 28), rdE r11 (sorts a), blkE g7 (.cells #[I (0), I (0)] 28), blkE g4 (.cells #[(Value.slice none 0 0), (Value.slice none 0 0), (Value.slice none 0 0)] 26), blkE g1 (.cells #[vD, vN, vH] 26), rdE vD a.Decls, rdE vN a.Nodes, rdE vH a.Hold] H) (a.Nodes.length - 0) ?_ ?_
  · exact ⟨0, (Value.slice none 0 0), (Value.slice none 0 0), rfl, Nat.zero_le _, Nat.zero_le _, a81_1, a81_2, a81_3, a81_4, a81_6, a81_9, a81_57, a81_58, (Eq.trans a81_59 (congrArg I (by omega))), (show St H0 NoB (fun b => S b ∧ b < H0.size) [rowE 37 (Value.slice none 0 0) ((turnTo a 0).Nodes : List Node), rowE 3 (Value.slice none 0 0) ((turnTo a 0).To : List Int), blkE g75 (.cells #[vD, vN, vH, (Value.slice none 0 0), (Value.slice none 0 0)] 57), rowE 43 vo (a.Decls.map declA : List Decl), blkE g26 (.cells #[vo, (Value.slice none 0 0), (Value.slice none 0 0)] 26), blkE g15 (.cells #[I (((sortsF a)).1), I (((sortsF a)).2)] 28), rdE r11 (sorts a), blkE g7 (.cells #[I (0), I (0)] 28), blkE g4 (.cells #[(Value.slice none 0 0), (Value.slice none 0 0), (Value.slice none 0 0)] 26), blkE g1 (.cells #[vD, vN, vH] 26), rdE vD a.Decls, rdE vN a.Nodes, rdE vH a.Hold] H78 from (St.drop (show St H0 NoB (fun b => S b ∧ b < H0.size) [rowE 37 (Value.slice none 0 0) ([] : List Node), rowE 3 (Value.slice none 0 0) ([] : List Int), blkE g75 (.cells #[vD, vN, vH, (Value.slice none 0 0), (Value.slice none 0 0)] 57), rowE 43 vo (a.Decls.map declA : List Decl), blkE g26 (.cells #[vo, (Value.slice none 0 0), (Value.slice none 0 0)] 26), blkE g15 (.cells #[I (((sortsF a)).1), I (((sortsF a)).2)] 28), rdE r11 (sorts a), blkE g7 (.cells #[I (0), I (0)] 28), blkE g4 (.cells #[(Value.slice none 0 0), (Value.slice none 0 0), (Value.slice none 0 0)] 26), blkE g1 (.cells #[vD, vN, vH] 26), rdE vD a.Decls, rdE vN a.Nodes, rdE vH a.Hold] H78 from (hS80.front 1 rfl)) (sk (sk (sk (sk (sk (sk (sk (sk (sk (sk (sk (sk (sk (List.Sublist.slnil))))))))))))))))⟩
  intro m82 f82 H82 hI82
  obtain ⟨k, vn, vt, hm82, hk, hN, a82_1, a82_2, a82_3, a82_4, a82_6, a82_9, a82_57, a82_58, a82_59, hS82⟩ := hI82
  clear a81_1 a81_2 a81_3 a81_4 a81_57 a81_58 a81_59 a81_6 a81_9
  refine wpF_seq ?_
  refine wpF_cut (fun f H => f 1 = PT g1 0 ∧ f 2 = PT g4 0 ∧ f 3 = PT g7 0 ∧ f 4 = r11 ∧ f 6 = PT g26 0 ∧ f 9 = PT g75 0 ∧ f 57 = vN ∧ f 58 = I ((a.Nodes.length : Int)) ∧ f 59 = I ((k : Int)) ∧ f 60 = B (decide ((k : Int) < (a.Nodes.length : Int))) ∧ H82 = H) ?_ ?_
  · refine wpF_region ?_
    refine wpL_q (U := NoB) rfl (q_lss rfl a82_59 a82_58) ?_
    exact ⟨a82_1, a82_2, a82_3, a82_4, a82_6, a82_9, a82_57, a82_58, a82_59, rfl, rfl⟩
  rintro f83 _ ⟨a83_1, a83_2, a83_3, a83_4, a83_6, a83_9, a83_57, a83_58, a83_59, a83_60, rfl⟩
  clear a82_1 a82_2 a82_3 a82_4 a82_57 a82_58 a82_59 a82_6 a82_9
  refine wpF_seq ?_
  refine wpF_condP a83_60 (fun hlt2 => ?t168) (fun hlt2 => ?e168)
  case e168 =>
    obtain rfl : k = a.Nodes.length := by omega
    have htl := turnTo_to (a := a) a.Nodes.length
    refine wpF_exit ?_
    refine atX_here ?_
    refine wpF_seq ?_
    refine wpF_cut (fun f H => f 1 = PT g1 0 ∧ f 2 = PT g4 0 ∧ f 3 = PT g7 0 ∧ f 6 = PT g26 0 ∧ f 9 = PT g75 0 ∧ St H0 NoB (fun b => S b ∧ b < H0.size) [blkE g26 (.cells #[vo, vn, (Value.slice none 0 0)] 26), rowE 37 vn ((turnTo a a.Nodes.length).Nodes : List Node), rowE 3 vt ((turnTo a a.Nodes.length).To : List Int), blkE g75 (.cells #[vD, vN, vH, vn, vt] 57), rowE 43 vo (a.Decls.map declA : List Decl), blkE g15 (.cells #[I (((sortsF a)).1), I (((sortsF a)).2)] 28), blkE g7 (.cells #[I (0), I (0)] 28), blkE g4 (.cells #[(Value.slice none 0 0), (Value.slice none 0 0), (Value.slice none 0 0)] 26), blkE g1 (.cells #[vD, vN, vH] 26), rdE vD a.Decls, rdE vN a.Nodes, rdE vH a.Hold] H) ?_ ?_
    · refine wpF_region ?_
      refine wpL_q (U := NoB) rfl (q_move (v := PT g75 0) rfl a83_9) ?_
      refine wpL_q (U := NoB) rfl (q_nilCheck rfl rfl) ?_
      refine wpL_q (U := NoB) rfl (q_fieldAddr rfl Try.underlying57 rfl Try.sizeOf23 rfl) ?_
      refine wpL_q (U := NoB) rfl (q_loadBlk rfl rfl Try.isAgg23 (hS82.blk 2 rfl) rfl (fun h => h)) ?_
      refine wpL_q (U := NoB) rfl (q_fieldAddr rfl Try.underlying26 rfl Try.sizeOf23 a83_6) ?_
      refine wpL_o rfl ?_
      refine e_storeBlk (v := vn) rfl rfl rfl (oneCell_rdL (hS82.rowl 0 rfl)) Try.sizeOf23 (by show _ < 3; decide) (hS82.front 4 rfl) (fun H146 hS147 hxx => ?_)
      replace hS147 : St H0 NoB (fun b => S b ∧ b < H0.size) [blkE g26 (.cells #[vo, vn, (Value.slice none 0 0)] 26), rowE 37 vn ((turnTo a a.Nodes.length).Nodes : List Node), rowE 3 vt ((turnTo a a.Nodes.length).To : List Int), blkE g75 (.cells #[vD, vN, vH, vn, vt] 57), rowE 43 vo (a.Decls.map declA : List Decl), blkE g15 (.cells #[I (((sortsF a)).1), I (((sortsF a)).2)] 28), rdE r11 (sorts a), blkE g7 (.cells #[I (0), I (0)] 28), blkE g4 (.cells #[(Value.slice none 0 0), (Value.slice none 0 0), (Value.slice none 0 0)] 26), blkE g1 (.cells #[vD, vN, vH] 26), rdE vD a.Decls, rdE vN a.Nodes, rdE vH a.Hold] H146 := hS147
      exact ⟨a83_1, a83_2, a83_3, a83_6, a83_9, (hS147.drop (sk (sk (sk (sk (sk (sk (sn (sk (sk (sk (sk (sk (sk (List.Sublist.slnil)))))))))))))))⟩
    rintro f148 H148 ⟨a148_1, a148_2, a148_3, a148_6, a148_9, hS148⟩
    clear a83_1 a83_2 a83_3 a83_4 a83_57 a83_58 a83_59 a83_6 a83_60 a83_9
    have hS149 : St H0 NoB (fun b => S b ∧ b < H0.size) [rowE 3 (Value.slice none 0 0) ([] : List Int), blkE g26 (.cells #[vo, vn, (Value.slice none 0 0)] 26), rowE 37 vn ((turnTo a a.Nodes.length).Nodes : List Node), rowE 3 vt ((turnTo a a.Nodes.length).To : List Int), blkE g75 (.cells #[vD, vN, vH, vn, vt] 57), rowE 43 vo (a.Decls.map declA : List Decl), blkE g15 (.cells #[I (((sortsF a)).1), I (((sortsF a)).2)] 28), blkE g7 (.cells #[I (0), I (0)] 28), blkE g4 (.cells #[(Value.slice none 0 0), (Value.slice none 0 0), (Value.slice none 0 0)] 26), blkE g1 (.cells #[vD, vN, vH] 26), rdE vD a.Decls, rdE vN a.Nodes, rdE vH a.Hold] H148 := hS148.row0 3
    refine wpF_seq ?_
    refine wpF_seq ?_
    refine wpF_cut (fun f H => f 2 = PT g4 0 ∧ f 3 = PT g7 0 ∧ f 6 = PT g26 0 ∧ f 9 = PT g75 0 ∧ f 140 = vH ∧ f 141 = I ((a.Hold.length : Int)) ∧ f 142 = I (0) ∧ H148 = H) ?_ ?_
    · refine wpF_region ?_
      refine wpL_q (U := NoB) rfl (q_fieldAddr rfl Try.underlying26 rfl Try.sizeOf24 a148_1) ?_
      refine wpL_q (U := NoB) rfl (q_loadBlk rfl rfl Try.isAgg24 (hS149.blk 9 rfl) rfl (fun h => h)) ?_
      refine wpL_q (U := NoB) rfl (q_lenRd rfl Try.underlying24 rfl (hS149.rdl 12 rfl)) ?_
      refine wpL_q (U := NoB) rfl (q_move (v := I (0)) rfl rfl) ?_
      exact ⟨a148_2, a148_3, a148_6, a148_9, rfl, rfl, rfl, rfl⟩
    rintro f150 _ ⟨a150_2, a150_3, a150_6, a150_9, a150_140, a150_141, a150_142, rfl⟩
    clear a148_1 a148_2 a148_3 a148_6 a148_9
    refine wpF_block ?_
    refine wpF_loop (fun mz f H => ∃ (u : Nat), ∃ (vh : Value), mz = a.Hold.length - u ∧ (u ≤ a.Hold.length) ∧ f 2 = PT g4 0 ∧ f 3 = PT g7 0 ∧ f 6 = PT g26 0 ∧ f 9 = PT g75 0 ∧ f 140 = vH ∧ f 141 = I ((a.Hold.length : Int)) ∧ f 142 = I ((u : Int)) ∧ St H0 NoB (fun b => S b ∧ b < H0.size) [rowE 3 vh (kidS (turned a).To (a.Hold.take u) : List Int), blkE g26 (.cells #[vo, vn, vh] 26), rowE 37 vn ((turnTo a a.Nodes.length).Nodes : List Node), rowE 3 vt ((turnTo a a.Nodes.length).To : List Int), blkE g75 (.cells #[vD, vN, vH, vn, vt] 57), rowE 43 vo (a.Decls.map declA : List Decl), blkE g15 (.cells #[I (((sortsF a)).1), I (((sortsF a)).2)] 28), blkE g7 (.cells #[I (0), I (0)] 28), blkE g4 (.cells #[(Value.slice none 0 0), (Value.slice none 0 0), (Value.slice none 0 0)] 26), blkE g1 (.cells #[vD, vN, vH] 26), rdE vD a.Decls, rdE vN a.Nodes, rdE vH a.Hold] H) (a.Hold.length - 0) ?_ ?_
    · exact ⟨0, (Value.slice none 0 0), rfl, Nat.zero_le _, a150_2, a150_3, a150_6, a150_9, a150_140, a150_141, (Eq.trans a150_142 (congrArg I (by omega))), (show St H0 NoB (fun b => S b ∧ b < H0.size) [rowE 3 (Value.slice none 0 0) (kidS (turned a).To (a.Hold.take 0) : List Int), blkE g26 (.cells #[vo, vn, (Value.slice none 0 0)] 26), rowE 37 vn ((turnTo a a.Nodes.length).Nodes : List Node), rowE 3 vt ((turnTo a a.Nodes.length).To : List Int), blkE g75 (.cells #[vD, vN, vH, vn, vt] 57), rowE 43 vo (a.Decls.map declA : List Decl), blkE g15 (.cells #[I (((sortsF a)).1), I (((sortsF a)).2)] 28), blkE g7 (.cells #[I (0), I (0)] 28), blkE g4 (.cells #[(Value.slice none 0 0), (Value.slice none 0 0), (Value.slice none 0 0)] 26), blkE g1 (.cells #[vD, vN, vH] 26), rdE vD a.Decls, rdE vN a.Nodes, rdE vH a.Hold] H148 from hS149)⟩
    intro m151 f151 H151 hI151
    obtain ⟨u, vh, hm151, hu, a151_2, a151_3, a151_6, a151_9, a151_140, a151_141, a151_142, hS151⟩ := hI151
    clear a150_140 a150_141 a150_142 a150_2 a150_3 a150_6 a150_9
    refine wpF_seq ?_
    refine wpF_cut (fun f H => f 2 = PT g4 0 ∧ f 3 = PT g7 0 ∧ f 6 = PT g26 0 ∧ f 9 = PT g75 0 ∧ f 140 = vH ∧ f 141 = I ((a.Hold.length : Int)) ∧ f 142 = I ((u : Int)) ∧ f 143 = B (decide ((u : Int) < (a.Hold.length : Int))) ∧ H151 = H) ?_ ?_
    · refine wpF_region ?_
      refine wpL_q (U := NoB) rfl (q_lss rfl a151_142 a151_141) ?_
      exact ⟨a151_2, a151_3, a151_6, a151_9, a151_140, a151_141, a151_142, rfl, rfl⟩
    rintro f152 _ ⟨a152_2, a152_3, a152_6, a152_9, a152_140, a152_141, a152_142, a152_143, rfl⟩
    clear a151_140 a151_141 a151_142 a151_2 a151_3 a151_6 a151_9
    refine wpF_seq ?_
    refine wpF_condP a152_143 (fun hlt7 => ?t167) (fun hlt7 => ?e167)
    case e167 =>
      have hS154 : St H0 NoB (fun b => S b ∧ b < H0.size) [rowE 3 vh (kidS (turned a).To a.Hold : List Int), blkE g26 (.cells #[vo, vn, vh] 26), rowE 37 vn ((turnTo a a.Nodes.length).Nodes : List Node), rowE 3 vt ((turnTo a a.Nodes.length).To : List Int), blkE g75 (.cells #[vD, vN, vH, vn, vt] 57), rowE 43 vo (a.Decls.map declA : List Decl), blkE g15 (.cells #[I (((sortsF a)).1), I (((sortsF a)).2)] 28), blkE g7 (.cells #[I (0), I (0)] 28), blkE g4 (.cells #[(Value.slice none 0 0), (Value.slice none 0 0), (Value.slice none 0 0)] 26), blkE g1 (.cells #[vD, vN, vH] 26), rdE vD a.Decls, rdE vN a.Nodes, rdE vH a.Hold] H151 := by have h__ := hS151; rw [List.take_of_length_le (show a.Hold.length ≤ u by omega)] at h__; exact h__
      refine wpF_exit ?_
      refine atX_here ?_
      refine wpF_seq ?_
      refine wpF_cut (fun f H => f 2 = PT g4 0 ∧ f 3 = PT g7 0 ∧ St H0 NoB (fun b => S b ∧ b < H0.size) [blkE g7 (.cells #[I (0), I (0)] 28), blkE g4 (.cells #[vo, vn, vh] 26), rowE 3 vh (kidS (turned a).To a.Hold : List Int), blkE g26 (.cells #[vo, vn, vh] 26), rowE 37 vn ((turnTo a a.Nodes.length).Nodes : List Node), rowE 3 vt ((turnTo a a.Nodes.length).To : List Int), blkE g75 (.cells #[vD, vN, vH, vn, vt] 57), rowE 43 vo (a.Decls.map declA : List Decl), blkE g15 (.cells #[I (((sortsF a)).1), I (((sortsF a)).2)] 28), blkE g1 (.cells #[vD, vN, vH] 26), rdE vD a.Decls, rdE vN a.Nodes, rdE vH a.Hold] H) ?_ ?_
      · refine wpF_region ?_
        refine wpL_q (U := NoB) rfl (q_loadBlkA rfl a152_6 Try.isAgg26 Try.sizeOf26 rfl (hS154.blk 1 rfl) (fun h => h)) ?_
        refine wpL_q (U := NoB) rfl (q_build (v := Value.agg #[I (0), I (0)]) rfl par0 (fun w => by kernel_rfl)) ?_
        refine wpL_o rfl ?_
        refine e_storeBlkA (cs' := #[vo, vn, vh]) rfl a152_2 rfl Try.sizeOf26 rfl rfl (List.forall_mem_cons.2 ⟨(oneCell_rdL (hS154.rowl 5 rfl)), List.forall_mem_cons.2 ⟨(oneCell_rdL (hS154.rowl 2 rfl)), List.forall_mem_cons.2 ⟨(oneCell_rdL (hS154.rowl 0 rfl)), List.forall_mem_nil _⟩⟩⟩) (hS154.front 8 rfl) (fun H159 hS160 hxx => ?_)
        replace hS160 : St H0 NoB (fun b => S b ∧ b < H0.size) [blkE g4 (.cells #[vo, vn, vh] 26), rowE 3 vh (kidS (turned a).To a.Hold : List Int), blkE g26 (.cells #[vo, vn, vh] 26), rowE 37 vn ((turnTo a a.Nodes.length).Nodes : List Node), rowE 3 vt ((turnTo a a.Nodes.length).To : List Int), blkE g75 (.cells #[vD, vN, vH, vn, vt] 57), rowE 43 vo (a.Decls.map declA : List Decl), blkE g15 (.cells #[I (((sortsF a)).1), I (((sortsF a)).2)] 28), blkE g7 (.cells #[I (0), I (0)] 28), blkE g1 (.cells #[vD, vN, vH] 26), rdE vD a.Decls, rdE vN a.Nodes, rdE vH a.Hold] H159 := hS160
        refine wpL_o rfl ?_
        refine e_storeBlkA (cs' := #[I (0), I (0)]) rfl a152_3 rfl Try.sizeOf28 rfl rfl (List.forall_mem_cons.2 ⟨rfl, List.forall_mem_cons.2 ⟨rfl, List.forall_mem_nil _⟩⟩) (hS160.front 8 rfl) (fun H161 hS162 hxx => ?_)
        replace hS162 : St H0 NoB (fun b => S b ∧ b < H0.size) [blkE g7 (.cells #[I (0), I (0)] 28), blkE g4 (.cells #[vo, vn, vh] 26), rowE 3 vh (kidS (turned a).To a.Hold : List Int), blkE g26 (.cells #[vo, vn, vh] 26), rowE 37 vn ((turnTo a a.Nodes.length).Nodes : List Node), rowE 3 vt ((turnTo a a.Nodes.length).To : List Int), blkE g75 (.cells #[vD, vN, vH, vn, vt] 57), rowE 43 vo (a.Decls.map declA : List Decl), blkE g15 (.cells #[I (((sortsF a)).1), I (((sortsF a)).2)] 28), blkE g1 (.cells #[vD, vN, vH] 26), rdE vD a.Decls, rdE vN a.Nodes, rdE vH a.Hold] H161 := hS162
        exact ⟨a152_2, a152_3, hS162⟩
      rintro f163 H163 ⟨a163_2, a163_3, hS163⟩
      clear a152_140 a152_141 a152_142 a152_143 a152_2 a152_3 a152_6 a152_9
      refine wpF_ret ?_
      refine ⟨_, resC a163_2 (loadV_blkA Try.isAgg26 Try.sizeOf26 rfl (hS163.blk 1 rfl)) (resC a163_3 (loadV_blkA Try.isAgg28 Try.sizeOf28 rfl (hS163.blk 0 rfl)) (resN)), hS163.frame, ?_⟩
      show ∃ w0_ w1_ w2_, (Value.tuple #[Value.agg #[vo, vn, vh], Value.agg #[I (0), I (0)]]) = Value.tuple #[Value.agg #[w0_, w1_, w2_], Value.agg #[I (doF a).1, I (doF a).2]] ∧ Rd (fun b => S b ∧ b < H0.size) H163 w0_ (doA a).Decls ∧ Rd (fun b => S b ∧ b < H0.size) H163 w1_ (doA a).Nodes ∧ Rd (fun b => S b ∧ b < H0.size) H163 w2_ (doA a).Hold
      have hS164 : St H0 NoB (fun b => S b ∧ b < H0.size) [rdE vo (a.Decls.map declA), blkE g7 (.cells #[I (0), I (0)] 28), blkE g4 (.cells #[vo, vn, vh] 26), rowE 3 vh (kidS (turned a).To a.Hold : List Int), blkE g26 (.cells #[vo, vn, vh] 26), rowE 37 vn ((turnTo a a.Nodes.length).Nodes : List Node), rowE 3 vt ((turnTo a a.Nodes.length).To : List Int), blkE g75 (.cells #[vD, vN, vH, vn, vt] 57), blkE g15 (.cells #[I (((sortsF a)).1), I (((sortsF a)).2)] 28), blkE g1 (.cells #[vD, vN, vH] 26), rdE vD a.Decls, rdE vN a.Nodes, rdE vH a.Hold] H163 := St.fin (hS163.front 7 rfl)
      have hS165 : St H0 NoB (fun b => S b ∧ b < H0.size) [rdE vn ((turnTo a a.Nodes.length).Nodes), rdE vo (a.Decls.map declA), blkE g7 (.cells #[I (0), I (0)] 28), blkE g4 (.cells #[vo, vn, vh] 26), rowE 3 vh (kidS (turned a).To a.Hold : List Int), blkE g26 (.cells #[vo, vn, vh] 26), rowE 3 vt ((turnTo a a.Nodes.length).To : List Int), blkE g75 (.cells #[vD, vN, vH, vn, vt] 57), blkE g15 (.cells #[I (((sortsF a)).1), I (((sortsF a)).2)] 28), blkE g1 (.cells #[vD, vN, vH] 26), rdE vD a.Decls, rdE vN a.Nodes, rdE vH a.Hold] H163 := St.fin (hS164.front 5 rfl)
      have hS166 : St H0 NoB (fun b => S b ∧ b < H0.size) [rdE vh (kidS (turned a).To a.Hold), rdE vn ((turnTo a a.Nodes.length).Nodes), rdE vo (a.Decls.map declA), blkE g7 (.cells #[I (0), I (0)] 28), blkE g4 (.cells #[vo, vn, vh] 26), blkE g26 (.cells #[vo, vn, vh] 26), rowE 3 vt ((turnTo a a.Nodes.length).To : List Int), blkE g75 (.cells #[vD, vN, vH, vn, vt] 57), blkE g15 (.cells #[I (((sortsF a)).1), I (((sortsF a)).2)] 28), blkE g1 (.cells #[vD, vN, vH] 26), rdE vD a.Decls, rdE vN a.Nodes, rdE vH a.Hold] H163 := St.fin (hS165.front 4 rfl)
      have hq_ : doF a = _ := doF_ok h25 (by unfold turned; omega)
      have hd_ := doA_ok (a := a) (by rw [hq_])
      exact ⟨_, _, _, by rw [hq_], by rw [hd_]; exact (hS166.result (hS166.rdS 2 rfl)), by rw [hd_]; exact (hS166.result (hS166.rdS 1 rfl)), by rw [hd_]; exact (hS166.result (hS166.rdS 0 rfl))⟩
    have hhu := hA.hold u (by omega)
    refine wpF_skip ?_
    refine wpF_seq ?_
    refine wpF_block ?_
    refine wpF_seq ?_
    refine wpF_cut (fun f H => f 2 = PT g4 0 ∧ f 3 = PT g7 0 ∧ f 6 = PT g26 0 ∧ f 9 = PT g75 0 ∧ f 17 = I (nth a.Hold u) ∧ f 140 = vH ∧ f 141 = I ((a.Hold.length : Int)) ∧ f 142 = I ((u : Int)) ∧ H151 = H) ?_ ?_
    · refine wpF_region ?_
      refine wpL_q (U := NoB) rfl (q_indexRd (k := u) rfl Try.underlying24 el_Int_3_ArrC2 a152_140 a152_142 (hS151.rdl 12 rfl) (by omega) (by omega)) ?_
      refine wpL_q (U := NoB) rfl (q_loadInt (k := u) rfl rfl el_Int_3_ArrC2 (hS151.rdl 12 rfl) (by omega) (fun _ h => h)) ?_
      refine wpL_q (U := NoB) rfl (q_assign (v := I (nth a.Hold u)) rfl rfl) ?_
      exact ⟨a152_2, a152_3, a152_6, a152_9, rfl, a152_140, a152_141, a152_142, rfl⟩
    rintro f155 _ ⟨a155_2, a155_3, a155_6, a155_9, a155_17, a155_140, a155_141, a155_142, rfl⟩
    clear a152_140 a152_141 a152_142 a152_143 a152_2 a152_3 a152_6 a152_9
    have h6u := (hS151.rowl 3 rfl).in64 (k := (nth a.Hold u).toNat) (by omega)
    refine wpF_cut (fun f H => ∃ (v156o10 : Value), f 2 = PT g4 0 ∧ f 3 = PT g7 0 ∧ f 6 = PT g26 0 ∧ f 9 = PT g75 0 ∧ f 140 = vH ∧ f 141 = I ((a.Hold.length : Int)) ∧ f 142 = I ((u : Int)) ∧ St H0 NoB (fun b => S b ∧ b < H0.size) [blkE g26 (.cells #[vo, vn, v156o10] 26), rowE 3 v156o10 (kidS (turned a).To (a.Hold.take (u + 1)) : List Int), rowE 37 vn ((turnTo a a.Nodes.length).Nodes : List Node), rowE 3 vt ((turnTo a a.Nodes.length).To : List Int), blkE g75 (.cells #[vD, vN, vH, vn, vt] 57), rowE 43 vo (a.Decls.map declA : List Decl), blkE g15 (.cells #[I (((sortsF a)).1), I (((sortsF a)).2)] 28), blkE g7 (.cells #[I (0), I (0)] 28), blkE g4 (.cells #[(Value.slice none 0 0), (Value.slice none 0 0), (Value.slice none 0 0)] 26), blkE g1 (.cells #[vD, vN, vH] 26), rdE vD a.Decls, rdE vN a.Nodes, rdE vH a.Hold] H) ?_ ?_
    · refine wpF_drawn [none, none, none, none, none, none, none, none, none, none, some 0, none, some 1] [[], [], [], [], [], [], [], [], [], [], [], [], []] (fun l b => match l with | 0 => True | 1 => True | _ => False) (by kernel_rfl) (by kernel_rfl) ?_
      refine wpR_q 0 (by kernel_rfl) rfl (quietAt rfl rfl (q_fieldAddr rfl Try.underlying26 rfl Try.sizeOf24 a155_6)) ?_
      refine wpR_q 1 (by kernel_rfl) rfl (quietAt rfl rfl (q_loadBlk rfl rfl Try.isAgg24 (hS151.blk 1 rfl) rfl (labU_not [] rfl (List.forall_mem_nil _)))) ?_
      refine wpR_q 2 (by kernel_rfl) rfl (quietAt rfl rfl (q_move (v := PT g75 0) rfl a155_9)) ?_
      refine wpR_q 3 (by kernel_rfl) rfl (quietAt rfl rfl (q_nilCheck rfl rfl)) ?_
      refine wpR_q 4 (by kernel_rfl) rfl (quietAt rfl rfl (q_fieldAddr rfl Try.underlying57 rfl Try.sizeOf24 rfl)) ?_
      refine wpR_q 5 (by kernel_rfl) rfl (quietAt rfl rfl (q_loadBlk rfl rfl Try.isAgg24 (hS151.blk 4 rfl) rfl (labU_not [] rfl (List.forall_mem_nil _)))) ?_
      refine wpR_q 6 (by kernel_rfl) rfl (quietAt rfl rfl (q_move (v := I (nth a.Hold u)) rfl a155_17)) ?_
      refine wpR_q 7 (by kernel_rfl) rfl (quietAt rfl rfl (q_indexRd (k := (nth a.Hold u).toNat) rfl Try.underlying24 el_Int_3_ArrC2 rfl rfl (hS151.rowl 3 rfl) (by omega) (by omega))) ?_
      refine wpR_q 8 (by kernel_rfl) rfl (quietAt rfl rfl (q_loadInt (k := (nth a.Hold u).toNat) rfl rfl el_Int_3_ArrC2 (hS151.rowl 3 rfl) (by omega) (labU_sub [] rfl (List.forall_mem_nil _)))) ?_
      refine wpR_n [9] (by kernel_rfl) ?_
      refine List.forall_mem_cons.2 ⟨?_, List.forall_mem_nil _⟩
      refine exE rfl rfl ?_
      refine e_buildSlice (vs := [I (nth ((turnTo a a.Nodes.length).To) ((nth a.Hold u).toNat))]) (xs := ([nth ((turnTo a a.Nodes.length).To) ((nth a.Hold u).toNat)] : List Int)) rfl Try.underlying24 Try.zeroValue3 rfl Try.sizeOf3 (par1 (v0 := I (nth ((turnTo a a.Nodes.length).To) ((nth a.Hold u).toNat))) rfl) rfl hS151 (RdVs.cons (Rd.int.2 ⟨rfl, by first | assumption | (constructor <;> omega)⟩) (RdVs.nil)) (by decide) (by decide) (fun v156o9 H156o9 hS156o9 hxx hvv156o9 => ?_)
      replace hS156o9 : St H0 NoB (fun b => S b ∧ b < H0.size) [rowE 3 v156o9 ([nth ((turnTo a a.Nodes.length).To) ((nth a.Hold u).toNat)] : List Int), rowE 3 vh (kidS (turned a).To (a.Hold.take u) : List Int), blkE g26 (.cells #[vo, vn, vh] 26), rowE 37 vn ((turnTo a a.Nodes.length).Nodes : List Node), rowE 3 vt ((turnTo a a.Nodes.length).To : List Int), blkE g75 (.cells #[vD, vN, vH, vn, vt] 57), rowE 43 vo (a.Decls.map declA : List Decl), blkE g15 (.cells #[I (((sortsF a)).1), I (((sortsF a)).2)] 28), blkE g7 (.cells #[I (0), I (0)] 28), blkE g4 (.cells #[(Value.slice none 0 0), (Value.slice none 0 0), (Value.slice none 0 0)] 26), blkE g1 (.cells #[vD, vN, vH] 26), rdE vD a.Decls, rdE vN a.Nodes, rdE vH a.Hold] H156o9 := hS156o9
      refine ⟨Ext.mono hxx (fun _ h => h.elim), ?_⟩
      refine wpR_n [10] (by kernel_rfl) ?_
      refine List.forall_mem_cons.2 ⟨?_, List.forall_mem_nil _⟩
      have hS156o10 : St H0 NoB (fun b => S b ∧ b < H0.size) [rdE v156o9 ([nth ((turnTo a a.Nodes.length).To) ((nth a.Hold u).toNat)] : List Int), rowE 3 vh (kidS (turned a).To (a.Hold.take u) : List Int), blkE g26 (.cells #[vo, vn, vh] 26), rowE 37 vn ((turnTo a a.Nodes.length).Nodes : List Node), rowE 3 vt ((turnTo a a.Nodes.length).To : List Int), blkE g75 (.cells #[vD, vN, vH, vn, vt] 57), rowE 43 vo (a.Decls.map declA : List Decl), blkE g15 (.cells #[I (((sortsF a)).1), I (((sortsF a)).2)] 28), blkE g7 (.cells #[I (0), I (0)] 28), blkE g4 (.cells #[(Value.slice none 0 0), (Value.slice none 0 0), (Value.slice none 0 0)] 26), blkE g1 (.cells #[vD, vN, vH] 26), rdE vD a.Decls, rdE vN a.Nodes, rdE vH a.Hold] H156o9 := St.fin hS156o9
      have hS156o10x2 : St H0 NoB (fun b => S b ∧ b < H0.size) [rowE 3 vh (kidS (turned a).To (a.Hold.take u) : List Int), rdE v156o9 ([nth ((turnTo a a.Nodes.length).To) ((nth a.Hold u).toNat)] : List Int), blkE g26 (.cells #[vo, vn, vh] 26), rowE 37 vn ((turnTo a a.Nodes.length).Nodes : List Node), rowE 3 vt ((turnTo a a.Nodes.length).To : List Int), blkE g75 (.cells #[vD, vN, vH, vn, vt] 57), rowE 43 vo (a.Decls.map declA : List Decl), blkE g15 (.cells #[I (((sortsF a)).1), I (((sortsF a)).2)] 28), blkE g7 (.cells #[I (0), I (0)] 28), blkE g4 (.cells #[(Value.slice none 0 0), (Value.slice none 0 0), (Value.slice none 0 0)] 26), blkE g1 (.cells #[vD, vN, vH] 26), rdE vD a.Decls, rdE vN a.Nodes, rdE vH a.Hold] H156o9 := (hS156o10.front 1 rfl)
      refine exE rfl rfl ?_
      refine e_append rfl Try.underlying24 em_Int_3_ArrC2 rfl rfl hS156o10x2 (hS156o10x2.rdS 1 rfl) (fun _ h => h) (by have hb : GoT.bytes Int = 8 := rfl; rw [hb]; simp only [List.length_append, kidS_len, List.length_take, List.length_cons, List.length_nil]; omega) (by decide) (fun v156o10 H156o10 hS156o10x3 hxx => ?_)
      replace hS156o10x3 : St H0 NoB (fun b => S b ∧ b < H0.size) [rowE 3 v156o10 ((kidS (turned a).To (a.Hold.take u)) ++ ([nth ((turnTo a a.Nodes.length).To) ((nth a.Hold u).toNat)]) : List Int), rdE v156o9 ([nth ((turnTo a a.Nodes.length).To) ((nth a.Hold u).toNat)] : List Int), blkE g26 (.cells #[vo, vn, vh] 26), rowE 37 vn ((turnTo a a.Nodes.length).Nodes : List Node), rowE 3 vt ((turnTo a a.Nodes.length).To : List Int), blkE g75 (.cells #[vD, vN, vH, vn, vt] 57), rowE 43 vo (a.Decls.map declA : List Decl), blkE g15 (.cells #[I (((sortsF a)).1), I (((sortsF a)).2)] 28), blkE g7 (.cells #[I (0), I (0)] 28), blkE g4 (.cells #[(Value.slice none 0 0), (Value.slice none 0 0), (Value.slice none 0 0)] 26), blkE g1 (.cells #[vD, vN, vH] 26), rdE vD a.Decls, rdE vN a.Nodes, rdE vH a.Hold] H156o10 := hS156o10x3
      have hS156o10x4 : St H0 NoB (fun b => S b ∧ b < H0.size) [rowE 3 v156o10 (kidS (turned a).To (a.Hold.take (u + 1)) : List Int), rdE v156o9 ([nth ((turnTo a a.Nodes.length).To) ((nth a.Hold u).toNat)] : List Int), blkE g26 (.cells #[vo, vn, vh] 26), rowE 37 vn ((turnTo a a.Nodes.length).Nodes : List Node), rowE 3 vt ((turnTo a a.Nodes.length).To : List Int), blkE g75 (.cells #[vD, vN, vH, vn, vt] 57), rowE 43 vo (a.Decls.map declA : List Decl), blkE g15 (.cells #[I (((sortsF a)).1), I (((sortsF a)).2)] 28), blkE g7 (.cells #[I (0), I (0)] 28), blkE g4 (.cells #[(Value.slice none 0 0), (Value.slice none 0 0), (Value.slice none 0 0)] 26), blkE g1 (.cells #[vD, vN, vH] 26), rdE vD a.Decls, rdE vN a.Nodes, rdE vH a.Hold] H156o10 := by rw [show (kidS (turned a).To (a.Hold.take (u + 1))) = ((kidS (turned a).To (a.Hold.take u)) ++ ([nth ((turnTo a a.Nodes.length).To) ((nth a.Hold u).toNat)])) from (kidS_next (by omega)).symm]; exact hS156o10x3
      refine ⟨Ext.mono hxx (labS_of 0 rfl (fun _ _ => trivial)), ?_⟩
      refine wpR_q 11 (by kernel_rfl) rfl (quietAt rfl rfl (q_fieldAddr rfl Try.underlying26 rfl Try.sizeOf24 a155_6)) ?_
      refine wpR_n [12] (by kernel_rfl) ?_
      refine List.forall_mem_cons.2 ⟨?_, List.forall_mem_nil _⟩
      refine exE rfl rfl ?_
      refine e_storeBlk (v := v156o10) rfl rfl rfl (oneCell_rdL (hS156o10x4.rowl 0 rfl)) Try.sizeOf24 (by show _ < 3; decide) (hS156o10x4.front 2 rfl) (fun H156o12 hS156o12 hxx => ?_)
      replace hS156o12 : St H0 NoB (fun b => S b ∧ b < H0.size) [blkE g26 (.cells #[vo, vn, v156o10] 26), rowE 3 v156o10 (kidS (turned a).To (a.Hold.take (u + 1)) : List Int), rdE v156o9 ([nth ((turnTo a a.Nodes.length).To) ((nth a.Hold u).toNat)] : List Int), rowE 37 vn ((turnTo a a.Nodes.length).Nodes : List Node), rowE 3 vt ((turnTo a a.Nodes.length).To : List Int), blkE g75 (.cells #[vD, vN, vH, vn, vt] 57), rowE 43 vo (a.Decls.map declA : List Decl), blkE g15 (.cells #[I (((sortsF a)).1), I (((sortsF a)).2)] 28), blkE g7 (.cells #[I (0), I (0)] 28), blkE g4 (.cells #[(Value.slice none 0 0), (Value.slice none 0 0), (Value.slice none 0 0)] 26), blkE g1 (.cells #[vD, vN, vH] 26), rdE vD a.Decls, rdE vN a.Nodes, rdE vH a.Hold] H156o12 := hS156o12
      refine ⟨Ext.mono hxx (labS_of 1 rfl (fun _ _ => trivial)), ?_⟩
      refine wpR_end (by kernel_rfl) ?_
      exact ⟨v156o10, a155_2, a155_3, a155_6, a155_9, a155_140, a155_141, a155_142, (hS156o12.drop (sk (sk (sn (sk (sk (sk (sk (sk (sk (sk (sk (sk (sk (sk (List.Sublist.slnil))))))))))))))))⟩
    rintro f157 H157 ⟨v156o10, a157_2, a157_3, a157_6, a157_9, a157_140, a157_141, a157_142, hS157⟩
    clear a155_140 a155_141 a155_142 a155_17 a155_2 a155_3 a155_6 a155_9
    refine wpF_cut (fun f H => f 2 = PT g4 0 ∧ f 3 = PT g7 0 ∧ f 6 = PT g26 0 ∧ f 9 = PT g75 0 ∧ f 140 = vH ∧ f 141 = I ((a.Hold.length : Int)) ∧ f 142 = I ((u : Int) + 1) ∧ H157 = H) ?_ ?_
    · refine wpF_region ?_
      refine wpL_q (U := NoB) rfl (q_add rfl a157_142 rfl (by constructor <;> omega)) ?_
      refine wpL_q (U := NoB) rfl (q_move (v := I ((u : Int) + 1)) rfl rfl) ?_
      exact ⟨a157_2, a157_3, a157_6, a157_9, a157_140, a157_141, rfl, rfl⟩
    rintro f158 _ ⟨a158_2, a158_3, a158_6, a158_9, a158_140, a158_141, a158_142, rfl⟩
    clear a157_140 a157_141 a157_142 a157_2 a157_3 a157_6 a157_9
    refine ⟨_, ?_, u + 1, v156o10, rfl, (by omega), a158_2, a158_3, a158_6, a158_9, a158_140, a158_141, (Eq.trans a158_142 (congrArg I (by omega))), (St.drop (show St H0 NoB (fun b => S b ∧ b < H0.size) [rowE 3 v156o10 (kidS (turned a).To (a.Hold.take (u + 1)) : List Int), blkE g26 (.cells #[vo, vn, v156o10] 26), rowE 37 vn ((turnTo a a.Nodes.length).Nodes : List Node), rowE 3 vt ((turnTo a a.Nodes.length).To : List Int), blkE g75 (.cells #[vD, vN, vH, vn, vt] 57), rowE 43 vo (a.Decls.map declA : List Decl), blkE g15 (.cells #[I (((sortsF a)).1), I (((sortsF a)).2)] 28), blkE g7 (.cells #[I (0), I (0)] 28), blkE g4 (.cells #[(Value.slice none 0 0), (Value.slice none 0 0), (Value.slice none 0 0)] 26), blkE g1 (.cells #[vD, vN, vH] 26), rdE vD a.Decls, rdE vN a.Nodes, rdE vH a.Hold] H157 from (hS157.front 1 rfl)) (sk (sk (sk (sk (sk (sk (sk (sk (sk (sk (sk (sk (sk (List.Sublist.slnil)))))))))))))))⟩
    omega
  have hkf := (hA.nodes k (by omega)).few
  have htl := turnTo_to (a := a) k
  have hsl : (sorts a).length = a.Nodes.length := sortsTo_len _
  refine wpF_skip ?_
  refine wpF_seq ?_
  refine wpF_block ?_
  refine wpF_seq ?_
  refine wpF_cut (fun f H => ∃ (u85n1 : Value), ∃ (g87 : Nat), (In64 (nth a.Nodes k).Op) ∧ (In64 (nth a.Nodes k).N) ∧ (In64 (nth a.Nodes k).D) ∧ ((nth a.Nodes k).Name.size ≤ maxLen) ∧ f 1 = PT g1 0 ∧ f 2 = PT g4 0 ∧ f 3 = PT g7 0 ∧ f 4 = r11 ∧ f 6 = PT g26 0 ∧ f 9 = PT g75 0 ∧ f 10 = I ((k : Int)) ∧ f 11 = PT g87 0 ∧ f 57 = vN ∧ f 58 = I ((a.Nodes.length : Int)) ∧ f 59 = I ((k : Int)) ∧ St H0 NoB (fun b => S b ∧ b < H0.size) [blkE g87 (.cells #[I ((nth a.Nodes k).Op), u85n1, I ((nth a.Nodes k).N), I ((nth a.Nodes k).D), SB ((nth a.Nodes k).Name)] 37), rdE u85n1 ((nth a.Nodes k).Kids), rowE 37 vn ((turnTo a k).Nodes : List Node), rowE 3 vt ((turnTo a k).To : List Int), blkE g75 (.cells #[vD, vN, vH, vn, vt] 57), rowE 43 vo (a.Decls.map declA : List Decl), blkE g26 (.cells #[vo, (Value.slice none 0 0), (Value.slice none 0 0)] 26), blkE g15 (.cells #[I (((sortsF a)).1), I (((sortsF a)).2)] 28), rdE r11 (sorts a), blkE g7 (.cells #[I (0), I (0)] 28), blkE g4 (.cells #[(Value.slice none 0 0), (Value.slice none 0 0), (Value.slice none 0 0)] 26), blkE g1 (.cells #[vD, vN, vH] 26), rdE vD a.Decls, rdE vN a.Nodes, rdE vH a.Hold] H) ?_ ?_
  · refine wpF_region ?_
    refine wpL_q (U := NoB) rfl (q_move (v := I ((k : Int))) rfl a83_59) ?_
    refine wpL_q (U := NoB) rfl (q_indexRd (k := k) rfl Try.underlying23 el_Node_37_ArrC2 a83_57 a83_59 (hS82.rdl 11 rfl) (by omega) (by omega)) ?_
    obtain ⟨u85, huu85, hlu85⟩ := (Rd.list.1 (hS82.rdS 11 rfl)).elem k (by omega)
    obtain ⟨u85n1, rfl, hu850, hu851, hu852, hu853, hu854⟩ := Rd.node.1 huu85
    have hS86 : St H0 NoB (fun b => S b ∧ b < H0.size) [rdE u85n1 ((nth a.Nodes k).Kids), rowE 37 vn ((turnTo a k).Nodes : List Node), rowE 3 vt ((turnTo a k).To : List Int), blkE g75 (.cells #[vD, vN, vH, vn, vt] 57), rowE 43 vo (a.Decls.map declA : List Decl), blkE g26 (.cells #[vo, (Value.slice none 0 0), (Value.slice none 0 0)] 26), blkE g15 (.cells #[I (((sortsF a)).1), I (((sortsF a)).2)] 28), rdE r11 (sorts a), blkE g7 (.cells #[I (0), I (0)] 28), blkE g4 (.cells #[(Value.slice none 0 0), (Value.slice none 0 0), (Value.slice none 0 0)] 26), blkE g1 (.cells #[vD, vN, vH] 26), rdE vD a.Decls, rdE vN a.Nodes, rdE vH a.Hold] H82 := hS82.rd hu851
    refine wpL_q (U := NoB) rfl (q_loadE rfl rfl (hlu85 Try.prog 37 _ el_Node_37_ArrC2 (fun _ h => False.elim h))) ?_
    refine wpL_o rfl ?_
    refine e_alloc rfl Try.zeroValue37 hS86 (fun g87 H88 hS89 hxx => ?_)
    replace hS89 : St H0 NoB (fun b => S b ∧ b < H0.size) [blkE g87 (.cells #[I (0), (Value.slice none 0 0), I (0), I (0), SB (ByteArray.mk #[])] 37), rdE u85n1 ((nth a.Nodes k).Kids), rowE 37 vn ((turnTo a k).Nodes : List Node), rowE 3 vt ((turnTo a k).To : List Int), blkE g75 (.cells #[vD, vN, vH, vn, vt] 57), rowE 43 vo (a.Decls.map declA : List Decl), blkE g26 (.cells #[vo, (Value.slice none 0 0), (Value.slice none 0 0)] 26), blkE g15 (.cells #[I (((sortsF a)).1), I (((sortsF a)).2)] 28), rdE r11 (sorts a), blkE g7 (.cells #[I (0), I (0)] 28), blkE g4 (.cells #[(Value.slice none 0 0), (Value.slice none 0 0), (Value.slice none 0 0)] 26), blkE g1 (.cells #[vD, vN, vH] 26), rdE vD a.Decls, rdE vN a.Nodes, rdE vH a.Hold] H88 := hS89
    refine wpL_q (U := NoB) rfl (q_assign (v := I ((k : Int))) rfl rfl) ?_
    refine wpL_o rfl ?_
    refine e_storeBlkA (cs' := #[I ((nth a.Nodes k).Op), u85n1, I ((nth a.Nodes k).N), I ((nth a.Nodes k).D), SB ((nth a.Nodes k).Name)]) rfl rfl rfl Try.sizeOf37 rfl rfl (List.forall_mem_cons.2 ⟨rfl, List.forall_mem_cons.2 ⟨(oneCell_rdL (hS89.rdl 1 rfl)), List.forall_mem_cons.2 ⟨rfl, List.forall_mem_cons.2 ⟨rfl, List.forall_mem_cons.2 ⟨rfl, List.forall_mem_nil _⟩⟩⟩⟩⟩) hS89 (fun H90 hS91 hxx => ?_)
    replace hS91 : St H0 NoB (fun b => S b ∧ b < H0.size) [blkE g87 (.cells #[I ((nth a.Nodes k).Op), u85n1, I ((nth a.Nodes k).N), I ((nth a.Nodes k).D), SB ((nth a.Nodes k).Name)] 37), rdE u85n1 ((nth a.Nodes k).Kids), rowE 37 vn ((turnTo a k).Nodes : List Node), rowE 3 vt ((turnTo a k).To : List Int), blkE g75 (.cells #[vD, vN, vH, vn, vt] 57), rowE 43 vo (a.Decls.map declA : List Decl), blkE g26 (.cells #[vo, (Value.slice none 0 0), (Value.slice none 0 0)] 26), blkE g15 (.cells #[I (((sortsF a)).1), I (((sortsF a)).2)] 28), rdE r11 (sorts a), blkE g7 (.cells #[I (0), I (0)] 28), blkE g4 (.cells #[(Value.slice none 0 0), (Value.slice none 0 0), (Value.slice none 0 0)] 26), blkE g1 (.cells #[vD, vN, vH] 26), rdE vD a.Decls, rdE vN a.Nodes, rdE vH a.Hold] H90 := hS91
    exact ⟨u85n1, g87, hu850, hu852, hu853, hu854, a83_1, a83_2, a83_3, a83_4, a83_6, a83_9, rfl, rfl, a83_57, a83_58, a83_59, hS91⟩
  rintro f92 H92 ⟨u85n1, g87, hu850, hu852, hu853, hu854, a92_1, a92_2, a92_3, a92_4, a92_6, a92_9, a92_10, a92_11, a92_57, a92_58, a92_59, hS92⟩
  clear a83_1 a83_2 a83_3 a83_4 a83_57 a83_58 a83_59 a83_6 a83_60 a83_9
  refine wpF_seq ?_
  refine wpF_cut (fun f H => f 1 = PT g1 0 ∧ f 2 = PT g4 0 ∧ f 3 = PT g7 0 ∧ f 4 = r11 ∧ f 6 = PT g26 0 ∧ f 9 = PT g75 0 ∧ f 10 = I ((k : Int)) ∧ f 11 = PT g87 0 ∧ f 12 = I (0) ∧ f 57 = vN ∧ f 58 = I ((a.Nodes.length : Int)) ∧ f 59 = I ((k : Int)) ∧ H92 = H) ?_ ?_
  · refine wpF_region ?_
    refine wpL_q (U := NoB) rfl (q_assign (v := I (0)) rfl rfl) ?_
    exact ⟨a92_1, a92_2, a92_3, a92_4, a92_6, a92_9, a92_10, a92_11, rfl, a92_57, a92_58, a92_59, rfl⟩
  rintro f93 _ ⟨a93_1, a93_2, a93_3, a93_4, a93_6, a93_9, a93_10, a93_11, a93_12, a93_57, a93_58, a93_59, rfl⟩
  clear a92_1 a92_10 a92_11 a92_2 a92_3 a92_4 a92_57 a92_58 a92_59 a92_6 a92_9
  refine wpF_seq ?_
  refine wpF_cut (fun f H => ∃ (vN2 : Value), ∃ (kk : Int), ((turnTo a (k + 1)).To = (turnTo a k).To ++ [kk]) ∧ (In64 kk) ∧ f 1 = PT g1 0 ∧ f 2 = PT g4 0 ∧ f 3 = PT g7 0 ∧ f 4 = r11 ∧ f 6 = PT g26 0 ∧ f 9 = PT g75 0 ∧ f 12 = I (kk) ∧ f 57 = vN ∧ f 58 = I ((a.Nodes.length : Int)) ∧ f 59 = I ((k : Int)) ∧ St H0 NoB (fun b => S b ∧ b < H0.size) [rowE 37 vN2 ((turnTo a (k + 1)).Nodes : List Node), blkE g75 (.cells #[vD, vN, vH, vN2, vt] 57), rowE 3 vt ((turnTo a k).To : List Int), rowE 43 vo (a.Decls.map declA : List Decl), blkE g26 (.cells #[vo, (Value.slice none 0 0), (Value.slice none 0 0)] 26), blkE g15 (.cells #[I (((sortsF a)).1), I (((sortsF a)).2)] 28), rdE r11 (sorts a), blkE g7 (.cells #[I (0), I (0)] 28), blkE g4 (.cells #[(Value.slice none 0 0), (Value.slice none 0 0), (Value.slice none 0 0)] 26), blkE g1 (.cells #[vD, vN, vH] 26), rdE vD a.Decls, rdE vN a.Nodes, rdE vH a.Hold] H) ?_ ?_
  · refine wpF_block ?_
    refine wpF_seq ?_
    refine wpF_cut (fun f H => f 1 = PT g1 0 ∧ f 2 = PT g4 0 ∧ f 3 = PT g7 0 ∧ f 4 = r11 ∧ f 6 = PT g26 0 ∧ f 9 = PT g75 0 ∧ f 11 = PT g87 0 ∧ f 12 = I (0) ∧ f 57 = vN ∧ f 58 = I ((a.Nodes.length : Int)) ∧ f 59 = I ((k : Int)) ∧ f 89 = B (decide ((nth (sorts a) k) = 5)) ∧ H92 = H) ?_ ?_
    · refine wpF_region ?_
      refine wpL_q (U := NoB) rfl (q_move (v := r11) rfl a93_4) ?_
      refine wpL_q (U := NoB) rfl (q_move (v := I ((k : Int))) rfl a93_10) ?_
      refine wpL_q (U := NoB) rfl (q_indexRd (k := k) rfl Try.underlying24 el_Int_3_ArrC2 rfl rfl (hS92.rdl 8 rfl) (by omega) (by omega)) ?_
      refine wpL_q (U := NoB) rfl (q_loadInt (k := k) rfl rfl el_Int_3_ArrC2 (hS92.rdl 8 rfl) (by omega) (fun _ h => h)) ?_
      refine wpL_q (U := NoB) rfl (q_eql rfl rfl rfl) ?_
      refine wpL_q (U := NoB) rfl (q_assign (v := B (decide ((nth (sorts a) k) = 5))) rfl rfl) ?_
      exact ⟨a93_1, a93_2, a93_3, a93_4, a93_6, a93_9, a93_11, a93_12, a93_57, a93_58, a93_59, rfl, rfl⟩
    rintro f95 _ ⟨a95_1, a95_2, a95_3, a95_4, a95_6, a95_9, a95_11, a95_12, a95_57, a95_58, a95_59, a95_89, rfl⟩
    clear a93_1 a93_10 a93_11 a93_12 a93_2 a93_3 a93_4 a93_57 a93_58 a93_59 a93_6 a93_9
    refine wpF_condP a95_89 (fun h89 => ?t124) (fun h89 => ?e124)
    case t124 =>
      refine wpF_skip ?_
      exact ⟨vn, (0 : Int), (turn_arr h89).2, (by constructor <;> omega), a95_1, a95_2, a95_3, a95_4, a95_6, a95_9, (Eq.trans a95_12 (congrArg I (by omega))), a95_57, a95_58, a95_59, (show St H0 NoB (fun b => S b ∧ b < H0.size) [rowE 37 vn ((turnTo a (k + 1)).Nodes : List Node), blkE g75 (.cells #[vD, vN, vH, vn, vt] 57), rowE 3 vt ((turnTo a k).To : List Int), rowE 43 vo (a.Decls.map declA : List Decl), blkE g26 (.cells #[vo, (Value.slice none 0 0), (Value.slice none 0 0)] 26), blkE g15 (.cells #[I (((sortsF a)).1), I (((sortsF a)).2)] 28), rdE r11 (sorts a), blkE g7 (.cells #[I (0), I (0)] 28), blkE g4 (.cells #[(Value.slice none 0 0), (Value.slice none 0 0), (Value.slice none 0 0)] 26), blkE g1 (.cells #[vD, vN, vH] 26), rdE vD a.Decls, rdE vN a.Nodes, rdE vH a.Hold] H92 from (by have h__ := (St.drop (show St H0 NoB (fun b => S b ∧ b < H0.size) [rowE 37 vn ((turnTo a k).Nodes : List Node), blkE g75 (.cells #[vD, vN, vH, vn, vt] 57), blkE g87 (.cells #[I ((nth a.Nodes k).Op), u85n1, I ((nth a.Nodes k).N), I ((nth a.Nodes k).D), SB ((nth a.Nodes k).Name)] 37), rdE u85n1 ((nth a.Nodes k).Kids), rowE 3 vt ((turnTo a k).To : List Int), rowE 43 vo (a.Decls.map declA : List Decl), blkE g26 (.cells #[vo, (Value.slice none 0 0), (Value.slice none 0 0)] 26), blkE g15 (.cells #[I (((sortsF a)).1), I (((sortsF a)).2)] 28), rdE r11 (sorts a), blkE g7 (.cells #[I (0), I (0)] 28), blkE g4 (.cells #[(Value.slice none 0 0), (Value.slice none 0 0), (Value.slice none 0 0)] 26), blkE g1 (.cells #[vD, vN, vH] 26), rdE vD a.Decls, rdE vN a.Nodes, rdE vH a.Hold] H92 from ((hS92.front 4 rfl).front 3 rfl)) (sk (sk (sn (sn (sk (sk (sk (sk (sk (sk (sk (sk (sk (sk (sk (List.Sublist.slnil))))))))))))))))); rw [← (turn_arr h89).1] at h__; exact h__))⟩
    refine wpF_seq ?_
    refine wpF_cut (fun f H => f 1 = PT g1 0 ∧ f 2 = PT g4 0 ∧ f 3 = PT g7 0 ∧ f 4 = r11 ∧ f 6 = PT g26 0 ∧ f 9 = PT g75 0 ∧ f 11 = PT g87 0 ∧ f 57 = vN ∧ f 58 = I ((a.Nodes.length : Int)) ∧ f 59 = I ((k : Int)) ∧ f 95 = B (decide (((nth a.Nodes k).Op) = 24)) ∧ H92 = H) ?_ ?_
    · refine wpF_region ?_
      refine wpL_q (U := NoB) rfl (q_fieldAddr rfl Try.underlying37 rfl Try.sizeOf3 a95_11) ?_
      refine wpL_q (U := NoB) rfl (q_loadBlk rfl rfl Try.isAgg3 (hS92.blk 0 rfl) rfl (fun h => h)) ?_
      refine wpL_q (U := NoB) rfl (q_eql rfl rfl rfl) ?_
      refine wpL_q (U := NoB) rfl (q_assign (v := B (decide (((nth a.Nodes k).Op) = 24))) rfl rfl) ?_
      exact ⟨a95_1, a95_2, a95_3, a95_4, a95_6, a95_9, a95_11, a95_57, a95_58, a95_59, rfl, rfl⟩
    rintro f97 _ ⟨a97_1, a97_2, a97_3, a97_4, a97_6, a97_9, a97_11, a97_57, a97_58, a97_59, a97_95, rfl⟩
    clear a95_1 a95_11 a95_12 a95_2 a95_3 a95_4 a95_57 a95_58 a95_59 a95_6 a95_89 a95_9
    refine wpF_condP a97_95 (fun h95 => ?t123) (fun h95 => ?e123)
    case t123 =>
      have hgk := got_kids hA (k := k) (by omega) h95
      have hg0 := kid_lt hA (k := k) (by omega) (j := 0) (by omega)
      have hg1 := kid_lt hA (k := k) (by omega) (j := 1) (by omega)
      have hgc := got_chain hA (k := k) (m := k) (by omega) h95 (Nat.le_refl _)
      unfold kidN at hg0 hg1 hgc
      have hgl := getL_len (a := a) (to := (turnTo a k).To) (x := nth (turnTo a k).To (nth (nth a.Nodes k).Kids 1).toNat) (N := (turnTo a k).Nodes) (nth (nth a.Nodes k).Kids 0).toNat
      have h6g := (hS92.rowl 3 rfl).in64 (k := (nth (nth a.Nodes k).Kids 1).toNat) (by omega)
      refine wpF_cut (fun f H => ∃ (r99o15 : Value), f 1 = PT g1 0 ∧ f 2 = PT g4 0 ∧ f 3 = PT g7 0 ∧ f 4 = r11 ∧ f 6 = PT g26 0 ∧ f 9 = PT g75 0 ∧ f 12 = I (((getL a ((turnTo a k).To) (nth ((turnTo a k).To) ((nth ((nth a.Nodes k).Kids) 1).toNat)) ((turnTo a k).Nodes) (nth ((nth a.Nodes k).Kids) 0).toNat).length : Int) - 1) ∧ f 57 = vN ∧ f 58 = I ((a.Nodes.length : Int)) ∧ f 59 = I ((k : Int)) ∧ St H0 NoB (fun b => S b ∧ b < H0.size) [rowE 37 r99o15 (getL a ((turnTo a k).To) (nth ((turnTo a k).To) ((nth ((nth a.Nodes k).Kids) 1).toNat)) ((turnTo a k).Nodes) (nth ((nth a.Nodes k).Kids) 0).toNat : List Node), rowE 3 vt ((turnTo a k).To : List Int), blkE g75 (.cells #[vD, vN, vH, r99o15, vt] 57), blkE g87 (.cells #[I ((nth a.Nodes k).Op), u85n1, I ((nth a.Nodes k).N), I ((nth a.Nodes k).D), SB ((nth a.Nodes k).Name)] 37), rdE u85n1 ((nth a.Nodes k).Kids), rowE 43 vo (a.Decls.map declA : List Decl), blkE g26 (.cells #[vo, (Value.slice none 0 0), (Value.slice none 0 0)] 26), blkE g15 (.cells #[I (((sortsF a)).1), I (((sortsF a)).2)] 28), rdE r11 (sorts a), blkE g7 (.cells #[I (0), I (0)] 28), blkE g4 (.cells #[(Value.slice none 0 0), (Value.slice none 0 0), (Value.slice none 0 0)] 26), blkE g1 (.cells #[vD, vN, vH] 26), rdE vD a.Decls, rdE vN a.Nodes, rdE vH a.Hold] H) ?_ ?_
      · refine wpF_drawn [none, none, none, none, none, none, none, none, none, none, none, none, none, none, none, some 0, none] [[], [], [], [], [], [], [], [], [], [], [], [], [], [], [], [], []] (fun l b => match l with | 0 => True | _ => False) (by kernel_rfl) (by kernel_rfl) ?_
        refine wpR_q 0 (by kernel_rfl) rfl (quietAt rfl rfl (q_move (v := PT g75 0) rfl a97_9)) ?_
        refine wpR_q 1 (by kernel_rfl) rfl (quietAt rfl rfl (q_fieldAddr rfl Try.underlying37 rfl Try.sizeOf24 a97_11)) ?_
        refine wpR_q 2 (by kernel_rfl) rfl (quietAt rfl rfl (q_loadBlk rfl rfl Try.isAgg24 (hS92.blk 0 rfl) rfl (labU_not [] rfl (List.forall_mem_nil _)))) ?_
        refine wpR_q 3 (by kernel_rfl) rfl (quietAt rfl rfl (q_indexRd (k := 0) rfl Try.underlying24 el_Int_3_ArrC2 rfl rfl (hS92.rdl 1 rfl) (by omega) (by omega))) ?_
        refine wpR_q 4 (by kernel_rfl) rfl (quietAt rfl rfl (q_loadInt (k := 0) rfl rfl el_Int_3_ArrC2 (hS92.rdl 1 rfl) (by omega) (labU_sub [] rfl (List.forall_mem_nil _)))) ?_
        refine wpR_q 5 (by kernel_rfl) rfl (quietAt rfl rfl (q_move (v := PT g75 0) rfl a97_9)) ?_
        refine wpR_q 6 (by kernel_rfl) rfl (quietAt rfl rfl (q_nilCheck rfl rfl)) ?_
        refine wpR_q 7 (by kernel_rfl) rfl (quietAt rfl rfl (q_fieldAddr rfl Try.underlying57 rfl Try.sizeOf24 rfl)) ?_
        refine wpR_q 8 (by kernel_rfl) rfl (quietAt rfl rfl (q_loadBlk rfl rfl Try.isAgg24 (hS92.blk 4 rfl) rfl (labU_not [] rfl (List.forall_mem_nil _)))) ?_
        refine wpR_q 9 (by kernel_rfl) rfl (quietAt rfl rfl (q_fieldAddr rfl Try.underlying37 rfl Try.sizeOf24 a97_11)) ?_
        refine wpR_q 10 (by kernel_rfl) rfl (quietAt rfl rfl (q_loadBlk rfl rfl Try.isAgg24 (hS92.blk 0 rfl) rfl (labU_not [] rfl (List.forall_mem_nil _)))) ?_
        refine wpR_q 11 (by kernel_rfl) rfl (quietAt rfl rfl (q_indexRd (k := 1) rfl Try.underlying24 el_Int_3_ArrC2 rfl rfl (hS92.rdl 1 rfl) (by omega) (by omega))) ?_
        refine wpR_q 12 (by kernel_rfl) rfl (quietAt rfl rfl (q_loadInt (k := 1) rfl rfl el_Int_3_ArrC2 (hS92.rdl 1 rfl) (by omega) (labU_sub [] rfl (List.forall_mem_nil _)))) ?_
        refine wpR_q 13 (by kernel_rfl) rfl (quietAt rfl rfl (q_indexRd (k := (nth ((nth a.Nodes k).Kids) 1).toNat) rfl Try.underlying24 el_Int_3_ArrC2 rfl rfl (hS92.rowl 3 rfl) (by omega) (by omega))) ?_
        refine wpR_q 14 (by kernel_rfl) rfl (quietAt rfl rfl (q_loadInt (k := (nth ((nth a.Nodes k).Kids) 1).toNat) rfl rfl el_Int_3_ArrC2 (hS92.rowl 3 rfl) (by omega) (labU_sub [] rfl (List.forall_mem_nil _)))) ?_
        refine wpR_n [15] (by kernel_rfl) ?_
        refine List.forall_mem_cons.2 ⟨?_, List.forall_mem_nil _⟩
        have hS99o15 : St H0 NoB (fun b => S b ∧ b < H0.size) [rowE 37 vn ((turnTo a k).Nodes : List Node), rowE 3 vt ((turnTo a k).To : List Int), blkE g75 (.cells #[vD, vN, vH, vn, vt] 57), blkE g87 (.cells #[I ((nth a.Nodes k).Op), u85n1, I ((nth a.Nodes k).N), I ((nth a.Nodes k).D), SB ((nth a.Nodes k).Name)] 37), rdE u85n1 ((nth a.Nodes k).Kids), rowE 43 vo (a.Decls.map declA : List Decl), blkE g26 (.cells #[vo, (Value.slice none 0 0), (Value.slice none 0 0)] 26), blkE g15 (.cells #[I (((sortsF a)).1), I (((sortsF a)).2)] 28), rdE r11 (sorts a), blkE g7 (.cells #[I (0), I (0)] 28), blkE g4 (.cells #[(Value.slice none 0 0), (Value.slice none 0 0), (Value.slice none 0 0)] 26), blkE g1 (.cells #[vD, vN, vH] 26), rdE vD a.Decls, rdE vN a.Nodes, rdE vH a.Hold] H92 := (St.drop (show St H0 NoB (fun b => S b ∧ b < H0.size) [rowE 37 vn ((turnTo a k).Nodes : List Node), rowE 3 vt ((turnTo a k).To : List Int), blkE g75 (.cells #[vD, vN, vH, vn, vt] 57), blkE g87 (.cells #[I ((nth a.Nodes k).Op), u85n1, I ((nth a.Nodes k).N), I ((nth a.Nodes k).D), SB ((nth a.Nodes k).Name)] 37), rdE u85n1 ((nth a.Nodes k).Kids), rowE 43 vo (a.Decls.map declA : List Decl), blkE g26 (.cells #[vo, (Value.slice none 0 0), (Value.slice none 0 0)] 26), blkE g15 (.cells #[I (((sortsF a)).1), I (((sortsF a)).2)] 28), rdE r11 (sorts a), blkE g7 (.cells #[I (0), I (0)] 28), blkE g4 (.cells #[(Value.slice none 0 0), (Value.slice none 0 0), (Value.slice none 0 0)] 26), blkE g1 (.cells #[vD, vN, vH] 26), rdE vD a.Decls, rdE vN a.Nodes, rdE vH a.Hold] H92 from (((hS92.front 4 rfl).front 4 rfl).front 4 rfl)) (sk (sk (sk (sk (sk (sk (sk (sk (sk (sk (sk (sk (sk (sk (sk (List.Sublist.slnil)))))))))))))))))
        refine exE rfl rfl ?_
        refine e_call rfl Try.call18 (arr3 (v0 := PT g75 0) (v1 := I (nth ((nth a.Nodes k).Kids) 0)) (v2 := I (nth ((turnTo a k).To) ((nth ((nth a.Nodes k).Kids) 1).toNat))) rfl rfl rfl) (read_M _ _ g75 vD vN vH vn vt a ((turnTo a k).Nodes) ((turnTo a k).To) (nth ((nth a.Nodes k).Kids) 0) (nth ((turnTo a k).To) ((nth ((nth a.Nodes k).Kids) 1).toNat)) (St.give (A := [rowE 37 vn ((turnTo a k).Nodes : List Node), rowE 3 vt ((turnTo a k).To : List Int), blkE g75 (.cells #[vD, vN, vH, vn, vt] 57)]) (L := [blkE g87 (.cells #[I ((nth a.Nodes k).Op), u85n1, I ((nth a.Nodes k).N), I ((nth a.Nodes k).D), SB ((nth a.Nodes k).Name)] 37), rdE u85n1 ((nth a.Nodes k).Kids), rowE 43 vo (a.Decls.map declA : List Decl), blkE g26 (.cells #[vo, (Value.slice none 0 0), (Value.slice none 0 0)] 26), blkE g15 (.cells #[I (((sortsF a)).1), I (((sortsF a)).2)] 28), rdE r11 (sorts a), blkE g7 (.cells #[I (0), I (0)] 28), blkE g4 (.cells #[(Value.slice none 0 0), (Value.slice none 0 0), (Value.slice none 0 0)] 26), blkE g1 (.cells #[vD, vN, vH] 26), rdE vD a.Decls, rdE vN a.Nodes, rdE vH a.Hold]) hS99o15) (hS99o15.rdS 13 rfl) hg0.1 (by rw [htl]; exact hgc) h6g (by omega) (by omega) rfl) ?_
        rintro _ H99o15 ⟨hxx, r99o15, rfl, hgo⟩
        have hS99o15x2 : St H0 NoB (fun b => S b ∧ b < H0.size) [rowE 37 r99o15 (getL a ((turnTo a k).To) (nth ((turnTo a k).To) ((nth ((nth a.Nodes k).Kids) 1).toNat)) ((turnTo a k).Nodes) (nth ((nth a.Nodes k).Kids) 0).toNat : List Node), rowE 3 vt ((turnTo a k).To : List Int), blkE g75 (.cells #[vD, vN, vH, r99o15, vt] 57), blkE g87 (.cells #[I ((nth a.Nodes k).Op), u85n1, I ((nth a.Nodes k).N), I ((nth a.Nodes k).D), SB ((nth a.Nodes k).Name)] 37), rdE u85n1 ((nth a.Nodes k).Kids), rowE 43 vo (a.Decls.map declA : List Decl), blkE g26 (.cells #[vo, (Value.slice none 0 0), (Value.slice none 0 0)] 26), blkE g15 (.cells #[I (((sortsF a)).1), I (((sortsF a)).2)] 28), rdE r11 (sorts a), blkE g7 (.cells #[I (0), I (0)] 28), blkE g4 (.cells #[(Value.slice none 0 0), (Value.slice none 0 0), (Value.slice none 0 0)] 26), blkE g1 (.cells #[vD, vN, vH] 26), rdE vD a.Decls, rdE vN a.Nodes, rdE vH a.Hold] H99o15 := St.back3 (A := [rowE 37 vn ((turnTo a k).Nodes : List Node), rowE 3 vt ((turnTo a k).To : List Int), blkE g75 (.cells #[vD, vN, vH, vn, vt] 57)]) (A' := [rowE 37 r99o15 (getL a ((turnTo a k).To) (nth ((turnTo a k).To) ((nth ((nth a.Nodes k).Kids) 1).toNat)) ((turnTo a k).Nodes) (nth ((nth a.Nodes k).Kids) 0).toNat : List Node), rowE 3 vt ((turnTo a k).To : List Int), blkE g75 (.cells #[vD, vN, vH, r99o15, vt] 57)]) (L := [blkE g87 (.cells #[I ((nth a.Nodes k).Op), u85n1, I ((nth a.Nodes k).N), I ((nth a.Nodes k).D), SB ((nth a.Nodes k).Name)] 37), rdE u85n1 ((nth a.Nodes k).Kids), rowE 43 vo (a.Decls.map declA : List Decl), blkE g26 (.cells #[vo, (Value.slice none 0 0), (Value.slice none 0 0)] 26), blkE g15 (.cells #[I (((sortsF a)).1), I (((sortsF a)).2)] 28), rdE r11 (sorts a), blkE g7 (.cells #[I (0), I (0)] 28), blkE g4 (.cells #[(Value.slice none 0 0), (Value.slice none 0 0), (Value.slice none 0 0)] 26), blkE g1 (.cells #[vD, vN, vH] 26), rdE vD a.Decls, rdE vN a.Nodes, rdE vH a.Hold]) hS99o15 hxx hgo
        refine ⟨Ext.mono hxx (labS_of 0 rfl (fun _ _ => trivial)), ?_⟩
        refine wpR_q 16 (by kernel_rfl) rfl (quietAt rfl rfl (q_assign (v := I (((getL a ((turnTo a k).To) (nth ((turnTo a k).To) ((nth ((nth a.Nodes k).Kids) 1).toNat)) ((turnTo a k).Nodes) (nth ((nth a.Nodes k).Kids) 0).toNat).length : Int) - 1)) rfl rfl)) ?_
        refine wpR_end (by kernel_rfl) ?_
        exact ⟨r99o15, a97_1, a97_2, a97_3, a97_4, a97_6, a97_9, rfl, a97_57, a97_58, a97_59, hS99o15x2⟩
      rintro f100 H100 ⟨r99o15, a100_1, a100_2, a100_3, a100_4, a100_6, a100_9, a100_12, a100_57, a100_58, a100_59, hS100⟩
      clear a97_1 a97_11 a97_2 a97_3 a97_4 a97_57 a97_58 a97_59 a97_6 a97_9 a97_95
      exact ⟨r99o15, ((getL a ((turnTo a k).To) (nth ((turnTo a k).To) ((nth ((nth a.Nodes k).Kids) 1).toNat)) ((turnTo a k).Nodes) (nth ((nth a.Nodes k).Kids) 0).toNat).length : Int) - 1, (turn_get h89 h95).2, (by constructor <;> omega), a100_1, a100_2, a100_3, a100_4, a100_6, a100_9, (Eq.trans a100_12 (congrArg I (by omega))), a100_57, a100_58, a100_59, (by have h__ := (St.drop (show St H0 NoB (fun b => S b ∧ b < H0.size) [rowE 37 r99o15 (getL a ((turnTo a k).To) (nth ((turnTo a k).To) ((nth ((nth a.Nodes k).Kids) 1).toNat)) ((turnTo a k).Nodes) (nth ((nth a.Nodes k).Kids) 0).toNat : List Node), blkE g75 (.cells #[vD, vN, vH, r99o15, vt] 57), rowE 3 vt ((turnTo a k).To : List Int), blkE g87 (.cells #[I ((nth a.Nodes k).Op), u85n1, I ((nth a.Nodes k).N), I ((nth a.Nodes k).D), SB ((nth a.Nodes k).Name)] 37), rdE u85n1 ((nth a.Nodes k).Kids), rowE 43 vo (a.Decls.map declA : List Decl), blkE g26 (.cells #[vo, (Value.slice none 0 0), (Value.slice none 0 0)] 26), blkE g15 (.cells #[I (((sortsF a)).1), I (((sortsF a)).2)] 28), rdE r11 (sorts a), blkE g7 (.cells #[I (0), I (0)] 28), blkE g4 (.cells #[(Value.slice none 0 0), (Value.slice none 0 0), (Value.slice none 0 0)] 26), blkE g1 (.cells #[vD, vN, vH] 26), rdE vD a.Decls, rdE vN a.Nodes, rdE vH a.Hold] H100 from ((hS100.front 2 rfl).front 1 rfl)) (sk (sk (sk (sn (sn (sk (sk (sk (sk (sk (sk (sk (sk (sk (sk (List.Sublist.slnil))))))))))))))))); rw [(turn_get h89 h95).1]; exact h__)⟩
    refine wpF_seq ?_
    refine wpF_cut (fun f H => f 1 = PT g1 0 ∧ f 2 = PT g4 0 ∧ f 3 = PT g7 0 ∧ f 4 = r11 ∧ f 6 = PT g26 0 ∧ f 9 = PT g75 0 ∧ f 11 = PT g87 0 ∧ f 13 = u85n1 ∧ f 57 = vN ∧ f 58 = I ((a.Nodes.length : Int)) ∧ f 59 = I ((k : Int)) ∧ H92 = H) ?_ ?_
    · refine wpF_region ?_
      refine wpL_q (U := NoB) rfl (q_fieldAddr rfl Try.underlying37 rfl Try.sizeOf24 a97_11) ?_
      refine wpL_q (U := NoB) rfl (q_loadBlk rfl rfl Try.isAgg24 (hS92.blk 0 rfl) rfl (fun h => h)) ?_
      refine wpL_q (U := NoB) rfl (q_assign (v := u85n1) rfl rfl) ?_
      exact ⟨a97_1, a97_2, a97_3, a97_4, a97_6, a97_9, a97_11, rfl, a97_57, a97_58, a97_59, rfl⟩
    rintro f101 _ ⟨a101_1, a101_2, a101_3, a101_4, a101_6, a101_9, a101_11, a101_13, a101_57, a101_58, a101_59, rfl⟩
    clear a97_1 a97_11 a97_2 a97_3 a97_4 a97_57 a97_58 a97_59 a97_6 a97_9 a97_95
    refine wpF_seq ?_
    refine wpF_cut (fun f H => f 1 = PT g1 0 ∧ f 2 = PT g4 0 ∧ f 3 = PT g7 0 ∧ f 4 = r11 ∧ f 6 = PT g26 0 ∧ f 9 = PT g75 0 ∧ f 11 = PT g87 0 ∧ f 13 = u85n1 ∧ f 57 = vN ∧ f 58 = I ((a.Nodes.length : Int)) ∧ f 59 = I ((k : Int)) ∧ St H0 NoB (fun b => S b ∧ b < H0.size) [blkE g87 (.cells #[I ((nth a.Nodes k).Op), (Value.slice none 0 0), I ((nth a.Nodes k).N), I ((nth a.Nodes k).D), SB ((nth a.Nodes k).Name)] 37), rdE u85n1 ((nth a.Nodes k).Kids), rowE 37 vn ((turnTo a k).Nodes : List Node), rowE 3 vt ((turnTo a k).To : List Int), blkE g75 (.cells #[vD, vN, vH, vn, vt] 57), rowE 43 vo (a.Decls.map declA : List Decl), blkE g26 (.cells #[vo, (Value.slice none 0 0), (Value.slice none 0 0)] 26), blkE g15 (.cells #[I (((sortsF a)).1), I (((sortsF a)).2)] 28), rdE r11 (sorts a), blkE g7 (.cells #[I (0), I (0)] 28), blkE g4 (.cells #[(Value.slice none 0 0), (Value.slice none 0 0), (Value.slice none 0 0)] 26), blkE g1 (.cells #[vD, vN, vH] 26), rdE vD a.Decls, rdE vN a.Nodes, rdE vH a.Hold] H) ?_ ?_
    · refine wpF_region ?_
      refine wpL_q (U := NoB) rfl (q_fieldAddr rfl Try.underlying37 rfl Try.sizeOf24 a101_11) ?_
      refine wpL_o rfl ?_
      refine e_storeBlk (v := (Value.slice none 0 0)) rfl rfl rfl rfl Try.sizeOf24 (by show _ < 5; decide) hS92 (fun H102 hS103 hxx => ?_)
      replace hS103 : St H0 NoB (fun b => S b ∧ b < H0.size) [blkE g87 (.cells #[I ((nth a.Nodes k).Op), (Value.slice none 0 0), I ((nth a.Nodes k).N), I ((nth a.Nodes k).D), SB ((nth a.Nodes k).Name)] 37), rdE u85n1 ((nth a.Nodes k).Kids), rowE 37 vn ((turnTo a k).Nodes : List Node), rowE 3 vt ((turnTo a k).To : List Int), blkE g75 (.cells #[vD, vN, vH, vn, vt] 57), rowE 43 vo (a.Decls.map declA : List Decl), blkE g26 (.cells #[vo, (Value.slice none 0 0), (Value.slice none 0 0)] 26), blkE g15 (.cells #[I (((sortsF a)).1), I (((sortsF a)).2)] 28), rdE r11 (sorts a), blkE g7 (.cells #[I (0), I (0)] 28), blkE g4 (.cells #[(Value.slice none 0 0), (Value.slice none 0 0), (Value.slice none 0 0)] 26), blkE g1 (.cells #[vD, vN, vH] 26), rdE vD a.Decls, rdE vN a.Nodes, rdE vH a.Hold] H102 := hS103
      exact ⟨a101_1, a101_2, a101_3, a101_4, a101_6, a101_9, a101_11, a101_13, a101_57, a101_58, a101_59, hS103⟩
    rintro f104 H104 ⟨a104_1, a104_2, a104_3, a104_4, a104_6, a104_9, a104_11, a104_13, a104_57, a104_58, a104_59, hS104⟩
    clear a101_1 a101_11 a101_13 a101_2 a101_3 a101_4 a101_57 a101_58 a101_59 a101_6 a101_9
    have hS105 : St H0 NoB (fun b => S b ∧ b < H0.size) [rowE 3 (Value.slice none 0 0) ([] : List Int), blkE g87 (.cells #[I ((nth a.Nodes k).Op), (Value.slice none 0 0), I ((nth a.Nodes k).N), I ((nth a.Nodes k).D), SB ((nth a.Nodes k).Name)] 37), rdE u85n1 ((nth a.Nodes k).Kids), rowE 37 vn ((turnTo a k).Nodes : List Node), rowE 3 vt ((turnTo a k).To : List Int), blkE g75 (.cells #[vD, vN, vH, vn, vt] 57), rowE 43 vo (a.Decls.map declA : List Decl), blkE g26 (.cells #[vo, (Value.slice none 0 0), (Value.slice none 0 0)] 26), blkE g15 (.cells #[I (((sortsF a)).1), I (((sortsF a)).2)] 28), rdE r11 (sorts a), blkE g7 (.cells #[I (0), I (0)] 28), blkE g4 (.cells #[(Value.slice none 0 0), (Value.slice none 0 0), (Value.slice none 0 0)] 26), blkE g1 (.cells #[vD, vN, vH] 26), rdE vD a.Decls, rdE vN a.Nodes, rdE vH a.Hold] H104 := hS104.row0 3
    refine wpF_seq ?_
    refine wpF_seq ?_
    refine wpF_cut (fun f H => f 1 = PT g1 0 ∧ f 2 = PT g4 0 ∧ f 3 = PT g7 0 ∧ f 4 = r11 ∧ f 6 = PT g26 0 ∧ f 9 = PT g75 0 ∧ f 11 = PT g87 0 ∧ f 57 = vN ∧ f 58 = I ((a.Nodes.length : Int)) ∧ f 59 = I ((k : Int)) ∧ f 67 = u85n1 ∧ f 68 = I ((((nth a.Nodes k).Kids).length : Int)) ∧ f 69 = I (0) ∧ H104 = H) ?_ ?_
    · refine wpF_region ?_
      refine wpL_q (U := NoB) rfl (q_move (v := u85n1) rfl a104_13) ?_
      refine wpL_q (U := NoB) rfl (q_lenRd rfl Try.underlying24 rfl (hS105.rdl 2 rfl)) ?_
      refine wpL_q (U := NoB) rfl (q_move (v := I (0)) rfl rfl) ?_
      exact ⟨a104_1, a104_2, a104_3, a104_4, a104_6, a104_9, a104_11, a104_57, a104_58, a104_59, rfl, rfl, rfl, rfl⟩
    rintro f106 _ ⟨a106_1, a106_2, a106_3, a106_4, a106_6, a106_9, a106_11, a106_57, a106_58, a106_59, a106_67, a106_68, a106_69, rfl⟩
    clear a104_1 a104_11 a104_13 a104_2 a104_3 a104_4 a104_57 a104_58 a104_59 a104_6 a104_9
    refine wpF_block ?_
    refine wpF_loop (fun mz f H => ∃ (j : Nat), ∃ (vK : Value), mz = (nth a.Nodes k).Kids.length - j ∧ (j ≤ (nth a.Nodes k).Kids.length) ∧ f 1 = PT g1 0 ∧ f 2 = PT g4 0 ∧ f 3 = PT g7 0 ∧ f 4 = r11 ∧ f 6 = PT g26 0 ∧ f 9 = PT g75 0 ∧ f 11 = PT g87 0 ∧ f 57 = vN ∧ f 58 = I ((a.Nodes.length : Int)) ∧ f 59 = I ((k : Int)) ∧ f 67 = u85n1 ∧ f 68 = I ((((nth a.Nodes k).Kids).length : Int)) ∧ f 69 = I ((j : Int)) ∧ St H0 NoB (fun b => S b ∧ b < H0.size) [rowE 3 vK (kidS (turnTo a k).To ((nth a.Nodes k).Kids.take j) : List Int), blkE g87 (.cells #[I ((nth a.Nodes k).Op), vK, I ((nth a.Nodes k).N), I ((nth a.Nodes k).D), SB ((nth a.Nodes k).Name)] 37), rdE u85n1 ((nth a.Nodes k).Kids), rowE 37 vn ((turnTo a k).Nodes : List Node), rowE 3 vt ((turnTo a k).To : List Int), blkE g75 (.cells #[vD, vN, vH, vn, vt] 57), rowE 43 vo (a.Decls.map declA : List Decl), blkE g26 (.cells #[vo, (Value.slice none 0 0), (Value.slice none 0 0)] 26), blkE g15 (.cells #[I (((sortsF a)).1), I (((sortsF a)).2)] 28), rdE r11 (sorts a), blkE g7 (.cells #[I (0), I (0)] 28), blkE g4 (.cells #[(Value.slice none 0 0), (Value.slice none 0 0), (Value.slice none 0 0)] 26), blkE g1 (.cells #[vD, vN, vH] 26), rdE vD a.Decls, rdE vN a.Nodes, rdE vH a.Hold] H) ((nth a.Nodes k).Kids.length - 0) ?_ ?_
    · exact ⟨0, (Value.slice none 0 0), rfl, Nat.zero_le _, a106_1, a106_2, a106_3, a106_4, a106_6, a106_9, a106_11, a106_57, a106_58, a106_59, a106_67, a106_68, (Eq.trans a106_69 (congrArg I (by omega))), (show St H0 NoB (fun b => S b ∧ b < H0.size) [rowE 3 (Value.slice none 0 0) (kidS (turnTo a k).To ((nth a.Nodes k).Kids.take 0) : List Int), blkE g87 (.cells #[I ((nth a.Nodes k).Op), (Value.slice none 0 0), I ((nth a.Nodes k).N), I ((nth a.Nodes k).D), SB ((nth a.Nodes k).Name)] 37), rdE u85n1 ((nth a.Nodes k).Kids), rowE 37 vn ((turnTo a k).Nodes : List Node), rowE 3 vt ((turnTo a k).To : List Int), blkE g75 (.cells #[vD, vN, vH, vn, vt] 57), rowE 43 vo (a.Decls.map declA : List Decl), blkE g26 (.cells #[vo, (Value.slice none 0 0), (Value.slice none 0 0)] 26), blkE g15 (.cells #[I (((sortsF a)).1), I (((sortsF a)).2)] 28), rdE r11 (sorts a), blkE g7 (.cells #[I (0), I (0)] 28), blkE g4 (.cells #[(Value.slice none 0 0), (Value.slice none 0 0), (Value.slice none 0 0)] 26), blkE g1 (.cells #[vD, vN, vH] 26), rdE vD a.Decls, rdE vN a.Nodes, rdE vH a.Hold] H104 from hS105)⟩
    intro m107 f107 H107 hI107
    obtain ⟨j, vK, hm107, hj, a107_1, a107_2, a107_3, a107_4, a107_6, a107_9, a107_11, a107_57, a107_58, a107_59, a107_67, a107_68, a107_69, hS107⟩ := hI107
    clear a106_1 a106_11 a106_2 a106_3 a106_4 a106_57 a106_58 a106_59 a106_6 a106_67 a106_68 a106_69 a106_9
    refine wpF_seq ?_
    refine wpF_cut (fun f H => f 1 = PT g1 0 ∧ f 2 = PT g4 0 ∧ f 3 = PT g7 0 ∧ f 4 = r11 ∧ f 6 = PT g26 0 ∧ f 9 = PT g75 0 ∧ f 11 = PT g87 0 ∧ f 57 = vN ∧ f 58 = I ((a.Nodes.length : Int)) ∧ f 59 = I ((k : Int)) ∧ f 67 = u85n1 ∧ f 68 = I ((((nth a.Nodes k).Kids).length : Int)) ∧ f 69 = I ((j : Int)) ∧ f 70 = B (decide ((j : Int) < (((nth a.Nodes k).Kids).length : Int))) ∧ H107 = H) ?_ ?_
    · refine wpF_region ?_
      refine wpL_q (U := NoB) rfl (q_lss rfl a107_69 a107_68) ?_
      exact ⟨a107_1, a107_2, a107_3, a107_4, a107_6, a107_9, a107_11, a107_57, a107_58, a107_59, a107_67, a107_68, a107_69, rfl, rfl⟩
    rintro f108 _ ⟨a108_1, a108_2, a108_3, a108_4, a108_6, a108_9, a108_11, a108_57, a108_58, a108_59, a108_67, a108_68, a108_69, a108_70, rfl⟩
    clear a107_1 a107_11 a107_2 a107_3 a107_4 a107_57 a107_58 a107_59 a107_6 a107_67 a107_68 a107_69 a107_9
    refine wpF_seq ?_
    refine wpF_condP a108_70 (fun hlt5 => ?t122) (fun hlt5 => ?e122)
    case e122 =>
      have hS110 : St H0 NoB (fun b => S b ∧ b < H0.size) [rowE 3 vK (kidS (turnTo a k).To (nth a.Nodes k).Kids : List Int), blkE g87 (.cells #[I ((nth a.Nodes k).Op), vK, I ((nth a.Nodes k).N), I ((nth a.Nodes k).D), SB ((nth a.Nodes k).Name)] 37), rdE u85n1 ((nth a.Nodes k).Kids), rowE 37 vn ((turnTo a k).Nodes : List Node), rowE 3 vt ((turnTo a k).To : List Int), blkE g75 (.cells #[vD, vN, vH, vn, vt] 57), rowE 43 vo (a.Decls.map declA : List Decl), blkE g26 (.cells #[vo, (Value.slice none 0 0), (Value.slice none 0 0)] 26), blkE g15 (.cells #[I (((sortsF a)).1), I (((sortsF a)).2)] 28), rdE r11 (sorts a), blkE g7 (.cells #[I (0), I (0)] 28), blkE g4 (.cells #[(Value.slice none 0 0), (Value.slice none 0 0), (Value.slice none 0 0)] 26), blkE g1 (.cells #[vD, vN, vH] 26), rdE vD a.Decls, rdE vN a.Nodes, rdE vH a.Hold] H107 := by have h__ := hS107; rw [List.take_of_length_le (show (nth a.Nodes k).Kids.length ≤ j by omega)] at h__; exact h__
      refine wpF_exit ?_
      refine atX_here ?_
      refine wpF_cut (fun f H => ∃ (r117 : Value), f 1 = PT g1 0 ∧ f 2 = PT g4 0 ∧ f 3 = PT g7 0 ∧ f 4 = r11 ∧ f 6 = PT g26 0 ∧ f 9 = PT g75 0 ∧ f 12 = I ((((turnTo a k).Nodes).length : Int)) ∧ f 57 = vN ∧ f 58 = I ((a.Nodes.length : Int)) ∧ f 59 = I ((k : Int)) ∧ St H0 NoB (fun b => S b ∧ b < H0.size) [rowE 37 r117 (((turnTo a k).Nodes) ++ [(Node.mk ((nth a.Nodes k).Op) (kidS (turnTo a k).To (nth a.Nodes k).Kids) ((nth a.Nodes k).N) ((nth a.Nodes k).D) ((nth a.Nodes k).Name))] : List Node), blkE g75 (.cells #[vD, vN, vH, r117, vt] 57), rdE vK (kidS (turnTo a k).To (nth a.Nodes k).Kids), blkE g87 (.cells #[I ((nth a.Nodes k).Op), vK, I ((nth a.Nodes k).N), I ((nth a.Nodes k).D), SB ((nth a.Nodes k).Name)] 37), rowE 3 vt ((turnTo a k).To : List Int), rowE 43 vo (a.Decls.map declA : List Decl), blkE g26 (.cells #[vo, (Value.slice none 0 0), (Value.slice none 0 0)] 26), blkE g15 (.cells #[I (((sortsF a)).1), I (((sortsF a)).2)] 28), rdE r11 (sorts a), blkE g7 (.cells #[I (0), I (0)] 28), blkE g4 (.cells #[(Value.slice none 0 0), (Value.slice none 0 0), (Value.slice none 0 0)] 26), blkE g1 (.cells #[vD, vN, vH] 26), rdE vD a.Decls, rdE vN a.Nodes, rdE vH a.Hold] H) ?_ ?_
      · refine wpF_region ?_
        refine wpL_q (U := NoB) rfl (q_move (v := PT g75 0) rfl a108_9) ?_
        refine wpL_q (U := NoB) rfl (q_loadBlkA rfl a108_11 Try.isAgg37 Try.sizeOf37 rfl (hS110.blk 1 rfl) (fun h => h)) ?_
        have hS115 : St H0 NoB (fun b => S b ∧ b < H0.size) [rdE vK (kidS (turnTo a k).To (nth a.Nodes k).Kids), blkE g87 (.cells #[I ((nth a.Nodes k).Op), vK, I ((nth a.Nodes k).N), I ((nth a.Nodes k).D), SB ((nth a.Nodes k).Name)] 37), rdE u85n1 ((nth a.Nodes k).Kids), rowE 37 vn ((turnTo a k).Nodes : List Node), rowE 3 vt ((turnTo a k).To : List Int), blkE g75 (.cells #[vD, vN, vH, vn, vt] 57), rowE 43 vo (a.Decls.map declA : List Decl), blkE g26 (.cells #[vo, (Value.slice none 0 0), (Value.slice none 0 0)] 26), blkE g15 (.cells #[I (((sortsF a)).1), I (((sortsF a)).2)] 28), rdE r11 (sorts a), blkE g7 (.cells #[I (0), I (0)] 28), blkE g4 (.cells #[(Value.slice none 0 0), (Value.slice none 0 0), (Value.slice none 0 0)] 26), blkE g1 (.cells #[vD, vN, vH] 26), rdE vD a.Decls, rdE vN a.Nodes, rdE vH a.Hold] H107 := St.fin hS110
        have hS116 : St H0 NoB (fun b => S b ∧ b < H0.size) [rowE 37 vn ((turnTo a k).Nodes : List Node), blkE g75 (.cells #[vD, vN, vH, vn, vt] 57), rdE vK (kidS (turnTo a k).To (nth a.Nodes k).Kids), blkE g87 (.cells #[I ((nth a.Nodes k).Op), vK, I ((nth a.Nodes k).N), I ((nth a.Nodes k).D), SB ((nth a.Nodes k).Name)] 37), rdE u85n1 ((nth a.Nodes k).Kids), rowE 3 vt ((turnTo a k).To : List Int), rowE 43 vo (a.Decls.map declA : List Decl), blkE g26 (.cells #[vo, (Value.slice none 0 0), (Value.slice none 0 0)] 26), blkE g15 (.cells #[I (((sortsF a)).1), I (((sortsF a)).2)] 28), rdE r11 (sorts a), blkE g7 (.cells #[I (0), I (0)] 28), blkE g4 (.cells #[(Value.slice none 0 0), (Value.slice none 0 0), (Value.slice none 0 0)] 26), blkE g1 (.cells #[vD, vN, vH] 26), rdE vD a.Decls, rdE vN a.Nodes, rdE vH a.Hold] H107 := (St.drop (show St H0 NoB (fun b => S b ∧ b < H0.size) [rowE 37 vn ((turnTo a k).Nodes : List Node), blkE g75 (.cells #[vD, vN, vH, vn, vt] 57), rdE vK (kidS (turnTo a k).To (nth a.Nodes k).Kids), blkE g87 (.cells #[I ((nth a.Nodes k).Op), vK, I ((nth a.Nodes k).N), I ((nth a.Nodes k).D), SB ((nth a.Nodes k).Name)] 37), rdE u85n1 ((nth a.Nodes k).Kids), rowE 3 vt ((turnTo a k).To : List Int), rowE 43 vo (a.Decls.map declA : List Decl), blkE g26 (.cells #[vo, (Value.slice none 0 0), (Value.slice none 0 0)] 26), blkE g15 (.cells #[I (((sortsF a)).1), I (((sortsF a)).2)] 28), rdE r11 (sorts a), blkE g7 (.cells #[I (0), I (0)] 28), blkE g4 (.cells #[(Value.slice none 0 0), (Value.slice none 0 0), (Value.slice none 0 0)] 26), blkE g1 (.cells #[vD, vN, vH] 26), rdE vD a.Decls, rdE vN a.Nodes, rdE vH a.Hold] H107 from ((hS115.front 5 rfl).front 4 rfl)) (sk (sk (sk (sk (sk (sk (sk (sk (sk (sk (sk (sk (sk (sk (sk (sk (List.Sublist.slnil))))))))))))))))))
        refine wpL_o rfl ?_
        refine e_call rfl Try.call19 (arr2 (v0 := PT g75 0) (v1 := Value.agg #[I ((nth a.Nodes k).Op), vK, I ((nth a.Nodes k).N), I ((nth a.Nodes k).D), SB ((nth a.Nodes k).Name)]) rfl rfl) (put_M _ g75 vD vN vH vn vt vK ((turnTo a k).Nodes) (Node.mk ((nth a.Nodes k).Op) (kidS (turnTo a k).To (nth a.Nodes k).Kids) ((nth a.Nodes k).N) ((nth a.Nodes k).D) ((nth a.Nodes k).Name)) (St.give (A := [rowE 37 vn ((turnTo a k).Nodes : List Node), blkE g75 (.cells #[vD, vN, vH, vn, vt] 57)]) (L := [rdE vK (kidS (turnTo a k).To (nth a.Nodes k).Kids), blkE g87 (.cells #[I ((nth a.Nodes k).Op), vK, I ((nth a.Nodes k).N), I ((nth a.Nodes k).D), SB ((nth a.Nodes k).Name)] 37), rdE u85n1 ((nth a.Nodes k).Kids), rowE 3 vt ((turnTo a k).To : List Int), rowE 43 vo (a.Decls.map declA : List Decl), blkE g26 (.cells #[vo, (Value.slice none 0 0), (Value.slice none 0 0)] 26), blkE g15 (.cells #[I (((sortsF a)).1), I (((sortsF a)).2)] 28), rdE r11 (sorts a), blkE g7 (.cells #[I (0), I (0)] 28), blkE g4 (.cells #[(Value.slice none 0 0), (Value.slice none 0 0), (Value.slice none 0 0)] 26), blkE g1 (.cells #[vD, vN, vH] 26), rdE vD a.Decls, rdE vN a.Nodes, rdE vH a.Hold]) hS116) (by first | assumption | (constructor <;> (dsimp only; omega))) (hS116.rdS 2 rfl) (by first | assumption | (constructor <;> (dsimp only; omega))) (by first | assumption | (constructor <;> (dsimp only; omega))) (by first | assumption | exact Nat.zero_le _)  (by first | omega | (simp only [List.length_append, List.length_cons, List.length_nil]; omega))) ?_
        rintro _ H118 ⟨hxx, r117, rfl, hgo⟩
        have hS119 : St H0 NoB (fun b => S b ∧ b < H0.size) [rowE 37 r117 (((turnTo a k).Nodes) ++ [(Node.mk ((nth a.Nodes k).Op) (kidS (turnTo a k).To (nth a.Nodes k).Kids) ((nth a.Nodes k).N) ((nth a.Nodes k).D) ((nth a.Nodes k).Name))] : List Node), blkE g75 (.cells #[vD, vN, vH, r117, vt] 57), rdE vK (kidS (turnTo a k).To (nth a.Nodes k).Kids), blkE g87 (.cells #[I ((nth a.Nodes k).Op), vK, I ((nth a.Nodes k).N), I ((nth a.Nodes k).D), SB ((nth a.Nodes k).Name)] 37), rdE u85n1 ((nth a.Nodes k).Kids), rowE 3 vt ((turnTo a k).To : List Int), rowE 43 vo (a.Decls.map declA : List Decl), blkE g26 (.cells #[vo, (Value.slice none 0 0), (Value.slice none 0 0)] 26), blkE g15 (.cells #[I (((sortsF a)).1), I (((sortsF a)).2)] 28), rdE r11 (sorts a), blkE g7 (.cells #[I (0), I (0)] 28), blkE g4 (.cells #[(Value.slice none 0 0), (Value.slice none 0 0), (Value.slice none 0 0)] 26), blkE g1 (.cells #[vD, vN, vH] 26), rdE vD a.Decls, rdE vN a.Nodes, rdE vH a.Hold] H118 := St.back3 (A := [rowE 37 vn ((turnTo a k).Nodes : List Node), blkE g75 (.cells #[vD, vN, vH, vn, vt] 57)]) (A' := [rowE 37 r117 (((turnTo a k).Nodes) ++ [(Node.mk ((nth a.Nodes k).Op) (kidS (turnTo a k).To (nth a.Nodes k).Kids) ((nth a.Nodes k).N) ((nth a.Nodes k).D) ((nth a.Nodes k).Name))] : List Node), blkE g75 (.cells #[vD, vN, vH, r117, vt] 57)]) (L := [rdE vK (kidS (turnTo a k).To (nth a.Nodes k).Kids), blkE g87 (.cells #[I ((nth a.Nodes k).Op), vK, I ((nth a.Nodes k).N), I ((nth a.Nodes k).D), SB ((nth a.Nodes k).Name)] 37), rdE u85n1 ((nth a.Nodes k).Kids), rowE 3 vt ((turnTo a k).To : List Int), rowE 43 vo (a.Decls.map declA : List Decl), blkE g26 (.cells #[vo, (Value.slice none 0 0), (Value.slice none 0 0)] 26), blkE g15 (.cells #[I (((sortsF a)).1), I (((sortsF a)).2)] 28), rdE r11 (sorts a), blkE g7 (.cells #[I (0), I (0)] 28), blkE g4 (.cells #[(Value.slice none 0 0), (Value.slice none 0 0), (Value.slice none 0 0)] 26), blkE g1 (.cells #[vD, vN, vH] 26), rdE vD a.Decls, rdE vN a.Nodes, rdE vH a.Hold]) hS116 hxx hgo
        refine wpL_q (U := NoB) rfl (q_assign (v := I ((((turnTo a k).Nodes).length : Int))) rfl rfl) ?_
        exact ⟨r117, a108_1, a108_2, a108_3, a108_4, a108_6, a108_9, rfl, a108_57, a108_58, a108_59, (hS119.drop (sk (sk (sk (sk (sn (sk (sk (sk (sk (sk (sk (sk (sk (sk (sk (sk (List.Sublist.slnil))))))))))))))))))⟩
      rintro f121 H121 ⟨r117, a121_1, a121_2, a121_3, a121_4, a121_6, a121_9, a121_12, a121_57, a121_58, a121_59, hS121⟩
      clear a108_1 a108_11 a108_2 a108_3 a108_4 a108_57 a108_58 a108_59 a108_6 a108_67 a108_68 a108_69 a108_70 a108_9
      exact ⟨r117, (((turnTo a k).Nodes).length : Int), (turn_flat h89 h95).2, (by constructor <;> omega), a121_1, a121_2, a121_3, a121_4, a121_6, a121_9, a121_12, a121_57, a121_58, a121_59, (by have h__ := (hS121.drop (sk (sk (sn (sn (sk (sk (sk (sk (sk (sk (sk (sk (sk (sk (sk (List.Sublist.slnil))))))))))))))))); rw [(turn_flat h89 h95).1]; exact h__)⟩
    have hkj := kid_lt hA (k := k) (by omega) (j := j) (by omega)
    unfold kidN at hkj
    refine wpF_skip ?_
    refine wpF_seq ?_
    refine wpF_block ?_
    refine wpF_seq ?_
    refine wpF_cut (fun f H => f 1 = PT g1 0 ∧ f 2 = PT g4 0 ∧ f 3 = PT g7 0 ∧ f 4 = r11 ∧ f 6 = PT g26 0 ∧ f 9 = PT g75 0 ∧ f 11 = PT g87 0 ∧ f 15 = I (nth ((nth a.Nodes k).Kids) j) ∧ f 57 = vN ∧ f 58 = I ((a.Nodes.length : Int)) ∧ f 59 = I ((k : Int)) ∧ f 67 = u85n1 ∧ f 68 = I ((((nth a.Nodes k).Kids).length : Int)) ∧ f 69 = I ((j : Int)) ∧ H107 = H) ?_ ?_
    · refine wpF_region ?_
      refine wpL_q (U := NoB) rfl (q_indexRd (k := j) rfl Try.underlying24 el_Int_3_ArrC2 a108_67 a108_69 (hS107.rdl 2 rfl) (by omega) (by omega)) ?_
      refine wpL_q (U := NoB) rfl (q_loadInt (k := j) rfl rfl el_Int_3_ArrC2 (hS107.rdl 2 rfl) (by omega) (fun _ h => h)) ?_
      refine wpL_q (U := NoB) rfl (q_assign (v := I (nth ((nth a.Nodes k).Kids) j)) rfl rfl) ?_
      exact ⟨a108_1, a108_2, a108_3, a108_4, a108_6, a108_9, a108_11, rfl, a108_57, a108_58, a108_59, a108_67, a108_68, a108_69, rfl⟩
    rintro f111 _ ⟨a111_1, a111_2, a111_3, a111_4, a111_6, a111_9, a111_11, a111_15, a111_57, a111_58, a111_59, a111_67, a111_68, a111_69, rfl⟩
    clear a108_1 a108_11 a108_2 a108_3 a108_4 a108_57 a108_58 a108_59 a108_6 a108_67 a108_68 a108_69 a108_70 a108_9
    have h6j := (hS107.rowl 4 rfl).in64 (k := (nth (nth a.Nodes k).Kids j).toNat) (by omega)
    refine wpF_cut (fun f H => ∃ (v112o10 : Value), f 1 = PT g1 0 ∧ f 2 = PT g4 0 ∧ f 3 = PT g7 0 ∧ f 4 = r11 ∧ f 6 = PT g26 0 ∧ f 9 = PT g75 0 ∧ f 11 = PT g87 0 ∧ f 57 = vN ∧ f 58 = I ((a.Nodes.length : Int)) ∧ f 59 = I ((k : Int)) ∧ f 67 = u85n1 ∧ f 68 = I ((((nth a.Nodes k).Kids).length : Int)) ∧ f 69 = I ((j : Int)) ∧ St H0 NoB (fun b => S b ∧ b < H0.size) [blkE g87 (.cells #[I ((nth a.Nodes k).Op), v112o10, I ((nth a.Nodes k).N), I ((nth a.Nodes k).D), SB ((nth a.Nodes k).Name)] 37), rowE 3 v112o10 (kidS (turnTo a k).To ((nth a.Nodes k).Kids.take (j + 1)) : List Int), rdE u85n1 ((nth a.Nodes k).Kids), rowE 37 vn ((turnTo a k).Nodes : List Node), rowE 3 vt ((turnTo a k).To : List Int), blkE g75 (.cells #[vD, vN, vH, vn, vt] 57), rowE 43 vo (a.Decls.map declA : List Decl), blkE g26 (.cells #[vo, (Value.slice none 0 0), (Value.slice none 0 0)] 26), blkE g15 (.cells #[I (((sortsF a)).1), I (((sortsF a)).2)] 28), rdE r11 (sorts a), blkE g7 (.cells #[I (0), I (0)] 28), blkE g4 (.cells #[(Value.slice none 0 0), (Value.slice none 0 0), (Value.slice none 0 0)] 26), blkE g1 (.cells #[vD, vN, vH] 26), rdE vD a.Decls, rdE vN a.Nodes, rdE vH a.Hold] H) ?_ ?_
    · refine wpF_drawn [none, none, none, none, none, none, none, none, none, none, some 0, none, some 1] [[], [], [], [], [], [], [], [], [], [], [], [], []] (fun l b => match l with | 0 => True | 1 => True | _ => False) (by kernel_rfl) (by kernel_rfl) ?_
      refine wpR_q 0 (by kernel_rfl) rfl (quietAt rfl rfl (q_fieldAddr rfl Try.underlying37 rfl Try.sizeOf24 a111_11)) ?_
      refine wpR_q 1 (by kernel_rfl) rfl (quietAt rfl rfl (q_loadBlk rfl rfl Try.isAgg24 (hS107.blk 1 rfl) rfl (labU_not [] rfl (List.forall_mem_nil _)))) ?_
      refine wpR_q 2 (by kernel_rfl) rfl (quietAt rfl rfl (q_move (v := PT g75 0) rfl a111_9)) ?_
      refine wpR_q 3 (by kernel_rfl) rfl (quietAt rfl rfl (q_nilCheck rfl rfl)) ?_
      refine wpR_q 4 (by kernel_rfl) rfl (quietAt rfl rfl (q_fieldAddr rfl Try.underlying57 rfl Try.sizeOf24 rfl)) ?_
      refine wpR_q 5 (by kernel_rfl) rfl (quietAt rfl rfl (q_loadBlk rfl rfl Try.isAgg24 (hS107.blk 5 rfl) rfl (labU_not [] rfl (List.forall_mem_nil _)))) ?_
      refine wpR_q 6 (by kernel_rfl) rfl (quietAt rfl rfl (q_move (v := I (nth ((nth a.Nodes k).Kids) j)) rfl a111_15)) ?_
      refine wpR_q 7 (by kernel_rfl) rfl (quietAt rfl rfl (q_indexRd (k := (nth ((nth a.Nodes k).Kids) j).toNat) rfl Try.underlying24 el_Int_3_ArrC2 rfl rfl (hS107.rowl 4 rfl) (by omega) (by omega))) ?_
      refine wpR_q 8 (by kernel_rfl) rfl (quietAt rfl rfl (q_loadInt (k := (nth ((nth a.Nodes k).Kids) j).toNat) rfl rfl el_Int_3_ArrC2 (hS107.rowl 4 rfl) (by omega) (labU_sub [] rfl (List.forall_mem_nil _)))) ?_
      refine wpR_n [9] (by kernel_rfl) ?_
      refine List.forall_mem_cons.2 ⟨?_, List.forall_mem_nil _⟩
      refine exE rfl rfl ?_
      refine e_buildSlice (vs := [I (nth ((turnTo a k).To) ((nth ((nth a.Nodes k).Kids) j).toNat))]) (xs := ([nth ((turnTo a k).To) ((nth ((nth a.Nodes k).Kids) j).toNat)] : List Int)) rfl Try.underlying24 Try.zeroValue3 rfl Try.sizeOf3 (par1 (v0 := I (nth ((turnTo a k).To) ((nth ((nth a.Nodes k).Kids) j).toNat))) rfl) rfl hS107 (RdVs.cons (Rd.int.2 ⟨rfl, by first | assumption | (constructor <;> omega)⟩) (RdVs.nil)) (by decide) (by decide) (fun v112o9 H112o9 hS112o9 hxx hvv112o9 => ?_)
      replace hS112o9 : St H0 NoB (fun b => S b ∧ b < H0.size) [rowE 3 v112o9 ([nth ((turnTo a k).To) ((nth ((nth a.Nodes k).Kids) j).toNat)] : List Int), rowE 3 vK (kidS (turnTo a k).To ((nth a.Nodes k).Kids.take j) : List Int), blkE g87 (.cells #[I ((nth a.Nodes k).Op), vK, I ((nth a.Nodes k).N), I ((nth a.Nodes k).D), SB ((nth a.Nodes k).Name)] 37), rdE u85n1 ((nth a.Nodes k).Kids), rowE 37 vn ((turnTo a k).Nodes : List Node), rowE 3 vt ((turnTo a k).To : List Int), blkE g75 (.cells #[vD, vN, vH, vn, vt] 57), rowE 43 vo (a.Decls.map declA : List Decl), blkE g26 (.cells #[vo, (Value.slice none 0 0), (Value.slice none 0 0)] 26), blkE g15 (.cells #[I (((sortsF a)).1), I (((sortsF a)).2)] 28), rdE r11 (sorts a), blkE g7 (.cells #[I (0), I (0)] 28), blkE g4 (.cells #[(Value.slice none 0 0), (Value.slice none 0 0), (Value.slice none 0 0)] 26), blkE g1 (.cells #[vD, vN, vH] 26), rdE vD a.Decls, rdE vN a.Nodes, rdE vH a.Hold] H112o9 := hS112o9
      refine ⟨Ext.mono hxx (fun _ h => h.elim), ?_⟩
      refine wpR_n [10] (by kernel_rfl) ?_
      refine List.forall_mem_cons.2 ⟨?_, List.forall_mem_nil _⟩
      have hS112o10 : St H0 NoB (fun b => S b ∧ b < H0.size) [rdE v112o9 ([nth ((turnTo a k).To) ((nth ((nth a.Nodes k).Kids) j).toNat)] : List Int), rowE 3 vK (kidS (turnTo a k).To ((nth a.Nodes k).Kids.take j) : List Int), blkE g87 (.cells #[I ((nth a.Nodes k).Op), vK, I ((nth a.Nodes k).N), I ((nth a.Nodes k).D), SB ((nth a.Nodes k).Name)] 37), rdE u85n1 ((nth a.Nodes k).Kids), rowE 37 vn ((turnTo a k).Nodes : List Node), rowE 3 vt ((turnTo a k).To : List Int), blkE g75 (.cells #[vD, vN, vH, vn, vt] 57), rowE 43 vo (a.Decls.map declA : List Decl), blkE g26 (.cells #[vo, (Value.slice none 0 0), (Value.slice none 0 0)] 26), blkE g15 (.cells #[I (((sortsF a)).1), I (((sortsF a)).2)] 28), rdE r11 (sorts a), blkE g7 (.cells #[I (0), I (0)] 28), blkE g4 (.cells #[(Value.slice none 0 0), (Value.slice none 0 0), (Value.slice none 0 0)] 26), blkE g1 (.cells #[vD, vN, vH] 26), rdE vD a.Decls, rdE vN a.Nodes, rdE vH a.Hold] H112o9 := St.fin hS112o9
      have hS112o10x2 : St H0 NoB (fun b => S b ∧ b < H0.size) [rowE 3 vK (kidS (turnTo a k).To ((nth a.Nodes k).Kids.take j) : List Int), rdE v112o9 ([nth ((turnTo a k).To) ((nth ((nth a.Nodes k).Kids) j).toNat)] : List Int), blkE g87 (.cells #[I ((nth a.Nodes k).Op), vK, I ((nth a.Nodes k).N), I ((nth a.Nodes k).D), SB ((nth a.Nodes k).Name)] 37), rdE u85n1 ((nth a.Nodes k).Kids), rowE 37 vn ((turnTo a k).Nodes : List Node), rowE 3 vt ((turnTo a k).To : List Int), blkE g75 (.cells #[vD, vN, vH, vn, vt] 57), rowE 43 vo (a.Decls.map declA : List Decl), blkE g26 (.cells #[vo, (Value.slice none 0 0), (Value.slice none 0 0)] 26), blkE g15 (.cells #[I (((sortsF a)).1), I (((sortsF a)).2)] 28), rdE r11 (sorts a), blkE g7 (.cells #[I (0), I (0)] 28), blkE g4 (.cells #[(Value.slice none 0 0), (Value.slice none 0 0), (Value.slice none 0 0)] 26), blkE g1 (.cells #[vD, vN, vH] 26), rdE vD a.Decls, rdE vN a.Nodes, rdE vH a.Hold] H112o9 := (hS112o10.front 1 rfl)
      refine exE rfl rfl ?_
      refine e_append rfl Try.underlying24 em_Int_3_ArrC2 rfl rfl hS112o10x2 (hS112o10x2.rdS 1 rfl) (fun _ h => h) (by have hb : GoT.bytes Int = 8 := rfl; rw [hb]; simp only [List.length_append, kidS_len, List.length_take, List.length_cons, List.length_nil]; omega) (by decide) (fun v112o10 H112o10 hS112o10x3 hxx => ?_)
      replace hS112o10x3 : St H0 NoB (fun b => S b ∧ b < H0.size) [rowE 3 v112o10 ((kidS (turnTo a k).To ((nth a.Nodes k).Kids.take j)) ++ ([nth ((turnTo a k).To) ((nth ((nth a.Nodes k).Kids) j).toNat)]) : List Int), rdE v112o9 ([nth ((turnTo a k).To) ((nth ((nth a.Nodes k).Kids) j).toNat)] : List Int), blkE g87 (.cells #[I ((nth a.Nodes k).Op), vK, I ((nth a.Nodes k).N), I ((nth a.Nodes k).D), SB ((nth a.Nodes k).Name)] 37), rdE u85n1 ((nth a.Nodes k).Kids), rowE 37 vn ((turnTo a k).Nodes : List Node), rowE 3 vt ((turnTo a k).To : List Int), blkE g75 (.cells #[vD, vN, vH, vn, vt] 57), rowE 43 vo (a.Decls.map declA : List Decl), blkE g26 (.cells #[vo, (Value.slice none 0 0), (Value.slice none 0 0)] 26), blkE g15 (.cells #[I (((sortsF a)).1), I (((sortsF a)).2)] 28), rdE r11 (sorts a), blkE g7 (.cells #[I (0), I (0)] 28), blkE g4 (.cells #[(Value.slice none 0 0), (Value.slice none 0 0), (Value.slice none 0 0)] 26), blkE g1 (.cells #[vD, vN, vH] 26), rdE vD a.Decls, rdE vN a.Nodes, rdE vH a.Hold] H112o10 := hS112o10x3
      have hS112o10x4 : St H0 NoB (fun b => S b ∧ b < H0.size) [rowE 3 v112o10 (kidS (turnTo a k).To ((nth a.Nodes k).Kids.take (j + 1)) : List Int), rdE v112o9 ([nth ((turnTo a k).To) ((nth ((nth a.Nodes k).Kids) j).toNat)] : List Int), blkE g87 (.cells #[I ((nth a.Nodes k).Op), vK, I ((nth a.Nodes k).N), I ((nth a.Nodes k).D), SB ((nth a.Nodes k).Name)] 37), rdE u85n1 ((nth a.Nodes k).Kids), rowE 37 vn ((turnTo a k).Nodes : List Node), rowE 3 vt ((turnTo a k).To : List Int), blkE g75 (.cells #[vD, vN, vH, vn, vt] 57), rowE 43 vo (a.Decls.map declA : List Decl), blkE g26 (.cells #[vo, (Value.slice none 0 0), (Value.slice none 0 0)] 26), blkE g15 (.cells #[I (((sortsF a)).1), I (((sortsF a)).2)] 28), rdE r11 (sorts a), blkE g7 (.cells #[I (0), I (0)] 28), blkE g4 (.cells #[(Value.slice none 0 0), (Value.slice none 0 0), (Value.slice none 0 0)] 26), blkE g1 (.cells #[vD, vN, vH] 26), rdE vD a.Decls, rdE vN a.Nodes, rdE vH a.Hold] H112o10 := by rw [show (kidS (turnTo a k).To ((nth a.Nodes k).Kids.take (j + 1))) = ((kidS (turnTo a k).To ((nth a.Nodes k).Kids.take j)) ++ ([nth ((turnTo a k).To) ((nth ((nth a.Nodes k).Kids) j).toNat)])) from (kidS_next (by omega)).symm]; exact hS112o10x3
      refine ⟨Ext.mono hxx (labS_of 0 rfl (fun _ _ => trivial)), ?_⟩
      refine wpR_q 11 (by kernel_rfl) rfl (quietAt rfl rfl (q_fieldAddr rfl Try.underlying37 rfl Try.sizeOf24 a111_11)) ?_
      refine wpR_n [12] (by kernel_rfl) ?_
      refine List.forall_mem_cons.2 ⟨?_, List.forall_mem_nil _⟩
      refine exE rfl rfl ?_
      refine e_storeBlk (v := v112o10) rfl rfl rfl (oneCell_rdL (hS112o10x4.rowl 0 rfl)) Try.sizeOf24 (by show _ < 5; decide) (hS112o10x4.front 2 rfl) (fun H112o12 hS112o12 hxx => ?_)
      replace hS112o12 : St H0 NoB (fun b => S b ∧ b < H0.size) [blkE g87 (.cells #[I ((nth a.Nodes k).Op), v112o10, I ((nth a.Nodes k).N), I ((nth a.Nodes k).D), SB ((nth a.Nodes k).Name)] 37), rowE 3 v112o10 (kidS (turnTo a k).To ((nth a.Nodes k).Kids.take (j + 1)) : List Int), rdE v112o9 ([nth ((turnTo a k).To) ((nth ((nth a.Nodes k).Kids) j).toNat)] : List Int), rdE u85n1 ((nth a.Nodes k).Kids), rowE 37 vn ((turnTo a k).Nodes : List Node), rowE 3 vt ((turnTo a k).To : List Int), blkE g75 (.cells #[vD, vN, vH, vn, vt] 57), rowE 43 vo (a.Decls.map declA : List Decl), blkE g26 (.cells #[vo, (Value.slice none 0 0), (Value.slice none 0 0)] 26), blkE g15 (.cells #[I (((sortsF a)).1), I (((sortsF a)).2)] 28), rdE r11 (sorts a), blkE g7 (.cells #[I (0), I (0)] 28), blkE g4 (.cells #[(Value.slice none 0 0), (Value.slice none 0 0), (Value.slice none 0 0)] 26), blkE g1 (.cells #[vD, vN, vH] 26), rdE vD a.Decls, rdE vN a.Nodes, rdE vH a.Hold] H112o12 := hS112o12
      refine ⟨Ext.mono hxx (labS_of 1 rfl (fun _ _ => trivial)), ?_⟩
      refine wpR_end (by kernel_rfl) ?_
      exact ⟨v112o10, a111_1, a111_2, a111_3, a111_4, a111_6, a111_9, a111_11, a111_57, a111_58, a111_59, a111_67, a111_68, a111_69, (hS112o12.drop (sk (sk (sn (sk (sk (sk (sk (sk (sk (sk (sk (sk (sk (sk (sk (sk (sk (List.Sublist.slnil)))))))))))))))))))⟩
    rintro f113 H113 ⟨v112o10, a113_1, a113_2, a113_3, a113_4, a113_6, a113_9, a113_11, a113_57, a113_58, a113_59, a113_67, a113_68, a113_69, hS113⟩
    clear a111_1 a111_11 a111_15 a111_2 a111_3 a111_4 a111_57 a111_58 a111_59 a111_6 a111_67 a111_68 a111_69 a111_9
    refine wpF_cut (fun f H => f 1 = PT g1 0 ∧ f 2 = PT g4 0 ∧ f 3 = PT g7 0 ∧ f 4 = r11 ∧ f 6 = PT g26 0 ∧ f 9 = PT g75 0 ∧ f 11 = PT g87 0 ∧ f 57 = vN ∧ f 58 = I ((a.Nodes.length : Int)) ∧ f 59 = I ((k : Int)) ∧ f 67 = u85n1 ∧ f 68 = I ((((nth a.Nodes k).Kids).length : Int)) ∧ f 69 = I ((j : Int) + 1) ∧ H113 = H) ?_ ?_
    · refine wpF_region ?_
      refine wpL_q (U := NoB) rfl (q_add rfl a113_69 rfl (by constructor <;> omega)) ?_
      refine wpL_q (U := NoB) rfl (q_move (v := I ((j : Int) + 1)) rfl rfl) ?_
      exact ⟨a113_1, a113_2, a113_3, a113_4, a113_6, a113_9, a113_11, a113_57, a113_58, a113_59, a113_67, a113_68, rfl, rfl⟩
    rintro f114 _ ⟨a114_1, a114_2, a114_3, a114_4, a114_6, a114_9, a114_11, a114_57, a114_58, a114_59, a114_67, a114_68, a114_69, rfl⟩
    clear a113_1 a113_11 a113_2 a113_3 a113_4 a113_57 a113_58 a113_59 a113_6 a113_67 a113_68 a113_69 a113_9
    refine ⟨_, ?_, j + 1, v112o10, rfl, (by omega), a114_1, a114_2, a114_3, a114_4, a114_6, a114_9, a114_11, a114_57, a114_58, a114_59, a114_67, a114_68, (Eq.trans a114_69 (congrArg I (by omega))), (St.drop (show St H0 NoB (fun b => S b ∧ b < H0.size) [rowE 3 v112o10 (kidS (turnTo a k).To ((nth a.Nodes k).Kids.take (j + 1)) : List Int), blkE g87 (.cells #[I ((nth a.Nodes k).Op), v112o10, I ((nth a.Nodes k).N), I ((nth a.Nodes k).D), SB ((nth a.Nodes k).Name)] 37), rdE u85n1 ((nth a.Nodes k).Kids), rowE 37 vn ((turnTo a k).Nodes : List Node), rowE 3 vt ((turnTo a k).To : List Int), blkE g75 (.cells #[vD, vN, vH, vn, vt] 57), rowE 43 vo (a.Decls.map declA : List Decl), blkE g26 (.cells #[vo, (Value.slice none 0 0), (Value.slice none 0 0)] 26), blkE g15 (.cells #[I (((sortsF a)).1), I (((sortsF a)).2)] 28), rdE r11 (sorts a), blkE g7 (.cells #[I (0), I (0)] 28), blkE g4 (.cells #[(Value.slice none 0 0), (Value.slice none 0 0), (Value.slice none 0 0)] 26), blkE g1 (.cells #[vD, vN, vH] 26), rdE vD a.Decls, rdE vN a.Nodes, rdE vH a.Hold] H113 from (hS113.front 1 rfl)) (sk (sk (sk (sk (sk (sk (sk (sk (sk (sk (sk (sk (sk (sk (sk (sk (List.Sublist.slnil))))))))))))))))))⟩
    omega
  rintro f94 H94 ⟨vN2, kk, hto, h6k, a94_1, a94_2, a94_3, a94_4, a94_6, a94_9, a94_12, a94_57, a94_58, a94_59, hS94⟩
  clear a93_1 a93_10 a93_11 a93_12 a93_2 a93_3 a93_4 a93_57 a93_58 a93_59 a93_6 a93_9
  refine wpF_seq ?_
  refine wpF_cut (fun f H => ∃ (v130 : Value), f 1 = PT g1 0 ∧ f 2 = PT g4 0 ∧ f 3 = PT g7 0 ∧ f 4 = r11 ∧ f 6 = PT g26 0 ∧ f 9 = PT g75 0 ∧ f 57 = vN ∧ f 58 = I ((a.Nodes.length : Int)) ∧ f 59 = I ((k : Int)) ∧ St H0 NoB (fun b => S b ∧ b < H0.size) [blkE g75 (.cells #[vD, vN, vH, vN2, v130] 57), rowE 3 v130 ((turnTo a (k + 1)).To : List Int), rowE 37 vN2 ((turnTo a (k + 1)).Nodes : List Node), rowE 43 vo (a.Decls.map declA : List Decl), blkE g26 (.cells #[vo, (Value.slice none 0 0), (Value.slice none 0 0)] 26), blkE g15 (.cells #[I (((sortsF a)).1), I (((sortsF a)).2)] 28), rdE r11 (sorts a), blkE g7 (.cells #[I (0), I (0)] 28), blkE g4 (.cells #[(Value.slice none 0 0), (Value.slice none 0 0), (Value.slice none 0 0)] 26), blkE g1 (.cells #[vD, vN, vH] 26), rdE vD a.Decls, rdE vN a.Nodes, rdE vH a.Hold] H) ?_ ?_
  · refine wpF_region ?_
    refine wpL_q (U := NoB) rfl (q_move (v := PT g75 0) rfl a94_9) ?_
    refine wpL_q (U := NoB) rfl (q_move (v := PT g75 0) rfl a94_9) ?_
    refine wpL_q (U := NoB) rfl (q_nilCheck rfl rfl) ?_
    refine wpL_q (U := NoB) rfl (q_fieldAddr rfl Try.underlying57 rfl Try.sizeOf24 rfl) ?_
    refine wpL_q (U := NoB) rfl (q_loadBlk rfl rfl Try.isAgg24 (hS94.blk 1 rfl) rfl (fun h => h)) ?_
    refine wpL_q (U := NoB) rfl (q_move (v := I (kk)) rfl a94_12) ?_
    refine wpL_o rfl ?_
    refine e_buildSlice (vs := [I (kk)]) (xs := ([kk] : List Int)) rfl Try.underlying24 Try.zeroValue3 rfl Try.sizeOf3 (par1 (v0 := I (kk)) rfl) rfl hS94 (RdVs.cons (Rd.int.2 ⟨rfl, by first | assumption | (constructor <;> omega)⟩) (RdVs.nil)) (by decide) (by decide) (fun v125 H126 hS127 hxx hvv125 => ?_)
    replace hS127 : St H0 NoB (fun b => S b ∧ b < H0.size) [rowE 3 v125 ([kk] : List Int), rowE 37 vN2 ((turnTo a (k + 1)).Nodes : List Node), blkE g75 (.cells #[vD, vN, vH, vN2, vt] 57), rowE 3 vt ((turnTo a k).To : List Int), rowE 43 vo (a.Decls.map declA : List Decl), blkE g26 (.cells #[vo, (Value.slice none 0 0), (Value.slice none 0 0)] 26), blkE g15 (.cells #[I (((sortsF a)).1), I (((sortsF a)).2)] 28), rdE r11 (sorts a), blkE g7 (.cells #[I (0), I (0)] 28), blkE g4 (.cells #[(Value.slice none 0 0), (Value.slice none 0 0), (Value.slice none 0 0)] 26), blkE g1 (.cells #[vD, vN, vH] 26), rdE vD a.Decls, rdE vN a.Nodes, rdE vH a.Hold] H126 := hS127
    have hS128 : St H0 NoB (fun b => S b ∧ b < H0.size) [rdE v125 ([kk] : List Int), rowE 37 vN2 ((turnTo a (k + 1)).Nodes : List Node), blkE g75 (.cells #[vD, vN, vH, vN2, vt] 57), rowE 3 vt ((turnTo a k).To : List Int), rowE 43 vo (a.Decls.map declA : List Decl), blkE g26 (.cells #[vo, (Value.slice none 0 0), (Value.slice none 0 0)] 26), blkE g15 (.cells #[I (((sortsF a)).1), I (((sortsF a)).2)] 28), rdE r11 (sorts a), blkE g7 (.cells #[I (0), I (0)] 28), blkE g4 (.cells #[(Value.slice none 0 0), (Value.slice none 0 0), (Value.slice none 0 0)] 26), blkE g1 (.cells #[vD, vN, vH] 26), rdE vD a.Decls, rdE vN a.Nodes, rdE vH a.Hold] H126 := St.fin hS127
    have hS129 : St H0 NoB (fun b => S b ∧ b < H0.size) [rowE 3 vt ((turnTo a k).To : List Int), rdE v125 ([kk] : List Int), rowE 37 vN2 ((turnTo a (k + 1)).Nodes : List Node), blkE g75 (.cells #[vD, vN, vH, vN2, vt] 57), rowE 43 vo (a.Decls.map declA : List Decl), blkE g26 (.cells #[vo, (Value.slice none 0 0), (Value.slice none 0 0)] 26), blkE g15 (.cells #[I (((sortsF a)).1), I (((sortsF a)).2)] 28), rdE r11 (sorts a), blkE g7 (.cells #[I (0), I (0)] 28), blkE g4 (.cells #[(Value.slice none 0 0), (Value.slice none 0 0), (Value.slice none 0 0)] 26), blkE g1 (.cells #[vD, vN, vH] 26), rdE vD a.Decls, rdE vN a.Nodes, rdE vH a.Hold] H126 := (hS128.front 3 rfl)
    refine wpL_o rfl ?_
    refine e_append rfl Try.underlying24 em_Int_3_ArrC2 rfl rfl hS129 (hS129.rdS 1 rfl) (fun _ h => h) (by have hb : GoT.bytes Int = 8 := rfl; rw [hb]; simp only [List.length_append, kidS_len, List.length_take, List.length_cons, List.length_nil]; omega) (by decide) (fun v130 H131 hS132 hxx => ?_)
    replace hS132 : St H0 NoB (fun b => S b ∧ b < H0.size) [rowE 3 v130 (((turnTo a k).To) ++ ([kk]) : List Int), rdE v125 ([kk] : List Int), rowE 37 vN2 ((turnTo a (k + 1)).Nodes : List Node), blkE g75 (.cells #[vD, vN, vH, vN2, vt] 57), rowE 43 vo (a.Decls.map declA : List Decl), blkE g26 (.cells #[vo, (Value.slice none 0 0), (Value.slice none 0 0)] 26), blkE g15 (.cells #[I (((sortsF a)).1), I (((sortsF a)).2)] 28), rdE r11 (sorts a), blkE g7 (.cells #[I (0), I (0)] 28), blkE g4 (.cells #[(Value.slice none 0 0), (Value.slice none 0 0), (Value.slice none 0 0)] 26), blkE g1 (.cells #[vD, vN, vH] 26), rdE vD a.Decls, rdE vN a.Nodes, rdE vH a.Hold] H131 := hS132
    have hS133 : St H0 NoB (fun b => S b ∧ b < H0.size) [rowE 3 v130 ((turnTo a (k + 1)).To : List Int), rdE v125 ([kk] : List Int), rowE 37 vN2 ((turnTo a (k + 1)).Nodes : List Node), blkE g75 (.cells #[vD, vN, vH, vN2, vt] 57), rowE 43 vo (a.Decls.map declA : List Decl), blkE g26 (.cells #[vo, (Value.slice none 0 0), (Value.slice none 0 0)] 26), blkE g15 (.cells #[I (((sortsF a)).1), I (((sortsF a)).2)] 28), rdE r11 (sorts a), blkE g7 (.cells #[I (0), I (0)] 28), blkE g4 (.cells #[(Value.slice none 0 0), (Value.slice none 0 0), (Value.slice none 0 0)] 26), blkE g1 (.cells #[vD, vN, vH] 26), rdE vD a.Decls, rdE vN a.Nodes, rdE vH a.Hold] H131 := by rw [show ((turnTo a (k + 1)).To) = (((turnTo a k).To) ++ ([kk])) from hto]; exact hS132
    refine wpL_q (U := NoB) rfl (q_nilCheck rfl rfl) ?_
    refine wpL_q (U := NoB) rfl (q_fieldAddr rfl Try.underlying57 rfl Try.sizeOf24 rfl) ?_
    refine wpL_o rfl ?_
    refine e_storeBlk (v := v130) rfl rfl rfl (oneCell_rdL (hS133.rowl 0 rfl)) Try.sizeOf24 (by show _ < 5; decide) (hS133.front 3 rfl) (fun H134 hS135 hxx => ?_)
    replace hS135 : St H0 NoB (fun b => S b ∧ b < H0.size) [blkE g75 (.cells #[vD, vN, vH, vN2, v130] 57), rowE 3 v130 ((turnTo a (k + 1)).To : List Int), rdE v125 ([kk] : List Int), rowE 37 vN2 ((turnTo a (k + 1)).Nodes : List Node), rowE 43 vo (a.Decls.map declA : List Decl), blkE g26 (.cells #[vo, (Value.slice none 0 0), (Value.slice none 0 0)] 26), blkE g15 (.cells #[I (((sortsF a)).1), I (((sortsF a)).2)] 28), rdE r11 (sorts a), blkE g7 (.cells #[I (0), I (0)] 28), blkE g4 (.cells #[(Value.slice none 0 0), (Value.slice none 0 0), (Value.slice none 0 0)] 26), blkE g1 (.cells #[vD, vN, vH] 26), rdE vD a.Decls, rdE vN a.Nodes, rdE vH a.Hold] H134 := hS135
    exact ⟨v130, a94_1, a94_2, a94_3, a94_4, a94_6, a94_9, a94_57, a94_58, a94_59, (hS135.drop (sk (sk (sn (sk (sk (sk (sk (sk (sk (sk (sk (sk (sk (sk (List.Sublist.slnil))))))))))))))))⟩
  rintro f136 H136 ⟨v130, a136_1, a136_2, a136_3, a136_4, a136_6, a136_9, a136_57, a136_58, a136_59, hS136⟩
  clear a94_1 a94_12 a94_2 a94_3 a94_4 a94_57 a94_58 a94_59 a94_6 a94_9
  refine wpF_seq ?_
  refine wpF_cut (fun f H => f 1 = PT g1 0 ∧ f 2 = PT g4 0 ∧ f 3 = PT g7 0 ∧ f 4 = r11 ∧ f 6 = PT g26 0 ∧ f 9 = PT g75 0 ∧ f 57 = vN ∧ f 58 = I ((a.Nodes.length : Int)) ∧ f 59 = I ((k : Int)) ∧ f 130 = B (decide (200 < (((turnTo a (k + 1)).Nodes).length : Int))) ∧ H136 = H) ?_ ?_
  · refine wpF_region ?_
    refine wpL_q (U := NoB) rfl (q_move (v := PT g75 0) rfl a136_9) ?_
    refine wpL_q (U := NoB) rfl (q_nilCheck rfl rfl) ?_
    refine wpL_q (U := NoB) rfl (q_fieldAddr rfl Try.underlying57 rfl Try.sizeOf23 rfl) ?_
    refine wpL_q (U := NoB) rfl (q_loadBlk rfl rfl Try.isAgg23 (hS136.blk 0 rfl) rfl (fun h => h)) ?_
    refine wpL_q (U := NoB) rfl (q_lenRd rfl Try.underlying23 rfl (hS136.rowl 2 rfl)) ?_
    refine wpL_q (U := NoB) rfl (q_gtr rfl rfl rfl) ?_
    exact ⟨a136_1, a136_2, a136_3, a136_4, a136_6, a136_9, a136_57, a136_58, a136_59, rfl, rfl⟩
  rintro f137 _ ⟨a137_1, a137_2, a137_3, a137_4, a137_6, a137_9, a137_57, a137_58, a137_59, a137_130, rfl⟩
  clear a136_1 a136_2 a136_3 a136_4 a136_57 a136_58 a136_59 a136_6 a136_9
  refine wpF_condP a137_130 (fun h130 => ?t145) (fun h130 => ?e145)
  case e145 =>
    refine wpF_skip ?_
    refine wpF_cut (fun f H => f 1 = PT g1 0 ∧ f 2 = PT g4 0 ∧ f 3 = PT g7 0 ∧ f 4 = r11 ∧ f 6 = PT g26 0 ∧ f 9 = PT g75 0 ∧ f 57 = vN ∧ f 58 = I ((a.Nodes.length : Int)) ∧ f 59 = I ((k : Int) + 1) ∧ H136 = H) ?_ ?_
    · refine wpF_region ?_
      refine wpL_q (U := NoB) rfl (q_add rfl a137_59 rfl (by constructor <;> omega)) ?_
      refine wpL_q (U := NoB) rfl (q_move (v := I ((k : Int) + 1)) rfl rfl) ?_
      exact ⟨a137_1, a137_2, a137_3, a137_4, a137_6, a137_9, a137_57, a137_58, rfl, rfl⟩
    rintro f144 _ ⟨a144_1, a144_2, a144_3, a144_4, a144_6, a144_9, a144_57, a144_58, a144_59, rfl⟩
    clear a137_1 a137_130 a137_2 a137_3 a137_4 a137_57 a137_58 a137_59 a137_6 a137_9
    refine ⟨_, ?_, k + 1, vN2, v130, rfl, (by omega), (by omega), a144_1, a144_2, a144_3, a144_4, a144_6, a144_9, a144_57, a144_58, (Eq.trans a144_59 (congrArg I (by omega))), (St.drop (show St H0 NoB (fun b => S b ∧ b < H0.size) [rowE 37 vN2 ((turnTo a (k + 1)).Nodes : List Node), rowE 3 v130 ((turnTo a (k + 1)).To : List Int), blkE g75 (.cells #[vD, vN, vH, vN2, v130] 57), rowE 43 vo (a.Decls.map declA : List Decl), blkE g26 (.cells #[vo, (Value.slice none 0 0), (Value.slice none 0 0)] 26), blkE g15 (.cells #[I (((sortsF a)).1), I (((sortsF a)).2)] 28), rdE r11 (sorts a), blkE g7 (.cells #[I (0), I (0)] 28), blkE g4 (.cells #[(Value.slice none 0 0), (Value.slice none 0 0), (Value.slice none 0 0)] 26), blkE g1 (.cells #[vD, vN, vH] 26), rdE vD a.Decls, rdE vN a.Nodes, rdE vH a.Hold] H136 from ((hS136.front 1 rfl).front 2 rfl)) (sk (sk (sk (sk (sk (sk (sk (sk (sk (sk (sk (sk (sk (List.Sublist.slnil)))))))))))))))⟩
    omega
  refine wpF_seq ?_
  refine wpF_cut (fun f H => f 2 = PT g4 0 ∧ f 3 = PT g7 0 ∧ St H0 NoB (fun b => S b ∧ b < H0.size) [blkE g7 (.cells #[I (10), I (0)] 28), blkE g4 (.cells #[(Value.slice none 0 0), (Value.slice none 0 0), (Value.slice none 0 0)] 26), blkE g75 (.cells #[vD, vN, vH, vN2, v130] 57), rowE 3 v130 ((turnTo a (k + 1)).To : List Int), rowE 37 vN2 ((turnTo a (k + 1)).Nodes : List Node), rowE 43 vo (a.Decls.map declA : List Decl), blkE g26 (.cells #[vo, (Value.slice none 0 0), (Value.slice none 0 0)] 26), blkE g15 (.cells #[I (((sortsF a)).1), I (((sortsF a)).2)] 28), blkE g1 (.cells #[vD, vN, vH] 26), rdE vD a.Decls, rdE vN a.Nodes, rdE vH a.Hold] H) ?_ ?_
  · refine wpF_region ?_
    refine wpL_q (U := NoB) rfl (q_build (v := Value.agg #[(Value.slice none 0 0), (Value.slice none 0 0), (Value.slice none 0 0)]) rfl par0 (fun w => by kernel_rfl)) ?_
    refine wpL_q (U := NoB) rfl (q_build (v := Value.agg #[I (10), I (0)]) rfl (par1 (v0 := I (10)) rfl) (fun w => by kernel_rfl)) ?_
    refine wpL_o rfl ?_
    refine e_storeBlkA (cs' := #[(Value.slice none 0 0), (Value.slice none 0 0), (Value.slice none 0 0)]) rfl a137_2 rfl Try.sizeOf26 rfl rfl (List.forall_mem_cons.2 ⟨rfl, List.forall_mem_cons.2 ⟨rfl, List.forall_mem_cons.2 ⟨rfl, List.forall_mem_nil _⟩⟩⟩) (hS136.front 8 rfl) (fun H139 hS140 hxx => ?_)
    replace hS140 : St H0 NoB (fun b => S b ∧ b < H0.size) [blkE g4 (.cells #[(Value.slice none 0 0), (Value.slice none 0 0), (Value.slice none 0 0)] 26), blkE g75 (.cells #[vD, vN, vH, vN2, v130] 57), rowE 3 v130 ((turnTo a (k + 1)).To : List Int), rowE 37 vN2 ((turnTo a (k + 1)).Nodes : List Node), rowE 43 vo (a.Decls.map declA : List Decl), blkE g26 (.cells #[vo, (Value.slice none 0 0), (Value.slice none 0 0)] 26), blkE g15 (.cells #[I (((sortsF a)).1), I (((sortsF a)).2)] 28), rdE r11 (sorts a), blkE g7 (.cells #[I (0), I (0)] 28), blkE g1 (.cells #[vD, vN, vH] 26), rdE vD a.Decls, rdE vN a.Nodes, rdE vH a.Hold] H139 := hS140
    refine wpL_o rfl ?_
    refine e_storeBlkA (cs' := #[I (10), I (0)]) rfl a137_3 rfl Try.sizeOf28 rfl rfl (List.forall_mem_cons.2 ⟨rfl, List.forall_mem_cons.2 ⟨rfl, List.forall_mem_nil _⟩⟩) (hS140.front 8 rfl) (fun H141 hS142 hxx => ?_)
    replace hS142 : St H0 NoB (fun b => S b ∧ b < H0.size) [blkE g7 (.cells #[I (10), I (0)] 28), blkE g4 (.cells #[(Value.slice none 0 0), (Value.slice none 0 0), (Value.slice none 0 0)] 26), blkE g75 (.cells #[vD, vN, vH, vN2, v130] 57), rowE 3 v130 ((turnTo a (k + 1)).To : List Int), rowE 37 vN2 ((turnTo a (k + 1)).Nodes : List Node), rowE 43 vo (a.Decls.map declA : List Decl), blkE g26 (.cells #[vo, (Value.slice none 0 0), (Value.slice none 0 0)] 26), blkE g15 (.cells #[I (((sortsF a)).1), I (((sortsF a)).2)] 28), rdE r11 (sorts a), blkE g1 (.cells #[vD, vN, vH] 26), rdE vD a.Decls, rdE vN a.Nodes, rdE vH a.Hold] H141 := hS142
    exact ⟨a137_2, a137_3, (hS142.drop (sk (sk (sk (sk (sk (sk (sk (sk (sn (sk (sk (sk (sk (List.Sublist.slnil)))))))))))))))⟩
  rintro f143 H143 ⟨a143_2, a143_3, hS143⟩
  clear a137_1 a137_130 a137_2 a137_3 a137_4 a137_57 a137_58 a137_59 a137_6 a137_9
  refine wpF_ret ?_
  refine ⟨_, resC a143_2 (loadV_blkA Try.isAgg26 Try.sizeOf26 rfl (hS143.blk 1 rfl)) (resC a143_3 (loadV_blkA Try.isAgg28 Try.sizeOf28 rfl (hS143.blk 0 rfl)) (resN)), hS143.frame, ?_⟩
  show ∃ w0_ w1_ w2_, (Value.tuple #[Value.agg #[(Value.slice none 0 0), (Value.slice none 0 0), (Value.slice none 0 0)], Value.agg #[I (10), I (0)]]) = Value.tuple #[Value.agg #[w0_, w1_, w2_], Value.agg #[I (doF a).1, I (doF a).2]] ∧ Rd (fun b => S b ∧ b < H0.size) H143 w0_ (doA a).Decls ∧ Rd (fun b => S b ∧ b < H0.size) H143 w1_ (doA a).Nodes ∧ Rd (fun b => S b ∧ b < H0.size) H143 w2_ (doA a).Hold
  have hq_ : doF a = _ := doF_much h25 (k := k + 1) (by omega) h130
  have hd_ := doA_bad (a := a) (by rw [hq_]; exact (by decide : (10 : Int) ≠ 0))
  exact ⟨_, _, _, by rw [hq_], by rw [hd_]; exact rdNil, by rw [hd_]; exact rdNil, by rw [hd_]; exact rdNil⟩

end Go.Um
