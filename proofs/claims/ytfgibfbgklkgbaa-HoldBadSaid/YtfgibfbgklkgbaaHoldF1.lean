import Derived.Test.YtfgibfbgklkgbaaProg
import Derived.Test.YtfgibfbgklkgbaaHoldC3
import Derived.Test.YtfgibfbgklkgbaaMostL2
import Derived.Test.YtfgibfbgklkgbaaLoopN1
import Derived.Test.YtfgibfbgklkgbaaHoldFact
import Derived.Test.YtfgibfbgklkgbaaUmSub
namespace Go.Um
open Go.Proofs
open GoT (sz ag rdc)
open KeyT (kv)



set_option maxHeartbeats 1000000 in
set_option maxRecDepth 100000 in
theorem holdFact {H0 : Heap}   : CallsH Try.prog 42 #[] H0 (fun rv_ H' => Ext NoB H0 H' ∧ rv_ = B true) := by
  have hS0 : St H0 NoB NoB [] H0 := St.start (fun _ h => h.elim)
  refine callsH_of_wpF (args := []) (rs := [.tmp 0]) Try.func42 rfl Try.ntmps42 Try.results42 (by kernel_rfl) (Nat.le_of_ble_eq_true rfl) ?_
  generalize argF [] = f0 at *
  refine wpF_seq ?_
  refine wpF_cut (fun f H => H0 = H) ?_ ?_
  · refine wpF_region ?_
    refine wpL_q (U := NoB) rfl (q_assign (v := B (false)) rfl rfl) ?_
    exact rfl
  rintro f1 _ rfl
  refine wpF_seq ?_
  refine wpF_cut (fun f H => ∃ (v2 : Value), ∃ (g5 : Nat), f 1 = PT g5 0 ∧ St H0 NoB NoB [blkE g5 (.cells #[v2, I (1), I (3)] 34), rowE 3 v2 ([1] : List Int)] H) ?_ ?_
  · refine wpF_region ?_
    refine wpL_o rfl ?_
    refine e_buildSlice (vs := [I (1)]) (xs := ([1] : List Int)) rfl Try.underlying32 Try.zeroValue3 rfl Try.sizeOf3 (par1 (v0 := I (1)) rfl) rfl hS0 (RdVs.cons (Rd.int.2 ⟨rfl, by constructor <;> omega⟩) (RdVs.nil)) (by decide) (by decide) (fun v2 H3 hS4 hxx hvv2 => ?_)
    replace hS4 : St H0 NoB NoB [rowE 3 v2 ([1] : List Int)] H3 := hS4
    refine wpL_q (U := NoB) rfl (q_build (v := Value.agg #[v2, I (1), I (3)]) rfl (par3 (v0 := v2) (v1 := I (1)) (v2 := I (3)) rfl rfl rfl) ((hS4.rowl 0 rfl).slc (fun zz0 => ∀ w, (Instr.build 34 #[(0, zz0), (1, I (1)), (2, I (3))]).run Try.prog w = .ok (Value.agg #[zz0, I (1), I (3)]) w) (fun a0 n0 c0 => (fun w => by kernel_rfl)))) ?_
    refine wpL_o rfl ?_
    refine e_alloc rfl Try.zeroValue34 hS4 (fun g5 H6 hS7 hxx => ?_)
    replace hS7 : St H0 NoB NoB [blkE g5 (.cells #[(Value.slice none 0 0), I (0), I (0)] 34), rowE 3 v2 ([1] : List Int)] H6 := hS7
    refine wpL_o rfl ?_
    refine e_storeBlkA (cs' := #[v2, I (1), I (3)]) rfl rfl rfl Try.sizeOf34 rfl rfl (List.forall_mem_cons.2 ⟨(oneCell_rdL (hS7.rowl 1 rfl)), List.forall_mem_cons.2 ⟨rfl, List.forall_mem_cons.2 ⟨rfl, List.forall_mem_nil _⟩⟩⟩) hS7 (fun H8 hS9 hxx => ?_)
    replace hS9 : St H0 NoB NoB [blkE g5 (.cells #[v2, I (1), I (3)] 34), rowE 3 v2 ([1] : List Int)] H8 := hS9
    exact ⟨v2, g5, rfl, hS9⟩
  rintro f10 H10 ⟨v2, g5, a10_1, hS10⟩
  refine wpF_seq ?_
  refine wpF_cut (fun f H => ∃ (v11 : Value), ∃ (g14 : Nat), f 1 = PT g5 0 ∧ f 2 = PT g14 0 ∧ St H0 NoB NoB [blkE g14 (.cells #[v11, I (1), I (2)] 34), rowE 3 v11 ([1] : List Int), blkE g5 (.cells #[v2, I (1), I (3)] 34), rowE 3 v2 ([1] : List Int)] H) ?_ ?_
  · refine wpF_region ?_
    refine wpL_o rfl ?_
    refine e_buildSlice (vs := [I (1)]) (xs := ([1] : List Int)) rfl Try.underlying32 Try.zeroValue3 rfl Try.sizeOf3 (par1 (v0 := I (1)) rfl) rfl hS10 (RdVs.cons (Rd.int.2 ⟨rfl, by constructor <;> omega⟩) (RdVs.nil)) (by decide) (by decide) (fun v11 H12 hS13 hxx hvv11 => ?_)
    replace hS13 : St H0 NoB NoB [rowE 3 v11 ([1] : List Int), blkE g5 (.cells #[v2, I (1), I (3)] 34), rowE 3 v2 ([1] : List Int)] H12 := hS13
    refine wpL_q (U := NoB) rfl (q_build (v := Value.agg #[v11, I (1), I (2)]) rfl (par3 (v0 := v11) (v1 := I (1)) (v2 := I (2)) rfl rfl rfl) ((hS13.rowl 0 rfl).slc (fun zz0 => ∀ w, (Instr.build 34 #[(0, zz0), (1, I (1)), (2, I (2))]).run Try.prog w = .ok (Value.agg #[zz0, I (1), I (2)]) w) (fun a0 n0 c0 => (fun w => by kernel_rfl)))) ?_
    refine wpL_o rfl ?_
    refine e_alloc rfl Try.zeroValue34 hS13 (fun g14 H15 hS16 hxx => ?_)
    replace hS16 : St H0 NoB NoB [blkE g14 (.cells #[(Value.slice none 0 0), I (0), I (0)] 34), rowE 3 v11 ([1] : List Int), blkE g5 (.cells #[v2, I (1), I (3)] 34), rowE 3 v2 ([1] : List Int)] H15 := hS16
    refine wpL_o rfl ?_
    refine e_storeBlkA (cs' := #[v11, I (1), I (2)]) rfl rfl rfl Try.sizeOf34 rfl rfl (List.forall_mem_cons.2 ⟨(oneCell_rdL (hS16.rowl 1 rfl)), List.forall_mem_cons.2 ⟨rfl, List.forall_mem_cons.2 ⟨rfl, List.forall_mem_nil _⟩⟩⟩) hS16 (fun H17 hS18 hxx => ?_)
    replace hS18 : St H0 NoB NoB [blkE g14 (.cells #[v11, I (1), I (2)] 34), rowE 3 v11 ([1] : List Int), blkE g5 (.cells #[v2, I (1), I (3)] 34), rowE 3 v2 ([1] : List Int)] H17 := hS18
    exact ⟨v11, g14, a10_1, rfl, hS18⟩
  rintro f19 H19 ⟨v11, g14, a19_1, a19_2, hS19⟩
  clear a10_1
  refine wpF_seq ?_
  refine wpF_cut (fun f H => ∃ (g20o8 : Nat), f 1 = PT g5 0 ∧ f 2 = PT g14 0 ∧ f 3 = B (true) ∧ f 5 = PT g20o8 0 ∧ St H0 NoB NoB [blkE g20o8 (.cells #[I (0), I (0)] 27), rdE v2 ([1] : List Int), blkE g14 (.cells #[v11, I (1), I (2)] 34), rowE 3 v11 ([1] : List Int), blkE g5 (.cells #[v2, I (1), I (3)] 34)] H) ?_ ?_
  · refine wpF_drawn [none, none, none, none, none, none, none, none, none, none, none, some 0] [[], [], [], [], [], [], [], [], [], [], [], []] (fun l b => match l with | 0 => True | _ => False) (by kernel_rfl) (by kernel_rfl) ?_
    refine wpR_q 1 (by kernel_rfl) rfl (quietAt rfl rfl (q_loadBlkA rfl a19_1 Try.isAgg34 Try.sizeOf34 rfl (hS19.blk 2 rfl) (labU_not [] rfl (List.forall_mem_nil _)))) ?_
    refine wpR_n [0, 2, 8] (by kernel_rfl) ?_
    refine List.forall_mem_cons.2 ⟨?_, List.forall_mem_cons.2 ⟨?_, List.forall_mem_cons.2 ⟨?_, List.forall_mem_nil _⟩⟩⟩
    · refine exE rfl rfl ?_
      refine e_call rfl Try.call66 arr0 (count_L (S := SL NoB [blkE g14 (.cells #[v11, I (1), I (2)] 34), rowE 3 v11 ([1] : List Int), blkE g5 (.cells #[v2, I (1), I (3)] 34), rowE 3 v2 ([1] : List Int)])) ?_
      rintro _ H20o0 ⟨hxx, r20o0, r20o0x2, r20o0x3, r20o0x4, r20o0x5, rfl, hrr20o0, hrr20o0x2, hrr20o0x3, hrr20o0x4, hrr20o0x5⟩
      have hS20o0 : St H0 NoB NoB [rdE r20o0 countL.Low, rdE r20o0x2 countL.High, rdE r20o0x3 countL.Start, rdE r20o0x4 countL.Jumps, rdE r20o0x5 countL.Bad, blkE g14 (.cells #[v11, I (1), I (2)] 34), rowE 3 v11 ([1] : List Int), blkE g5 (.cells #[v2, I (1), I (3)] 34), rowE 3 v2 ([1] : List Int)] H20o0 := ((((((hS19.ext hxx).rd (hrr20o0x5.sub fun b hb => ⟨hb, SL.lt hS19 hb⟩)).rd (hrr20o0x4.sub fun b hb => ⟨(SL_rd hb), SL.lt hS19 (SL_rd hb)⟩)).rd (hrr20o0x3.sub fun b hb => ⟨(SL_rd (SL_rd hb)), SL.lt hS19 (SL_rd (SL_rd hb))⟩)).rd (hrr20o0x2.sub fun b hb => ⟨(SL_rd (SL_rd (SL_rd hb))), SL.lt hS19 (SL_rd (SL_rd (SL_rd hb)))⟩)).rd (hrr20o0.sub fun b hb => ⟨(SL_rd (SL_rd (SL_rd (SL_rd hb)))), SL.lt hS19 (SL_rd (SL_rd (SL_rd (SL_rd hb))))⟩))
      refine ⟨Ext.mono hxx (fun _ h => h.elim), ?_⟩
      refine wpR_n [2, 8] (by kernel_rfl) ?_
      refine List.forall_mem_cons.2 ⟨?_, List.forall_mem_cons.2 ⟨?_, List.forall_mem_nil _⟩⟩
      · have hS20o2 : St H0 NoB NoB [rdE v2 ([1] : List Int), rdE r20o0 countL.Low, rdE r20o0x2 countL.High, rdE r20o0x3 countL.Start, rdE r20o0x4 countL.Jumps, rdE r20o0x5 countL.Bad, blkE g14 (.cells #[v11, I (1), I (2)] 34), rowE 3 v11 ([1] : List Int), blkE g5 (.cells #[v2, I (1), I (3)] 34)] H20o0 := St.fin (hS20o0.front 8 rfl)
        refine exE rfl rfl ?_
        refine e_buildSlice (vs := [Value.agg #[v2, I (1), I (3)]]) (xs := ([(LRow.mk ([1]) 1 3)] : List LRow)) rfl Try.underlying22 Try.zeroValue34 rfl Try.sizeOf34 (par1 (v0 := Value.agg #[v2, I (1), I (3)]) rfl) rfl hS20o2 (RdVs.cons (Rd.lRow.2 ⟨_, rfl, (hS20o2.rdS 0 rfl), (by first | assumption | (constructor <;> (dsimp only; omega)) | (constructor <;> omega)), (by first | assumption | (constructor <;> (dsimp only; omega)) | (constructor <;> omega))⟩) (RdVs.nil)) (by decide) (by decide) (fun v20o2 H20o2 hS20o2x2 hxx hvv20o2 => ?_)
        replace hS20o2x2 : St H0 NoB NoB [rowE 34 v20o2 ([(LRow.mk ([1]) 1 3)] : List LRow), rdE v2 ([1] : List Int), rdE r20o0 countL.Low, rdE r20o0x2 countL.High, rdE r20o0x3 countL.Start, rdE r20o0x4 countL.Jumps, rdE r20o0x5 countL.Bad, blkE g14 (.cells #[v11, I (1), I (2)] 34), rowE 3 v11 ([1] : List Int), blkE g5 (.cells #[v2, I (1), I (3)] 34)] H20o2 := hS20o2x2
        refine ⟨Ext.mono hxx (fun _ h => h.elim), ?_⟩
        refine wpR_n [3, 8] (by kernel_rfl) ?_
        refine List.forall_mem_cons.2 ⟨?_, List.forall_mem_cons.2 ⟨?_, List.forall_mem_nil _⟩⟩
        · have hS20o3 : St H0 NoB NoB [rdE v20o2 ([(LRow.mk ([1]) 1 3)] : List LRow), rdE v2 ([1] : List Int), rdE r20o0 countL.Low, rdE r20o0x2 countL.High, rdE r20o0x3 countL.Start, rdE r20o0x4 countL.Jumps, rdE r20o0x5 countL.Bad, blkE g14 (.cells #[v11, I (1), I (2)] 34), rowE 3 v11 ([1] : List Int), blkE g5 (.cells #[v2, I (1), I (3)] 34)] H20o2 := St.fin hS20o2x2
          refine exE rfl rfl ?_
          refine e_call rfl Try.call21 (arr2 (v0 := Value.agg #[r20o0, r20o0x2, r20o0x3, r20o0x4, r20o0x5]) (v1 := v20o2) rfl rfl) ((by have h__ := Kept_L r20o0 r20o0x2 r20o0x3 r20o0x4 r20o0x5 v20o2 countL ([(LRow.mk ([1]) 1 3)]) (hS20o3.rdS 2 rfl) (hS20o3.rdS 3 rfl) (hS20o3.rdS 4 rfl) (hS20o3.rdS 5 rfl) (hS20o3.rdS 6 rfl) (hS20o3.rdS 0 rfl) ; rw [count_kept.1, count_kept.2.1, count_kept.2.2] at h__; exact h__)) ?_
          rintro _ H20o3 ⟨hxx, r20o3, rfl, hrr20o3⟩
          have hS20o3x2 : St H0 NoB NoB [rdE r20o3 ([] : List Int), rdE v20o2 ([(LRow.mk ([1]) 1 3)] : List LRow), rdE v2 ([1] : List Int), rdE r20o0 countL.Low, rdE r20o0x2 countL.High, rdE r20o0x3 countL.Start, rdE r20o0x4 countL.Jumps, rdE r20o0x5 countL.Bad, blkE g14 (.cells #[v11, I (1), I (2)] 34), rowE 3 v11 ([1] : List Int), blkE g5 (.cells #[v2, I (1), I (3)] 34)] H20o3 := hS20o3.res hxx hrr20o3
          refine ⟨Ext.mono hxx (fun _ h => h.elim), ?_⟩
          refine wpR_q 4 (by kernel_rfl) rfl (quietAt rfl rfl (q_move (v := Value.tuple #[B (true), r20o3, Value.agg #[I (0), I (0)]]) rfl rfl)) ?_
          refine wpR_q 5 (by kernel_rfl) rfl (quietAt rfl rfl (q_extract (vs := #[B (true), r20o3, Value.agg #[I (0), I (0)]]) (v := B (true)) rfl rfl rfl)) ?_
          refine wpR_q 6 (by kernel_rfl) rfl (quietAt rfl rfl (q_extract (vs := #[B (true), r20o3, Value.agg #[I (0), I (0)]]) (v := r20o3) rfl rfl rfl)) ?_
          refine wpR_q 7 (by kernel_rfl) rfl (quietAt rfl rfl (q_extract (vs := #[B (true), r20o3, Value.agg #[I (0), I (0)]]) (v := Value.agg #[I (0), I (0)]) rfl rfl rfl)) ?_
          refine wpR_n [8] (by kernel_rfl) ?_
          refine List.forall_mem_cons.2 ⟨?_, List.forall_mem_nil _⟩
          refine exE rfl rfl ?_
          refine e_alloc rfl Try.zeroValue27 hS20o3x2 (fun g20o8 H20o8 hS20o8 hxx => ?_)
          replace hS20o8 : St H0 NoB NoB [blkE g20o8 (.cells #[I (0), I (0)] 27), rdE r20o3 ([] : List Int), rdE v20o2 ([(LRow.mk ([1]) 1 3)] : List LRow), rdE v2 ([1] : List Int), rdE r20o0 countL.Low, rdE r20o0x2 countL.High, rdE r20o0x3 countL.Start, rdE r20o0x4 countL.Jumps, rdE r20o0x5 countL.Bad, blkE g14 (.cells #[v11, I (1), I (2)] 34), rowE 3 v11 ([1] : List Int), blkE g5 (.cells #[v2, I (1), I (3)] 34)] H20o8 := hS20o8
          refine ⟨Ext.mono hxx (fun _ h => h.elim), ?_⟩
          refine wpR_q 9 (by kernel_rfl) rfl (quietAt rfl rfl (q_assign (v := B (true)) rfl rfl)) ?_
          refine wpR_q 10 (by kernel_rfl) rfl (quietAt rfl rfl (q_assign (v := r20o3) rfl rfl)) ?_
          refine wpR_n [11] (by kernel_rfl) ?_
          refine List.forall_mem_cons.2 ⟨?_, List.forall_mem_nil _⟩
          refine exE rfl rfl ?_
          refine e_storeBlkA (cs' := #[I (0), I (0)]) rfl rfl rfl Try.sizeOf27 rfl rfl (List.forall_mem_cons.2 ⟨rfl, List.forall_mem_cons.2 ⟨rfl, List.forall_mem_nil _⟩⟩) hS20o8 (fun H20o11 hS20o11 hxx => ?_)
          replace hS20o11 : St H0 NoB NoB [blkE g20o8 (.cells #[I (0), I (0)] 27), rdE r20o3 ([] : List Int), rdE v20o2 ([(LRow.mk ([1]) 1 3)] : List LRow), rdE v2 ([1] : List Int), rdE r20o0 countL.Low, rdE r20o0x2 countL.High, rdE r20o0x3 countL.Start, rdE r20o0x4 countL.Jumps, rdE r20o0x5 countL.Bad, blkE g14 (.cells #[v11, I (1), I (2)] 34), rowE 3 v11 ([1] : List Int), blkE g5 (.cells #[v2, I (1), I (3)] 34)] H20o11 := hS20o11
          refine ⟨Ext.mono hxx (labS_of 0 rfl (fun _ _ => trivial)), ?_⟩
          refine wpR_end (by kernel_rfl) ?_
          exact ⟨g20o8, a19_1, a19_2, rfl, rfl, (hS20o11.drop (sk (sn (sn (sk (sn (sn (sn (sn (sn (sk (sk (sk (List.Sublist.slnil))))))))))))))⟩
        · refine exE rfl rfl ?_
          refine e_alloc rfl Try.zeroValue27 hS20o2x2 (fun g20o8 H20o8 hS20o8 hxx => ?_)
          replace hS20o8 : St H0 NoB NoB [blkE g20o8 (.cells #[I (0), I (0)] 27), rowE 34 v20o2 ([(LRow.mk ([1]) 1 3)] : List LRow), rdE v2 ([1] : List Int), rdE r20o0 countL.Low, rdE r20o0x2 countL.High, rdE r20o0x3 countL.Start, rdE r20o0x4 countL.Jumps, rdE r20o0x5 countL.Bad, blkE g14 (.cells #[v11, I (1), I (2)] 34), rowE 3 v11 ([1] : List Int), blkE g5 (.cells #[v2, I (1), I (3)] 34)] H20o8 := hS20o8
          refine ⟨Ext.mono hxx (fun _ h => h.elim), ?_⟩
          refine wpR_n [3] (by kernel_rfl) ?_
          refine List.forall_mem_cons.2 ⟨?_, List.forall_mem_nil _⟩
          have hS20o3 : St H0 NoB NoB [rdE v20o2 ([(LRow.mk ([1]) 1 3)] : List LRow), blkE g20o8 (.cells #[I (0), I (0)] 27), rdE v2 ([1] : List Int), rdE r20o0 countL.Low, rdE r20o0x2 countL.High, rdE r20o0x3 countL.Start, rdE r20o0x4 countL.Jumps, rdE r20o0x5 countL.Bad, blkE g14 (.cells #[v11, I (1), I (2)] 34), rowE 3 v11 ([1] : List Int), blkE g5 (.cells #[v2, I (1), I (3)] 34)] H20o8 := St.fin (hS20o8.front 1 rfl)
          refine exE rfl rfl ?_
          refine e_call rfl Try.call21 (arr2 (v0 := Value.agg #[r20o0, r20o0x2, r20o0x3, r20o0x4, r20o0x5]) (v1 := v20o2) rfl rfl) ((by have h__ := Kept_L r20o0 r20o0x2 r20o0x3 r20o0x4 r20o0x5 v20o2 countL ([(LRow.mk ([1]) 1 3)]) (hS20o3.rdS 3 rfl) (hS20o3.rdS 4 rfl) (hS20o3.rdS 5 rfl) (hS20o3.rdS 6 rfl) (hS20o3.rdS 7 rfl) (hS20o3.rdS 0 rfl) ; rw [count_kept.1, count_kept.2.1, count_kept.2.2] at h__; exact h__)) ?_
          rintro _ H20o3 ⟨hxx, r20o3, rfl, hrr20o3⟩
          have hS20o3x2 : St H0 NoB NoB [rdE r20o3 ([] : List Int), rdE v20o2 ([(LRow.mk ([1]) 1 3)] : List LRow), blkE g20o8 (.cells #[I (0), I (0)] 27), rdE v2 ([1] : List Int), rdE r20o0 countL.Low, rdE r20o0x2 countL.High, rdE r20o0x3 countL.Start, rdE r20o0x4 countL.Jumps, rdE r20o0x5 countL.Bad, blkE g14 (.cells #[v11, I (1), I (2)] 34), rowE 3 v11 ([1] : List Int), blkE g5 (.cells #[v2, I (1), I (3)] 34)] H20o3 := hS20o3.res hxx hrr20o3
          refine ⟨Ext.mono hxx (fun _ h => h.elim), ?_⟩
          refine wpR_q 4 (by kernel_rfl) rfl (quietAt rfl rfl (q_move (v := Value.tuple #[B (true), r20o3, Value.agg #[I (0), I (0)]]) rfl rfl)) ?_
          refine wpR_q 5 (by kernel_rfl) rfl (quietAt rfl rfl (q_extract (vs := #[B (true), r20o3, Value.agg #[I (0), I (0)]]) (v := B (true)) rfl rfl rfl)) ?_
          refine wpR_q 6 (by kernel_rfl) rfl (quietAt rfl rfl (q_extract (vs := #[B (true), r20o3, Value.agg #[I (0), I (0)]]) (v := r20o3) rfl rfl rfl)) ?_
          refine wpR_q 7 (by kernel_rfl) rfl (quietAt rfl rfl (q_extract (vs := #[B (true), r20o3, Value.agg #[I (0), I (0)]]) (v := Value.agg #[I (0), I (0)]) rfl rfl rfl)) ?_
          refine wpR_q 9 (by kernel_rfl) rfl (quietAt rfl rfl (q_assign (v := B (true)) rfl rfl)) ?_
          refine wpR_q 10 (by kernel_rfl) rfl (quietAt rfl rfl (q_assign (v := r20o3) rfl rfl)) ?_
          refine wpR_n [11] (by kernel_rfl) ?_
          refine List.forall_mem_cons.2 ⟨?_, List.forall_mem_nil _⟩
          refine exE rfl rfl ?_
          refine e_storeBlkA (cs' := #[I (0), I (0)]) rfl rfl rfl Try.sizeOf27 rfl rfl (List.forall_mem_cons.2 ⟨rfl, List.forall_mem_cons.2 ⟨rfl, List.forall_mem_nil _⟩⟩) (hS20o3x2.front 2 rfl) (fun H20o11 hS20o11 hxx => ?_)
          replace hS20o11 : St H0 NoB NoB [blkE g20o8 (.cells #[I (0), I (0)] 27), rdE r20o3 ([] : List Int), rdE v20o2 ([(LRow.mk ([1]) 1 3)] : List LRow), rdE v2 ([1] : List Int), rdE r20o0 countL.Low, rdE r20o0x2 countL.High, rdE r20o0x3 countL.Start, rdE r20o0x4 countL.Jumps, rdE r20o0x5 countL.Bad, blkE g14 (.cells #[v11, I (1), I (2)] 34), rowE 3 v11 ([1] : List Int), blkE g5 (.cells #[v2, I (1), I (3)] 34)] H20o11 := hS20o11
          refine ⟨Ext.mono hxx (labS_of 0 rfl (fun _ _ => trivial)), ?_⟩
          refine wpR_end (by kernel_rfl) ?_
          exact ⟨g20o8, a19_1, a19_2, rfl, rfl, (hS20o11.drop (sk (sn (sn (sk (sn (sn (sn (sn (sn (sk (sk (sk (List.Sublist.slnil))))))))))))))⟩
      · refine exE rfl rfl ?_
        refine e_alloc rfl Try.zeroValue27 hS20o0 (fun g20o8 H20o8 hS20o8 hxx => ?_)
        replace hS20o8 : St H0 NoB NoB [blkE g20o8 (.cells #[I (0), I (0)] 27), rdE r20o0 countL.Low, rdE r20o0x2 countL.High, rdE r20o0x3 countL.Start, rdE r20o0x4 countL.Jumps, rdE r20o0x5 countL.Bad, blkE g14 (.cells #[v11, I (1), I (2)] 34), rowE 3 v11 ([1] : List Int), blkE g5 (.cells #[v2, I (1), I (3)] 34), rowE 3 v2 ([1] : List Int)] H20o8 := hS20o8
        refine ⟨Ext.mono hxx (fun _ h => h.elim), ?_⟩
        refine wpR_n [2] (by kernel_rfl) ?_
        refine List.forall_mem_cons.2 ⟨?_, List.forall_mem_nil _⟩
        have hS20o2 : St H0 NoB NoB [rdE v2 ([1] : List Int), blkE g20o8 (.cells #[I (0), I (0)] 27), rdE r20o0 countL.Low, rdE r20o0x2 countL.High, rdE r20o0x3 countL.Start, rdE r20o0x4 countL.Jumps, rdE r20o0x5 countL.Bad, blkE g14 (.cells #[v11, I (1), I (2)] 34), rowE 3 v11 ([1] : List Int), blkE g5 (.cells #[v2, I (1), I (3)] 34)] H20o8 := St.fin (hS20o8.front 9 rfl)
        refine exE rfl rfl ?_
        refine e_buildSlice (vs := [Value.agg #[v2, I (1), I (3)]]) (xs := ([(LRow.mk ([1]) 1 3)] : List LRow)) rfl Try.underlying22 Try.zeroValue34 rfl Try.sizeOf34 (par1 (v0 := Value.agg #[v2, I (1), I (3)]) rfl) rfl hS20o2 (RdVs.cons (Rd.lRow.2 ⟨_, rfl, (hS20o2.rdS 0 rfl), (by first | assumption | (constructor <;> (dsimp only; omega)) | (constructor <;> omega)), (by first | assumption | (constructor <;> (dsimp only; omega)) | (constructor <;> omega))⟩) (RdVs.nil)) (by decide) (by decide) (fun v20o2 H20o2 hS20o2x2 hxx hvv20o2 => ?_)
        replace hS20o2x2 : St H0 NoB NoB [rowE 34 v20o2 ([(LRow.mk ([1]) 1 3)] : List LRow), rdE v2 ([1] : List Int), blkE g20o8 (.cells #[I (0), I (0)] 27), rdE r20o0 countL.Low, rdE r20o0x2 countL.High, rdE r20o0x3 countL.Start, rdE r20o0x4 countL.Jumps, rdE r20o0x5 countL.Bad, blkE g14 (.cells #[v11, I (1), I (2)] 34), rowE 3 v11 ([1] : List Int), blkE g5 (.cells #[v2, I (1), I (3)] 34)] H20o2 := hS20o2x2
        refine ⟨Ext.mono hxx (fun _ h => h.elim), ?_⟩
        refine wpR_n [3] (by kernel_rfl) ?_
        refine List.forall_mem_cons.2 ⟨?_, List.forall_mem_nil _⟩
        have hS20o3 : St H0 NoB NoB [rdE v20o2 ([(LRow.mk ([1]) 1 3)] : List LRow), rdE v2 ([1] : List Int), blkE g20o8 (.cells #[I (0), I (0)] 27), rdE r20o0 countL.Low, rdE r20o0x2 countL.High, rdE r20o0x3 countL.Start, rdE r20o0x4 countL.Jumps, rdE r20o0x5 countL.Bad, blkE g14 (.cells #[v11, I (1), I (2)] 34), rowE 3 v11 ([1] : List Int), blkE g5 (.cells #[v2, I (1), I (3)] 34)] H20o2 := St.fin hS20o2x2
        refine exE rfl rfl ?_
        refine e_call rfl Try.call21 (arr2 (v0 := Value.agg #[r20o0, r20o0x2, r20o0x3, r20o0x4, r20o0x5]) (v1 := v20o2) rfl rfl) ((by have h__ := Kept_L r20o0 r20o0x2 r20o0x3 r20o0x4 r20o0x5 v20o2 countL ([(LRow.mk ([1]) 1 3)]) (hS20o3.rdS 3 rfl) (hS20o3.rdS 4 rfl) (hS20o3.rdS 5 rfl) (hS20o3.rdS 6 rfl) (hS20o3.rdS 7 rfl) (hS20o3.rdS 0 rfl) ; rw [count_kept.1, count_kept.2.1, count_kept.2.2] at h__; exact h__)) ?_
        rintro _ H20o3 ⟨hxx, r20o3, rfl, hrr20o3⟩
        have hS20o3x2 : St H0 NoB NoB [rdE r20o3 ([] : List Int), rdE v20o2 ([(LRow.mk ([1]) 1 3)] : List LRow), rdE v2 ([1] : List Int), blkE g20o8 (.cells #[I (0), I (0)] 27), rdE r20o0 countL.Low, rdE r20o0x2 countL.High, rdE r20o0x3 countL.Start, rdE r20o0x4 countL.Jumps, rdE r20o0x5 countL.Bad, blkE g14 (.cells #[v11, I (1), I (2)] 34), rowE 3 v11 ([1] : List Int), blkE g5 (.cells #[v2, I (1), I (3)] 34)] H20o3 := hS20o3.res hxx hrr20o3
        refine ⟨Ext.mono hxx (fun _ h => h.elim), ?_⟩
        refine wpR_q 4 (by kernel_rfl) rfl (quietAt rfl rfl (q_move (v := Value.tuple #[B (true), r20o3, Value.agg #[I (0), I (0)]]) rfl rfl)) ?_
        refine wpR_q 5 (by kernel_rfl) rfl (quietAt rfl rfl (q_extract (vs := #[B (true), r20o3, Value.agg #[I (0), I (0)]]) (v := B (true)) rfl rfl rfl)) ?_
        refine wpR_q 6 (by kernel_rfl) rfl (quietAt rfl rfl (q_extract (vs := #[B (true), r20o3, Value.agg #[I (0), I (0)]]) (v := r20o3) rfl rfl rfl)) ?_
        refine wpR_q 7 (by kernel_rfl) rfl (quietAt rfl rfl (q_extract (vs := #[B (true), r20o3, Value.agg #[I (0), I (0)]]) (v := Value.agg #[I (0), I (0)]) rfl rfl rfl)) ?_
        refine wpR_q 9 (by kernel_rfl) rfl (quietAt rfl rfl (q_assign (v := B (true)) rfl rfl)) ?_
        refine wpR_q 10 (by kernel_rfl) rfl (quietAt rfl rfl (q_assign (v := r20o3) rfl rfl)) ?_
        refine wpR_n [11] (by kernel_rfl) ?_
        refine List.forall_mem_cons.2 ⟨?_, List.forall_mem_nil _⟩
        refine exE rfl rfl ?_
        refine e_storeBlkA (cs' := #[I (0), I (0)]) rfl rfl rfl Try.sizeOf27 rfl rfl (List.forall_mem_cons.2 ⟨rfl, List.forall_mem_cons.2 ⟨rfl, List.forall_mem_nil _⟩⟩) (hS20o3x2.front 3 rfl) (fun H20o11 hS20o11 hxx => ?_)
        replace hS20o11 : St H0 NoB NoB [blkE g20o8 (.cells #[I (0), I (0)] 27), rdE r20o3 ([] : List Int), rdE v20o2 ([(LRow.mk ([1]) 1 3)] : List LRow), rdE v2 ([1] : List Int), rdE r20o0 countL.Low, rdE r20o0x2 countL.High, rdE r20o0x3 countL.Start, rdE r20o0x4 countL.Jumps, rdE r20o0x5 countL.Bad, blkE g14 (.cells #[v11, I (1), I (2)] 34), rowE 3 v11 ([1] : List Int), blkE g5 (.cells #[v2, I (1), I (3)] 34)] H20o11 := hS20o11
        refine ⟨Ext.mono hxx (labS_of 0 rfl (fun _ _ => trivial)), ?_⟩
        refine wpR_end (by kernel_rfl) ?_
        exact ⟨g20o8, a19_1, a19_2, rfl, rfl, (hS20o11.drop (sk (sn (sn (sk (sn (sn (sn (sn (sn (sk (sk (sk (List.Sublist.slnil))))))))))))))⟩
    · have hS20o2 : St H0 NoB NoB [rdE v2 ([1] : List Int), blkE g14 (.cells #[v11, I (1), I (2)] 34), rowE 3 v11 ([1] : List Int), blkE g5 (.cells #[v2, I (1), I (3)] 34)] H19 := St.fin (hS19.front 3 rfl)
      refine exE rfl rfl ?_
      refine e_buildSlice (vs := [Value.agg #[v2, I (1), I (3)]]) (xs := ([(LRow.mk ([1]) 1 3)] : List LRow)) rfl Try.underlying22 Try.zeroValue34 rfl Try.sizeOf34 (par1 (v0 := Value.agg #[v2, I (1), I (3)]) rfl) rfl hS20o2 (RdVs.cons (Rd.lRow.2 ⟨_, rfl, (hS20o2.rdS 0 rfl), (by first | assumption | (constructor <;> (dsimp only; omega)) | (constructor <;> omega)), (by first | assumption | (constructor <;> (dsimp only; omega)) | (constructor <;> omega))⟩) (RdVs.nil)) (by decide) (by decide) (fun v20o2 H20o2 hS20o2x2 hxx hvv20o2 => ?_)
      replace hS20o2x2 : St H0 NoB NoB [rowE 34 v20o2 ([(LRow.mk ([1]) 1 3)] : List LRow), rdE v2 ([1] : List Int), blkE g14 (.cells #[v11, I (1), I (2)] 34), rowE 3 v11 ([1] : List Int), blkE g5 (.cells #[v2, I (1), I (3)] 34)] H20o2 := hS20o2x2
      refine ⟨Ext.mono hxx (fun _ h => h.elim), ?_⟩
      refine wpR_n [0, 8] (by kernel_rfl) ?_
      refine List.forall_mem_cons.2 ⟨?_, List.forall_mem_cons.2 ⟨?_, List.forall_mem_nil _⟩⟩
      · refine exE rfl rfl ?_
        refine e_call rfl Try.call66 arr0 (count_L (S := SL NoB [rowE 34 v20o2 ([(LRow.mk ([1]) 1 3)] : List LRow), rdE v2 ([1] : List Int), blkE g14 (.cells #[v11, I (1), I (2)] 34), rowE 3 v11 ([1] : List Int), blkE g5 (.cells #[v2, I (1), I (3)] 34)])) ?_
        rintro _ H20o0 ⟨hxx, r20o0, r20o0x2, r20o0x3, r20o0x4, r20o0x5, rfl, hrr20o0, hrr20o0x2, hrr20o0x3, hrr20o0x4, hrr20o0x5⟩
        have hS20o0 : St H0 NoB NoB [rdE r20o0 countL.Low, rdE r20o0x2 countL.High, rdE r20o0x3 countL.Start, rdE r20o0x4 countL.Jumps, rdE r20o0x5 countL.Bad, rowE 34 v20o2 ([(LRow.mk ([1]) 1 3)] : List LRow), rdE v2 ([1] : List Int), blkE g14 (.cells #[v11, I (1), I (2)] 34), rowE 3 v11 ([1] : List Int), blkE g5 (.cells #[v2, I (1), I (3)] 34)] H20o0 := ((((((hS20o2x2.ext hxx).rd (hrr20o0x5.sub fun b hb => ⟨hb, SL.lt hS20o2x2 hb⟩)).rd (hrr20o0x4.sub fun b hb => ⟨(SL_rd hb), SL.lt hS20o2x2 (SL_rd hb)⟩)).rd (hrr20o0x3.sub fun b hb => ⟨(SL_rd (SL_rd hb)), SL.lt hS20o2x2 (SL_rd (SL_rd hb))⟩)).rd (hrr20o0x2.sub fun b hb => ⟨(SL_rd (SL_rd (SL_rd hb))), SL.lt hS20o2x2 (SL_rd (SL_rd (SL_rd hb)))⟩)).rd (hrr20o0.sub fun b hb => ⟨(SL_rd (SL_rd (SL_rd (SL_rd hb)))), SL.lt hS20o2x2 (SL_rd (SL_rd (SL_rd (SL_rd hb))))⟩))
        refine ⟨Ext.mono hxx (fun _ h => h.elim), ?_⟩
        refine wpR_n [3, 8] (by kernel_rfl) ?_
        refine List.forall_mem_cons.2 ⟨?_, List.forall_mem_cons.2 ⟨?_, List.forall_mem_nil _⟩⟩
        · have hS20o3 : St H0 NoB NoB [rdE v20o2 ([(LRow.mk ([1]) 1 3)] : List LRow), rdE r20o0 countL.Low, rdE r20o0x2 countL.High, rdE r20o0x3 countL.Start, rdE r20o0x4 countL.Jumps, rdE r20o0x5 countL.Bad, rdE v2 ([1] : List Int), blkE g14 (.cells #[v11, I (1), I (2)] 34), rowE 3 v11 ([1] : List Int), blkE g5 (.cells #[v2, I (1), I (3)] 34)] H20o0 := St.fin (hS20o0.front 5 rfl)
          refine exE rfl rfl ?_
          refine e_call rfl Try.call21 (arr2 (v0 := Value.agg #[r20o0, r20o0x2, r20o0x3, r20o0x4, r20o0x5]) (v1 := v20o2) rfl rfl) ((by have h__ := Kept_L r20o0 r20o0x2 r20o0x3 r20o0x4 r20o0x5 v20o2 countL ([(LRow.mk ([1]) 1 3)]) (hS20o3.rdS 1 rfl) (hS20o3.rdS 2 rfl) (hS20o3.rdS 3 rfl) (hS20o3.rdS 4 rfl) (hS20o3.rdS 5 rfl) (hS20o3.rdS 0 rfl) ; rw [count_kept.1, count_kept.2.1, count_kept.2.2] at h__; exact h__)) ?_
          rintro _ H20o3 ⟨hxx, r20o3, rfl, hrr20o3⟩
          have hS20o3x2 : St H0 NoB NoB [rdE r20o3 ([] : List Int), rdE v20o2 ([(LRow.mk ([1]) 1 3)] : List LRow), rdE r20o0 countL.Low, rdE r20o0x2 countL.High, rdE r20o0x3 countL.Start, rdE r20o0x4 countL.Jumps, rdE r20o0x5 countL.Bad, rdE v2 ([1] : List Int), blkE g14 (.cells #[v11, I (1), I (2)] 34), rowE 3 v11 ([1] : List Int), blkE g5 (.cells #[v2, I (1), I (3)] 34)] H20o3 := hS20o3.res hxx hrr20o3
          refine ⟨Ext.mono hxx (fun _ h => h.elim), ?_⟩
          refine wpR_q 4 (by kernel_rfl) rfl (quietAt rfl rfl (q_move (v := Value.tuple #[B (true), r20o3, Value.agg #[I (0), I (0)]]) rfl rfl)) ?_
          refine wpR_q 5 (by kernel_rfl) rfl (quietAt rfl rfl (q_extract (vs := #[B (true), r20o3, Value.agg #[I (0), I (0)]]) (v := B (true)) rfl rfl rfl)) ?_
          refine wpR_q 6 (by kernel_rfl) rfl (quietAt rfl rfl (q_extract (vs := #[B (true), r20o3, Value.agg #[I (0), I (0)]]) (v := r20o3) rfl rfl rfl)) ?_
          refine wpR_q 7 (by kernel_rfl) rfl (quietAt rfl rfl (q_extract (vs := #[B (true), r20o3, Value.agg #[I (0), I (0)]]) (v := Value.agg #[I (0), I (0)]) rfl rfl rfl)) ?_
          refine wpR_n [8] (by kernel_rfl) ?_
          refine List.forall_mem_cons.2 ⟨?_, List.forall_mem_nil _⟩
          refine exE rfl rfl ?_
          refine e_alloc rfl Try.zeroValue27 hS20o3x2 (fun g20o8 H20o8 hS20o8 hxx => ?_)
          replace hS20o8 : St H0 NoB NoB [blkE g20o8 (.cells #[I (0), I (0)] 27), rdE r20o3 ([] : List Int), rdE v20o2 ([(LRow.mk ([1]) 1 3)] : List LRow), rdE r20o0 countL.Low, rdE r20o0x2 countL.High, rdE r20o0x3 countL.Start, rdE r20o0x4 countL.Jumps, rdE r20o0x5 countL.Bad, rdE v2 ([1] : List Int), blkE g14 (.cells #[v11, I (1), I (2)] 34), rowE 3 v11 ([1] : List Int), blkE g5 (.cells #[v2, I (1), I (3)] 34)] H20o8 := hS20o8
          refine ⟨Ext.mono hxx (fun _ h => h.elim), ?_⟩
          refine wpR_q 9 (by kernel_rfl) rfl (quietAt rfl rfl (q_assign (v := B (true)) rfl rfl)) ?_
          refine wpR_q 10 (by kernel_rfl) rfl (quietAt rfl rfl (q_assign (v := r20o3) rfl rfl)) ?_
          refine wpR_n [11] (by kernel_rfl) ?_
          refine List.forall_mem_cons.2 ⟨?_, List.forall_mem_nil _⟩
          refine exE rfl rfl ?_
          refine e_storeBlkA (cs' := #[I (0), I (0)]) rfl rfl rfl Try.sizeOf27 rfl rfl (List.forall_mem_cons.2 ⟨rfl, List.forall_mem_cons.2 ⟨rfl, List.forall_mem_nil _⟩⟩) hS20o8 (fun H20o11 hS20o11 hxx => ?_)
          replace hS20o11 : St H0 NoB NoB [blkE g20o8 (.cells #[I (0), I (0)] 27), rdE r20o3 ([] : List Int), rdE v20o2 ([(LRow.mk ([1]) 1 3)] : List LRow), rdE r20o0 countL.Low, rdE r20o0x2 countL.High, rdE r20o0x3 countL.Start, rdE r20o0x4 countL.Jumps, rdE r20o0x5 countL.Bad, rdE v2 ([1] : List Int), blkE g14 (.cells #[v11, I (1), I (2)] 34), rowE 3 v11 ([1] : List Int), blkE g5 (.cells #[v2, I (1), I (3)] 34)] H20o11 := hS20o11
          refine ⟨Ext.mono hxx (labS_of 0 rfl (fun _ _ => trivial)), ?_⟩
          refine wpR_end (by kernel_rfl) ?_
          exact ⟨g20o8, a19_1, a19_2, rfl, rfl, (hS20o11.drop (sk (sn (sn (sn (sn (sn (sn (sn (sk (sk (sk (sk (List.Sublist.slnil))))))))))))))⟩
        · refine exE rfl rfl ?_
          refine e_alloc rfl Try.zeroValue27 hS20o0 (fun g20o8 H20o8 hS20o8 hxx => ?_)
          replace hS20o8 : St H0 NoB NoB [blkE g20o8 (.cells #[I (0), I (0)] 27), rdE r20o0 countL.Low, rdE r20o0x2 countL.High, rdE r20o0x3 countL.Start, rdE r20o0x4 countL.Jumps, rdE r20o0x5 countL.Bad, rowE 34 v20o2 ([(LRow.mk ([1]) 1 3)] : List LRow), rdE v2 ([1] : List Int), blkE g14 (.cells #[v11, I (1), I (2)] 34), rowE 3 v11 ([1] : List Int), blkE g5 (.cells #[v2, I (1), I (3)] 34)] H20o8 := hS20o8
          refine ⟨Ext.mono hxx (fun _ h => h.elim), ?_⟩
          refine wpR_n [3] (by kernel_rfl) ?_
          refine List.forall_mem_cons.2 ⟨?_, List.forall_mem_nil _⟩
          have hS20o3 : St H0 NoB NoB [rdE v20o2 ([(LRow.mk ([1]) 1 3)] : List LRow), blkE g20o8 (.cells #[I (0), I (0)] 27), rdE r20o0 countL.Low, rdE r20o0x2 countL.High, rdE r20o0x3 countL.Start, rdE r20o0x4 countL.Jumps, rdE r20o0x5 countL.Bad, rdE v2 ([1] : List Int), blkE g14 (.cells #[v11, I (1), I (2)] 34), rowE 3 v11 ([1] : List Int), blkE g5 (.cells #[v2, I (1), I (3)] 34)] H20o8 := St.fin (hS20o8.front 6 rfl)
          refine exE rfl rfl ?_
          refine e_call rfl Try.call21 (arr2 (v0 := Value.agg #[r20o0, r20o0x2, r20o0x3, r20o0x4, r20o0x5]) (v1 := v20o2) rfl rfl) ((by have h__ := Kept_L r20o0 r20o0x2 r20o0x3 r20o0x4 r20o0x5 v20o2 countL ([(LRow.mk ([1]) 1 3)]) (hS20o3.rdS 2 rfl) (hS20o3.rdS 3 rfl) (hS20o3.rdS 4 rfl) (hS20o3.rdS 5 rfl) (hS20o3.rdS 6 rfl) (hS20o3.rdS 0 rfl) ; rw [count_kept.1, count_kept.2.1, count_kept.2.2] at h__; exact h__)) ?_
          rintro _ H20o3 ⟨hxx, r20o3, rfl, hrr20o3⟩
          have hS20o3x2 : St H0 NoB NoB [rdE r20o3 ([] : List Int), rdE v20o2 ([(LRow.mk ([1]) 1 3)] : List LRow), blkE g20o8 (.cells #[I (0), I (0)] 27), rdE r20o0 countL.Low, rdE r20o0x2 countL.High, rdE r20o0x3 countL.Start, rdE r20o0x4 countL.Jumps, rdE r20o0x5 countL.Bad, rdE v2 ([1] : List Int), blkE g14 (.cells #[v11, I (1), I (2)] 34), rowE 3 v11 ([1] : List Int), blkE g5 (.cells #[v2, I (1), I (3)] 34)] H20o3 := hS20o3.res hxx hrr20o3
          refine ⟨Ext.mono hxx (fun _ h => h.elim), ?_⟩
          refine wpR_q 4 (by kernel_rfl) rfl (quietAt rfl rfl (q_move (v := Value.tuple #[B (true), r20o3, Value.agg #[I (0), I (0)]]) rfl rfl)) ?_
          refine wpR_q 5 (by kernel_rfl) rfl (quietAt rfl rfl (q_extract (vs := #[B (true), r20o3, Value.agg #[I (0), I (0)]]) (v := B (true)) rfl rfl rfl)) ?_
          refine wpR_q 6 (by kernel_rfl) rfl (quietAt rfl rfl (q_extract (vs := #[B (true), r20o3, Value.agg #[I (0), I (0)]]) (v := r20o3) rfl rfl rfl)) ?_
          refine wpR_q 7 (by kernel_rfl) rfl (quietAt rfl rfl (q_extract (vs := #[B (true), r20o3, Value.agg #[I (0), I (0)]]) (v := Value.agg #[I (0), I (0)]) rfl rfl rfl)) ?_
          refine wpR_q 9 (by kernel_rfl) rfl (quietAt rfl rfl (q_assign (v := B (true)) rfl rfl)) ?_
          refine wpR_q 10 (by kernel_rfl) rfl (quietAt rfl rfl (q_assign (v := r20o3) rfl rfl)) ?_
          refine wpR_n [11] (by kernel_rfl) ?_
          refine List.forall_mem_cons.2 ⟨?_, List.forall_mem_nil _⟩
          refine exE rfl rfl ?_
          refine e_storeBlkA (cs' := #[I (0), I (0)]) rfl rfl rfl Try.sizeOf27 rfl rfl (List.forall_mem_cons.2 ⟨rfl, List.forall_mem_cons.2 ⟨rfl, List.forall_mem_nil _⟩⟩) (hS20o3x2.front 2 rfl) (fun H20o11 hS20o11 hxx => ?_)
          replace hS20o11 : St H0 NoB NoB [blkE g20o8 (.cells #[I (0), I (0)] 27), rdE r20o3 ([] : List Int), rdE v20o2 ([(LRow.mk ([1]) 1 3)] : List LRow), rdE r20o0 countL.Low, rdE r20o0x2 countL.High, rdE r20o0x3 countL.Start, rdE r20o0x4 countL.Jumps, rdE r20o0x5 countL.Bad, rdE v2 ([1] : List Int), blkE g14 (.cells #[v11, I (1), I (2)] 34), rowE 3 v11 ([1] : List Int), blkE g5 (.cells #[v2, I (1), I (3)] 34)] H20o11 := hS20o11
          refine ⟨Ext.mono hxx (labS_of 0 rfl (fun _ _ => trivial)), ?_⟩
          refine wpR_end (by kernel_rfl) ?_
          exact ⟨g20o8, a19_1, a19_2, rfl, rfl, (hS20o11.drop (sk (sn (sn (sn (sn (sn (sn (sn (sk (sk (sk (sk (List.Sublist.slnil))))))))))))))⟩
      · refine exE rfl rfl ?_
        refine e_alloc rfl Try.zeroValue27 hS20o2x2 (fun g20o8 H20o8 hS20o8 hxx => ?_)
        replace hS20o8 : St H0 NoB NoB [blkE g20o8 (.cells #[I (0), I (0)] 27), rowE 34 v20o2 ([(LRow.mk ([1]) 1 3)] : List LRow), rdE v2 ([1] : List Int), blkE g14 (.cells #[v11, I (1), I (2)] 34), rowE 3 v11 ([1] : List Int), blkE g5 (.cells #[v2, I (1), I (3)] 34)] H20o8 := hS20o8
        refine ⟨Ext.mono hxx (fun _ h => h.elim), ?_⟩
        refine wpR_n [0] (by kernel_rfl) ?_
        refine List.forall_mem_cons.2 ⟨?_, List.forall_mem_nil _⟩
        refine exE rfl rfl ?_
        refine e_call rfl Try.call66 arr0 (count_L (S := SL NoB [blkE g20o8 (.cells #[I (0), I (0)] 27), rowE 34 v20o2 ([(LRow.mk ([1]) 1 3)] : List LRow), rdE v2 ([1] : List Int), blkE g14 (.cells #[v11, I (1), I (2)] 34), rowE 3 v11 ([1] : List Int), blkE g5 (.cells #[v2, I (1), I (3)] 34)])) ?_
        rintro _ H20o0 ⟨hxx, r20o0, r20o0x2, r20o0x3, r20o0x4, r20o0x5, rfl, hrr20o0, hrr20o0x2, hrr20o0x3, hrr20o0x4, hrr20o0x5⟩
        have hS20o0 : St H0 NoB NoB [rdE r20o0 countL.Low, rdE r20o0x2 countL.High, rdE r20o0x3 countL.Start, rdE r20o0x4 countL.Jumps, rdE r20o0x5 countL.Bad, blkE g20o8 (.cells #[I (0), I (0)] 27), rowE 34 v20o2 ([(LRow.mk ([1]) 1 3)] : List LRow), rdE v2 ([1] : List Int), blkE g14 (.cells #[v11, I (1), I (2)] 34), rowE 3 v11 ([1] : List Int), blkE g5 (.cells #[v2, I (1), I (3)] 34)] H20o0 := ((((((hS20o8.ext hxx).rd (hrr20o0x5.sub fun b hb => ⟨hb, SL.lt hS20o8 hb⟩)).rd (hrr20o0x4.sub fun b hb => ⟨(SL_rd hb), SL.lt hS20o8 (SL_rd hb)⟩)).rd (hrr20o0x3.sub fun b hb => ⟨(SL_rd (SL_rd hb)), SL.lt hS20o8 (SL_rd (SL_rd hb))⟩)).rd (hrr20o0x2.sub fun b hb => ⟨(SL_rd (SL_rd (SL_rd hb))), SL.lt hS20o8 (SL_rd (SL_rd (SL_rd hb)))⟩)).rd (hrr20o0.sub fun b hb => ⟨(SL_rd (SL_rd (SL_rd (SL_rd hb)))), SL.lt hS20o8 (SL_rd (SL_rd (SL_rd (SL_rd hb))))⟩))
        refine ⟨Ext.mono hxx (fun _ h => h.elim), ?_⟩
        refine wpR_n [3] (by kernel_rfl) ?_
        refine List.forall_mem_cons.2 ⟨?_, List.forall_mem_nil _⟩
        have hS20o3 : St H0 NoB NoB [rdE v20o2 ([(LRow.mk ([1]) 1 3)] : List LRow), rdE r20o0 countL.Low, rdE r20o0x2 countL.High, rdE r20o0x3 countL.Start, rdE r20o0x4 countL.Jumps, rdE r20o0x5 countL.Bad, blkE g20o8 (.cells #[I (0), I (0)] 27), rdE v2 ([1] : List Int), blkE g14 (.cells #[v11, I (1), I (2)] 34), rowE 3 v11 ([1] : List Int), blkE g5 (.cells #[v2, I (1), I (3)] 34)] H20o0 := St.fin (hS20o0.front 6 rfl)
        refine exE rfl rfl ?_
        refine e_call rfl Try.call21 (arr2 (v0 := Value.agg #[r20o0, r20o0x2, r20o0x3, r20o0x4, r20o0x5]) (v1 := v20o2) rfl rfl) ((by have h__ := Kept_L r20o0 r20o0x2 r20o0x3 r20o0x4 r20o0x5 v20o2 countL ([(LRow.mk ([1]) 1 3)]) (hS20o3.rdS 1 rfl) (hS20o3.rdS 2 rfl) (hS20o3.rdS 3 rfl) (hS20o3.rdS 4 rfl) (hS20o3.rdS 5 rfl) (hS20o3.rdS 0 rfl) ; rw [count_kept.1, count_kept.2.1, count_kept.2.2] at h__; exact h__)) ?_
        rintro _ H20o3 ⟨hxx, r20o3, rfl, hrr20o3⟩
        have hS20o3x2 : St H0 NoB NoB [rdE r20o3 ([] : List Int), rdE v20o2 ([(LRow.mk ([1]) 1 3)] : List LRow), rdE r20o0 countL.Low, rdE r20o0x2 countL.High, rdE r20o0x3 countL.Start, rdE r20o0x4 countL.Jumps, rdE r20o0x5 countL.Bad, blkE g20o8 (.cells #[I (0), I (0)] 27), rdE v2 ([1] : List Int), blkE g14 (.cells #[v11, I (1), I (2)] 34), rowE 3 v11 ([1] : List Int), blkE g5 (.cells #[v2, I (1), I (3)] 34)] H20o3 := hS20o3.res hxx hrr20o3
        refine ⟨Ext.mono hxx (fun _ h => h.elim), ?_⟩
        refine wpR_q 4 (by kernel_rfl) rfl (quietAt rfl rfl (q_move (v := Value.tuple #[B (true), r20o3, Value.agg #[I (0), I (0)]]) rfl rfl)) ?_
        refine wpR_q 5 (by kernel_rfl) rfl (quietAt rfl rfl (q_extract (vs := #[B (true), r20o3, Value.agg #[I (0), I (0)]]) (v := B (true)) rfl rfl rfl)) ?_
        refine wpR_q 6 (by kernel_rfl) rfl (quietAt rfl rfl (q_extract (vs := #[B (true), r20o3, Value.agg #[I (0), I (0)]]) (v := r20o3) rfl rfl rfl)) ?_
        refine wpR_q 7 (by kernel_rfl) rfl (quietAt rfl rfl (q_extract (vs := #[B (true), r20o3, Value.agg #[I (0), I (0)]]) (v := Value.agg #[I (0), I (0)]) rfl rfl rfl)) ?_
        refine wpR_q 9 (by kernel_rfl) rfl (quietAt rfl rfl (q_assign (v := B (true)) rfl rfl)) ?_
        refine wpR_q 10 (by kernel_rfl) rfl (quietAt rfl rfl (q_assign (v := r20o3) rfl rfl)) ?_
        refine wpR_n [11] (by kernel_rfl) ?_
        refine List.forall_mem_cons.2 ⟨?_, List.forall_mem_nil _⟩
        refine exE rfl rfl ?_
        refine e_storeBlkA (cs' := #[I (0), I (0)]) rfl rfl rfl Try.sizeOf27 rfl rfl (List.forall_mem_cons.2 ⟨rfl, List.forall_mem_cons.2 ⟨rfl, List.forall_mem_nil _⟩⟩) (hS20o3x2.front 7 rfl) (fun H20o11 hS20o11 hxx => ?_)
        replace hS20o11 : St H0 NoB NoB [blkE g20o8 (.cells #[I (0), I (0)] 27), rdE r20o3 ([] : List Int), rdE v20o2 ([(LRow.mk ([1]) 1 3)] : List LRow), rdE r20o0 countL.Low, rdE r20o0x2 countL.High, rdE r20o0x3 countL.Start, rdE r20o0x4 countL.Jumps, rdE r20o0x5 countL.Bad, rdE v2 ([1] : List Int), blkE g14 (.cells #[v11, I (1), I (2)] 34), rowE 3 v11 ([1] : List Int), blkE g5 (.cells #[v2, I (1), I (3)] 34)] H20o11 := hS20o11
        refine ⟨Ext.mono hxx (labS_of 0 rfl (fun _ _ => trivial)), ?_⟩
        refine wpR_end (by kernel_rfl) ?_
        exact ⟨g20o8, a19_1, a19_2, rfl, rfl, (hS20o11.drop (sk (sn (sn (sn (sn (sn (sn (sn (sk (sk (sk (sk (List.Sublist.slnil))))))))))))))⟩
    · refine exE rfl rfl ?_
      refine e_alloc rfl Try.zeroValue27 hS19 (fun g20o8 H20o8 hS20o8 hxx => ?_)
      replace hS20o8 : St H0 NoB NoB [blkE g20o8 (.cells #[I (0), I (0)] 27), blkE g14 (.cells #[v11, I (1), I (2)] 34), rowE 3 v11 ([1] : List Int), blkE g5 (.cells #[v2, I (1), I (3)] 34), rowE 3 v2 ([1] : List Int)] H20o8 := hS20o8
      refine ⟨Ext.mono hxx (fun _ h => h.elim), ?_⟩
      refine wpR_n [0, 2] (by kernel_rfl) ?_
      refine List.forall_mem_cons.2 ⟨?_, List.forall_mem_cons.2 ⟨?_, List.forall_mem_nil _⟩⟩
      · refine exE rfl rfl ?_
        refine e_call rfl Try.call66 arr0 (count_L (S := SL NoB [blkE g20o8 (.cells #[I (0), I (0)] 27), blkE g14 (.cells #[v11, I (1), I (2)] 34), rowE 3 v11 ([1] : List Int), blkE g5 (.cells #[v2, I (1), I (3)] 34), rowE 3 v2 ([1] : List Int)])) ?_
        rintro _ H20o0 ⟨hxx, r20o0, r20o0x2, r20o0x3, r20o0x4, r20o0x5, rfl, hrr20o0, hrr20o0x2, hrr20o0x3, hrr20o0x4, hrr20o0x5⟩
        have hS20o0 : St H0 NoB NoB [rdE r20o0 countL.Low, rdE r20o0x2 countL.High, rdE r20o0x3 countL.Start, rdE r20o0x4 countL.Jumps, rdE r20o0x5 countL.Bad, blkE g20o8 (.cells #[I (0), I (0)] 27), blkE g14 (.cells #[v11, I (1), I (2)] 34), rowE 3 v11 ([1] : List Int), blkE g5 (.cells #[v2, I (1), I (3)] 34), rowE 3 v2 ([1] : List Int)] H20o0 := ((((((hS20o8.ext hxx).rd (hrr20o0x5.sub fun b hb => ⟨hb, SL.lt hS20o8 hb⟩)).rd (hrr20o0x4.sub fun b hb => ⟨(SL_rd hb), SL.lt hS20o8 (SL_rd hb)⟩)).rd (hrr20o0x3.sub fun b hb => ⟨(SL_rd (SL_rd hb)), SL.lt hS20o8 (SL_rd (SL_rd hb))⟩)).rd (hrr20o0x2.sub fun b hb => ⟨(SL_rd (SL_rd (SL_rd hb))), SL.lt hS20o8 (SL_rd (SL_rd (SL_rd hb)))⟩)).rd (hrr20o0.sub fun b hb => ⟨(SL_rd (SL_rd (SL_rd (SL_rd hb)))), SL.lt hS20o8 (SL_rd (SL_rd (SL_rd (SL_rd hb))))⟩))
        refine ⟨Ext.mono hxx (fun _ h => h.elim), ?_⟩
        refine wpR_n [2] (by kernel_rfl) ?_
        refine List.forall_mem_cons.2 ⟨?_, List.forall_mem_nil _⟩
        have hS20o2 : St H0 NoB NoB [rdE v2 ([1] : List Int), rdE r20o0 countL.Low, rdE r20o0x2 countL.High, rdE r20o0x3 countL.Start, rdE r20o0x4 countL.Jumps, rdE r20o0x5 countL.Bad, blkE g20o8 (.cells #[I (0), I (0)] 27), blkE g14 (.cells #[v11, I (1), I (2)] 34), rowE 3 v11 ([1] : List Int), blkE g5 (.cells #[v2, I (1), I (3)] 34)] H20o0 := St.fin (hS20o0.front 9 rfl)
        refine exE rfl rfl ?_
        refine e_buildSlice (vs := [Value.agg #[v2, I (1), I (3)]]) (xs := ([(LRow.mk ([1]) 1 3)] : List LRow)) rfl Try.underlying22 Try.zeroValue34 rfl Try.sizeOf34 (par1 (v0 := Value.agg #[v2, I (1), I (3)]) rfl) rfl hS20o2 (RdVs.cons (Rd.lRow.2 ⟨_, rfl, (hS20o2.rdS 0 rfl), (by first | assumption | (constructor <;> (dsimp only; omega)) | (constructor <;> omega)), (by first | assumption | (constructor <;> (dsimp only; omega)) | (constructor <;> omega))⟩) (RdVs.nil)) (by decide) (by decide) (fun v20o2 H20o2 hS20o2x2 hxx hvv20o2 => ?_)
        replace hS20o2x2 : St H0 NoB NoB [rowE 34 v20o2 ([(LRow.mk ([1]) 1 3)] : List LRow), rdE v2 ([1] : List Int), rdE r20o0 countL.Low, rdE r20o0x2 countL.High, rdE r20o0x3 countL.Start, rdE r20o0x4 countL.Jumps, rdE r20o0x5 countL.Bad, blkE g20o8 (.cells #[I (0), I (0)] 27), blkE g14 (.cells #[v11, I (1), I (2)] 34), rowE 3 v11 ([1] : List Int), blkE g5 (.cells #[v2, I (1), I (3)] 34)] H20o2 := hS20o2x2
        refine ⟨Ext.mono hxx (fun _ h => h.elim), ?_⟩
        refine wpR_n [3] (by kernel_rfl) ?_
        refine List.forall_mem_cons.2 ⟨?_, List.forall_mem_nil _⟩
        have hS20o3 : St H0 NoB NoB [rdE v20o2 ([(LRow.mk ([1]) 1 3)] : List LRow), rdE v2 ([1] : List Int), rdE r20o0 countL.Low, rdE r20o0x2 countL.High, rdE r20o0x3 countL.Start, rdE r20o0x4 countL.Jumps, rdE r20o0x5 countL.Bad, blkE g20o8 (.cells #[I (0), I (0)] 27), blkE g14 (.cells #[v11, I (1), I (2)] 34), rowE 3 v11 ([1] : List Int), blkE g5 (.cells #[v2, I (1), I (3)] 34)] H20o2 := St.fin hS20o2x2
        refine exE rfl rfl ?_
        refine e_call rfl Try.call21 (arr2 (v0 := Value.agg #[r20o0, r20o0x2, r20o0x3, r20o0x4, r20o0x5]) (v1 := v20o2) rfl rfl) ((by have h__ := Kept_L r20o0 r20o0x2 r20o0x3 r20o0x4 r20o0x5 v20o2 countL ([(LRow.mk ([1]) 1 3)]) (hS20o3.rdS 2 rfl) (hS20o3.rdS 3 rfl) (hS20o3.rdS 4 rfl) (hS20o3.rdS 5 rfl) (hS20o3.rdS 6 rfl) (hS20o3.rdS 0 rfl) ; rw [count_kept.1, count_kept.2.1, count_kept.2.2] at h__; exact h__)) ?_
        rintro _ H20o3 ⟨hxx, r20o3, rfl, hrr20o3⟩
        have hS20o3x2 : St H0 NoB NoB [rdE r20o3 ([] : List Int), rdE v20o2 ([(LRow.mk ([1]) 1 3)] : List LRow), rdE v2 ([1] : List Int), rdE r20o0 countL.Low, rdE r20o0x2 countL.High, rdE r20o0x3 countL.Start, rdE r20o0x4 countL.Jumps, rdE r20o0x5 countL.Bad, blkE g20o8 (.cells #[I (0), I (0)] 27), blkE g14 (.cells #[v11, I (1), I (2)] 34), rowE 3 v11 ([1] : List Int), blkE g5 (.cells #[v2, I (1), I (3)] 34)] H20o3 := hS20o3.res hxx hrr20o3
        refine ⟨Ext.mono hxx (fun _ h => h.elim), ?_⟩
        refine wpR_q 4 (by kernel_rfl) rfl (quietAt rfl rfl (q_move (v := Value.tuple #[B (true), r20o3, Value.agg #[I (0), I (0)]]) rfl rfl)) ?_
        refine wpR_q 5 (by kernel_rfl) rfl (quietAt rfl rfl (q_extract (vs := #[B (true), r20o3, Value.agg #[I (0), I (0)]]) (v := B (true)) rfl rfl rfl)) ?_
        refine wpR_q 6 (by kernel_rfl) rfl (quietAt rfl rfl (q_extract (vs := #[B (true), r20o3, Value.agg #[I (0), I (0)]]) (v := r20o3) rfl rfl rfl)) ?_
        refine wpR_q 7 (by kernel_rfl) rfl (quietAt rfl rfl (q_extract (vs := #[B (true), r20o3, Value.agg #[I (0), I (0)]]) (v := Value.agg #[I (0), I (0)]) rfl rfl rfl)) ?_
        refine wpR_q 9 (by kernel_rfl) rfl (quietAt rfl rfl (q_assign (v := B (true)) rfl rfl)) ?_
        refine wpR_q 10 (by kernel_rfl) rfl (quietAt rfl rfl (q_assign (v := r20o3) rfl rfl)) ?_
        refine wpR_n [11] (by kernel_rfl) ?_
        refine List.forall_mem_cons.2 ⟨?_, List.forall_mem_nil _⟩
        refine exE rfl rfl ?_
        refine e_storeBlkA (cs' := #[I (0), I (0)]) rfl rfl rfl Try.sizeOf27 rfl rfl (List.forall_mem_cons.2 ⟨rfl, List.forall_mem_cons.2 ⟨rfl, List.forall_mem_nil _⟩⟩) (hS20o3x2.front 8 rfl) (fun H20o11 hS20o11 hxx => ?_)
        replace hS20o11 : St H0 NoB NoB [blkE g20o8 (.cells #[I (0), I (0)] 27), rdE r20o3 ([] : List Int), rdE v20o2 ([(LRow.mk ([1]) 1 3)] : List LRow), rdE v2 ([1] : List Int), rdE r20o0 countL.Low, rdE r20o0x2 countL.High, rdE r20o0x3 countL.Start, rdE r20o0x4 countL.Jumps, rdE r20o0x5 countL.Bad, blkE g14 (.cells #[v11, I (1), I (2)] 34), rowE 3 v11 ([1] : List Int), blkE g5 (.cells #[v2, I (1), I (3)] 34)] H20o11 := hS20o11
        refine ⟨Ext.mono hxx (labS_of 0 rfl (fun _ _ => trivial)), ?_⟩
        refine wpR_end (by kernel_rfl) ?_
        exact ⟨g20o8, a19_1, a19_2, rfl, rfl, (hS20o11.drop (sk (sn (sn (sk (sn (sn (sn (sn (sn (sk (sk (sk (List.Sublist.slnil))))))))))))))⟩
      · have hS20o2 : St H0 NoB NoB [rdE v2 ([1] : List Int), blkE g20o8 (.cells #[I (0), I (0)] 27), blkE g14 (.cells #[v11, I (1), I (2)] 34), rowE 3 v11 ([1] : List Int), blkE g5 (.cells #[v2, I (1), I (3)] 34)] H20o8 := St.fin (hS20o8.front 4 rfl)
        refine exE rfl rfl ?_
        refine e_buildSlice (vs := [Value.agg #[v2, I (1), I (3)]]) (xs := ([(LRow.mk ([1]) 1 3)] : List LRow)) rfl Try.underlying22 Try.zeroValue34 rfl Try.sizeOf34 (par1 (v0 := Value.agg #[v2, I (1), I (3)]) rfl) rfl hS20o2 (RdVs.cons (Rd.lRow.2 ⟨_, rfl, (hS20o2.rdS 0 rfl), (by first | assumption | (constructor <;> (dsimp only; omega)) | (constructor <;> omega)), (by first | assumption | (constructor <;> (dsimp only; omega)) | (constructor <;> omega))⟩) (RdVs.nil)) (by decide) (by decide) (fun v20o2 H20o2 hS20o2x2 hxx hvv20o2 => ?_)
        replace hS20o2x2 : St H0 NoB NoB [rowE 34 v20o2 ([(LRow.mk ([1]) 1 3)] : List LRow), rdE v2 ([1] : List Int), blkE g20o8 (.cells #[I (0), I (0)] 27), blkE g14 (.cells #[v11, I (1), I (2)] 34), rowE 3 v11 ([1] : List Int), blkE g5 (.cells #[v2, I (1), I (3)] 34)] H20o2 := hS20o2x2
        refine ⟨Ext.mono hxx (fun _ h => h.elim), ?_⟩
        refine wpR_n [0] (by kernel_rfl) ?_
        refine List.forall_mem_cons.2 ⟨?_, List.forall_mem_nil _⟩
        refine exE rfl rfl ?_
        refine e_call rfl Try.call66 arr0 (count_L (S := SL NoB [rowE 34 v20o2 ([(LRow.mk ([1]) 1 3)] : List LRow), rdE v2 ([1] : List Int), blkE g20o8 (.cells #[I (0), I (0)] 27), blkE g14 (.cells #[v11, I (1), I (2)] 34), rowE 3 v11 ([1] : List Int), blkE g5 (.cells #[v2, I (1), I (3)] 34)])) ?_
        rintro _ H20o0 ⟨hxx, r20o0, r20o0x2, r20o0x3, r20o0x4, r20o0x5, rfl, hrr20o0, hrr20o0x2, hrr20o0x3, hrr20o0x4, hrr20o0x5⟩
        have hS20o0 : St H0 NoB NoB [rdE r20o0 countL.Low, rdE r20o0x2 countL.High, rdE r20o0x3 countL.Start, rdE r20o0x4 countL.Jumps, rdE r20o0x5 countL.Bad, rowE 34 v20o2 ([(LRow.mk ([1]) 1 3)] : List LRow), rdE v2 ([1] : List Int), blkE g20o8 (.cells #[I (0), I (0)] 27), blkE g14 (.cells #[v11, I (1), I (2)] 34), rowE 3 v11 ([1] : List Int), blkE g5 (.cells #[v2, I (1), I (3)] 34)] H20o0 := ((((((hS20o2x2.ext hxx).rd (hrr20o0x5.sub fun b hb => ⟨hb, SL.lt hS20o2x2 hb⟩)).rd (hrr20o0x4.sub fun b hb => ⟨(SL_rd hb), SL.lt hS20o2x2 (SL_rd hb)⟩)).rd (hrr20o0x3.sub fun b hb => ⟨(SL_rd (SL_rd hb)), SL.lt hS20o2x2 (SL_rd (SL_rd hb))⟩)).rd (hrr20o0x2.sub fun b hb => ⟨(SL_rd (SL_rd (SL_rd hb))), SL.lt hS20o2x2 (SL_rd (SL_rd (SL_rd hb)))⟩)).rd (hrr20o0.sub fun b hb => ⟨(SL_rd (SL_rd (SL_rd (SL_rd hb)))), SL.lt hS20o2x2 (SL_rd (SL_rd (SL_rd (SL_rd hb))))⟩))
        refine ⟨Ext.mono hxx (fun _ h => h.elim), ?_⟩
        refine wpR_n [3] (by kernel_rfl) ?_
        refine List.forall_mem_cons.2 ⟨?_, List.forall_mem_nil _⟩
        have hS20o3 : St H0 NoB NoB [rdE v20o2 ([(LRow.mk ([1]) 1 3)] : List LRow), rdE r20o0 countL.Low, rdE r20o0x2 countL.High, rdE r20o0x3 countL.Start, rdE r20o0x4 countL.Jumps, rdE r20o0x5 countL.Bad, rdE v2 ([1] : List Int), blkE g20o8 (.cells #[I (0), I (0)] 27), blkE g14 (.cells #[v11, I (1), I (2)] 34), rowE 3 v11 ([1] : List Int), blkE g5 (.cells #[v2, I (1), I (3)] 34)] H20o0 := St.fin (hS20o0.front 5 rfl)
        refine exE rfl rfl ?_
        refine e_call rfl Try.call21 (arr2 (v0 := Value.agg #[r20o0, r20o0x2, r20o0x3, r20o0x4, r20o0x5]) (v1 := v20o2) rfl rfl) ((by have h__ := Kept_L r20o0 r20o0x2 r20o0x3 r20o0x4 r20o0x5 v20o2 countL ([(LRow.mk ([1]) 1 3)]) (hS20o3.rdS 1 rfl) (hS20o3.rdS 2 rfl) (hS20o3.rdS 3 rfl) (hS20o3.rdS 4 rfl) (hS20o3.rdS 5 rfl) (hS20o3.rdS 0 rfl) ; rw [count_kept.1, count_kept.2.1, count_kept.2.2] at h__; exact h__)) ?_
        rintro _ H20o3 ⟨hxx, r20o3, rfl, hrr20o3⟩
        have hS20o3x2 : St H0 NoB NoB [rdE r20o3 ([] : List Int), rdE v20o2 ([(LRow.mk ([1]) 1 3)] : List LRow), rdE r20o0 countL.Low, rdE r20o0x2 countL.High, rdE r20o0x3 countL.Start, rdE r20o0x4 countL.Jumps, rdE r20o0x5 countL.Bad, rdE v2 ([1] : List Int), blkE g20o8 (.cells #[I (0), I (0)] 27), blkE g14 (.cells #[v11, I (1), I (2)] 34), rowE 3 v11 ([1] : List Int), blkE g5 (.cells #[v2, I (1), I (3)] 34)] H20o3 := hS20o3.res hxx hrr20o3
        refine ⟨Ext.mono hxx (fun _ h => h.elim), ?_⟩
        refine wpR_q 4 (by kernel_rfl) rfl (quietAt rfl rfl (q_move (v := Value.tuple #[B (true), r20o3, Value.agg #[I (0), I (0)]]) rfl rfl)) ?_
        refine wpR_q 5 (by kernel_rfl) rfl (quietAt rfl rfl (q_extract (vs := #[B (true), r20o3, Value.agg #[I (0), I (0)]]) (v := B (true)) rfl rfl rfl)) ?_
        refine wpR_q 6 (by kernel_rfl) rfl (quietAt rfl rfl (q_extract (vs := #[B (true), r20o3, Value.agg #[I (0), I (0)]]) (v := r20o3) rfl rfl rfl)) ?_
        refine wpR_q 7 (by kernel_rfl) rfl (quietAt rfl rfl (q_extract (vs := #[B (true), r20o3, Value.agg #[I (0), I (0)]]) (v := Value.agg #[I (0), I (0)]) rfl rfl rfl)) ?_
        refine wpR_q 9 (by kernel_rfl) rfl (quietAt rfl rfl (q_assign (v := B (true)) rfl rfl)) ?_
        refine wpR_q 10 (by kernel_rfl) rfl (quietAt rfl rfl (q_assign (v := r20o3) rfl rfl)) ?_
        refine wpR_n [11] (by kernel_rfl) ?_
        refine List.forall_mem_cons.2 ⟨?_, List.forall_mem_nil _⟩
        refine exE rfl rfl ?_
        refine e_storeBlkA (cs' := #[I (0), I (0)]) rfl rfl rfl Try.sizeOf27 rfl rfl (List.forall_mem_cons.2 ⟨rfl, List.forall_mem_cons.2 ⟨rfl, List.forall_mem_nil _⟩⟩) (hS20o3x2.front 8 rfl) (fun H20o11 hS20o11 hxx => ?_)
        replace hS20o11 : St H0 NoB NoB [blkE g20o8 (.cells #[I (0), I (0)] 27), rdE r20o3 ([] : List Int), rdE v20o2 ([(LRow.mk ([1]) 1 3)] : List LRow), rdE r20o0 countL.Low, rdE r20o0x2 countL.High, rdE r20o0x3 countL.Start, rdE r20o0x4 countL.Jumps, rdE r20o0x5 countL.Bad, rdE v2 ([1] : List Int), blkE g14 (.cells #[v11, I (1), I (2)] 34), rowE 3 v11 ([1] : List Int), blkE g5 (.cells #[v2, I (1), I (3)] 34)] H20o11 := hS20o11
        refine ⟨Ext.mono hxx (labS_of 0 rfl (fun _ _ => trivial)), ?_⟩
        refine wpR_end (by kernel_rfl) ?_
        exact ⟨g20o8, a19_1, a19_2, rfl, rfl, (hS20o11.drop (sk (sn (sn (sn (sn (sn (sn (sn (sk (sk (sk (sk (List.Sublist.slnil))))))))))))))⟩
  rintro f21 H21 ⟨g20o8, a21_1, a21_2, a21_3, a21_5, hS21⟩
  clear a19_1 a19_2
  refine wpF_seq ?_
  refine wpF_cut (fun f H => ∃ (r22o3 : Value), ∃ (g22o8 : Nat), f 1 = PT g5 0 ∧ f 2 = PT g14 0 ∧ f 3 = B (true) ∧ f 5 = PT g20o8 0 ∧ f 6 = B (false) ∧ f 7 = r22o3 ∧ f 8 = PT g22o8 0 ∧ St H0 NoB NoB [blkE g22o8 (.cells #[I (0), I (0)] 27), rdE r22o3 ([2] : List Int), rdE v11 ([1] : List Int), blkE g20o8 (.cells #[I (0), I (0)] 27), rdE v2 ([1] : List Int), blkE g14 (.cells #[v11, I (1), I (2)] 34), blkE g5 (.cells #[v2, I (1), I (3)] 34)] H) ?_ ?_
  · refine wpF_drawn [none, none, none, none, none, none, none, none, none, none, none, some 0] [[], [], [], [], [], [], [], [], [], [], [], []] (fun l b => match l with | 0 => True | _ => False) (by kernel_rfl) (by kernel_rfl) ?_
    refine wpR_q 1 (by kernel_rfl) rfl (quietAt rfl rfl (q_loadBlkA rfl a21_2 Try.isAgg34 Try.sizeOf34 rfl (hS21.blk 2 rfl) (labU_not [] rfl (List.forall_mem_nil _)))) ?_
    refine wpR_n [0, 2, 8] (by kernel_rfl) ?_
    refine List.forall_mem_cons.2 ⟨?_, List.forall_mem_cons.2 ⟨?_, List.forall_mem_cons.2 ⟨?_, List.forall_mem_nil _⟩⟩⟩
    · refine exE rfl rfl ?_
      refine e_call rfl Try.call66 arr0 (count_L (S := SL NoB [blkE g20o8 (.cells #[I (0), I (0)] 27), rdE v2 ([1] : List Int), blkE g14 (.cells #[v11, I (1), I (2)] 34), rowE 3 v11 ([1] : List Int), blkE g5 (.cells #[v2, I (1), I (3)] 34)])) ?_
      rintro _ H22o0 ⟨hxx, r22o0, r22o0x2, r22o0x3, r22o0x4, r22o0x5, rfl, hrr22o0, hrr22o0x2, hrr22o0x3, hrr22o0x4, hrr22o0x5⟩
      have hS22o0 : St H0 NoB NoB [rdE r22o0 countL.Low, rdE r22o0x2 countL.High, rdE r22o0x3 countL.Start, rdE r22o0x4 countL.Jumps, rdE r22o0x5 countL.Bad, blkE g20o8 (.cells #[I (0), I (0)] 27), rdE v2 ([1] : List Int), blkE g14 (.cells #[v11, I (1), I (2)] 34), rowE 3 v11 ([1] : List Int), blkE g5 (.cells #[v2, I (1), I (3)] 34)] H22o0 := ((((((hS21.ext hxx).rd (hrr22o0x5.sub fun b hb => ⟨hb, SL.lt hS21 hb⟩)).rd (hrr22o0x4.sub fun b hb => ⟨(SL_rd hb), SL.lt hS21 (SL_rd hb)⟩)).rd (hrr22o0x3.sub fun b hb => ⟨(SL_rd (SL_rd hb)), SL.lt hS21 (SL_rd (SL_rd hb))⟩)).rd (hrr22o0x2.sub fun b hb => ⟨(SL_rd (SL_rd (SL_rd hb))), SL.lt hS21 (SL_rd (SL_rd (SL_rd hb)))⟩)).rd (hrr22o0.sub fun b hb => ⟨(SL_rd (SL_rd (SL_rd (SL_rd hb)))), SL.lt hS21 (SL_rd (SL_rd (SL_rd (SL_rd hb))))⟩))
      refine ⟨Ext.mono hxx (fun _ h => h.elim), ?_⟩
      refine wpR_n [2, 8] (by kernel_rfl) ?_
      refine List.forall_mem_cons.2 ⟨?_, List.forall_mem_cons.2 ⟨?_, List.forall_mem_nil _⟩⟩
      · have hS22o2 : St H0 NoB NoB [rdE v11 ([1] : List Int), rdE r22o0 countL.Low, rdE r22o0x2 countL.High, rdE r22o0x3 countL.Start, rdE r22o0x4 countL.Jumps, rdE r22o0x5 countL.Bad, blkE g20o8 (.cells #[I (0), I (0)] 27), rdE v2 ([1] : List Int), blkE g14 (.cells #[v11, I (1), I (2)] 34), blkE g5 (.cells #[v2, I (1), I (3)] 34)] H22o0 := St.fin (hS22o0.front 8 rfl)
        refine exE rfl rfl ?_
        refine e_buildSlice (vs := [Value.agg #[v11, I (1), I (2)]]) (xs := ([(LRow.mk ([1]) 1 2)] : List LRow)) rfl Try.underlying22 Try.zeroValue34 rfl Try.sizeOf34 (par1 (v0 := Value.agg #[v11, I (1), I (2)]) rfl) rfl hS22o2 (RdVs.cons (Rd.lRow.2 ⟨_, rfl, (hS22o2.rdS 0 rfl), (by first | assumption | (constructor <;> (dsimp only; omega)) | (constructor <;> omega)), (by first | assumption | (constructor <;> (dsimp only; omega)) | (constructor <;> omega))⟩) (RdVs.nil)) (by decide) (by decide) (fun v22o2 H22o2 hS22o2x2 hxx hvv22o2 => ?_)
        replace hS22o2x2 : St H0 NoB NoB [rowE 34 v22o2 ([(LRow.mk ([1]) 1 2)] : List LRow), rdE v11 ([1] : List Int), rdE r22o0 countL.Low, rdE r22o0x2 countL.High, rdE r22o0x3 countL.Start, rdE r22o0x4 countL.Jumps, rdE r22o0x5 countL.Bad, blkE g20o8 (.cells #[I (0), I (0)] 27), rdE v2 ([1] : List Int), blkE g14 (.cells #[v11, I (1), I (2)] 34), blkE g5 (.cells #[v2, I (1), I (3)] 34)] H22o2 := hS22o2x2
        refine ⟨Ext.mono hxx (fun _ h => h.elim), ?_⟩
        refine wpR_n [3, 8] (by kernel_rfl) ?_
        refine List.forall_mem_cons.2 ⟨?_, List.forall_mem_cons.2 ⟨?_, List.forall_mem_nil _⟩⟩
        · have hS22o3 : St H0 NoB NoB [rdE v22o2 ([(LRow.mk ([1]) 1 2)] : List LRow), rdE v11 ([1] : List Int), rdE r22o0 countL.Low, rdE r22o0x2 countL.High, rdE r22o0x3 countL.Start, rdE r22o0x4 countL.Jumps, rdE r22o0x5 countL.Bad, blkE g20o8 (.cells #[I (0), I (0)] 27), rdE v2 ([1] : List Int), blkE g14 (.cells #[v11, I (1), I (2)] 34), blkE g5 (.cells #[v2, I (1), I (3)] 34)] H22o2 := St.fin hS22o2x2
          refine exE rfl rfl ?_
          refine e_call rfl Try.call21 (arr2 (v0 := Value.agg #[r22o0, r22o0x2, r22o0x3, r22o0x4, r22o0x5]) (v1 := v22o2) rfl rfl) ((by have h__ := Kept_L r22o0 r22o0x2 r22o0x3 r22o0x4 r22o0x5 v22o2 countL ([(LRow.mk ([1]) 1 2)]) (hS22o3.rdS 2 rfl) (hS22o3.rdS 3 rfl) (hS22o3.rdS 4 rfl) (hS22o3.rdS 5 rfl) (hS22o3.rdS 6 rfl) (hS22o3.rdS 0 rfl) ; rw [count_lost.1, count_lost.2.1, count_lost.2.2] at h__; exact h__)) ?_
          rintro _ H22o3 ⟨hxx, r22o3, rfl, hrr22o3⟩
          have hS22o3x2 : St H0 NoB NoB [rdE r22o3 ([2] : List Int), rdE v22o2 ([(LRow.mk ([1]) 1 2)] : List LRow), rdE v11 ([1] : List Int), rdE r22o0 countL.Low, rdE r22o0x2 countL.High, rdE r22o0x3 countL.Start, rdE r22o0x4 countL.Jumps, rdE r22o0x5 countL.Bad, blkE g20o8 (.cells #[I (0), I (0)] 27), rdE v2 ([1] : List Int), blkE g14 (.cells #[v11, I (1), I (2)] 34), blkE g5 (.cells #[v2, I (1), I (3)] 34)] H22o3 := hS22o3.res hxx hrr22o3
          refine ⟨Ext.mono hxx (fun _ h => h.elim), ?_⟩
          refine wpR_q 4 (by kernel_rfl) rfl (quietAt rfl rfl (q_move (v := Value.tuple #[B (false), r22o3, Value.agg #[I (0), I (0)]]) rfl rfl)) ?_
          refine wpR_q 5 (by kernel_rfl) rfl (quietAt rfl rfl (q_extract (vs := #[B (false), r22o3, Value.agg #[I (0), I (0)]]) (v := B (false)) rfl rfl rfl)) ?_
          refine wpR_q 6 (by kernel_rfl) rfl (quietAt rfl rfl (q_extract (vs := #[B (false), r22o3, Value.agg #[I (0), I (0)]]) (v := r22o3) rfl rfl rfl)) ?_
          refine wpR_q 7 (by kernel_rfl) rfl (quietAt rfl rfl (q_extract (vs := #[B (false), r22o3, Value.agg #[I (0), I (0)]]) (v := Value.agg #[I (0), I (0)]) rfl rfl rfl)) ?_
          refine wpR_n [8] (by kernel_rfl) ?_
          refine List.forall_mem_cons.2 ⟨?_, List.forall_mem_nil _⟩
          refine exE rfl rfl ?_
          refine e_alloc rfl Try.zeroValue27 hS22o3x2 (fun g22o8 H22o8 hS22o8 hxx => ?_)
          replace hS22o8 : St H0 NoB NoB [blkE g22o8 (.cells #[I (0), I (0)] 27), rdE r22o3 ([2] : List Int), rdE v22o2 ([(LRow.mk ([1]) 1 2)] : List LRow), rdE v11 ([1] : List Int), rdE r22o0 countL.Low, rdE r22o0x2 countL.High, rdE r22o0x3 countL.Start, rdE r22o0x4 countL.Jumps, rdE r22o0x5 countL.Bad, blkE g20o8 (.cells #[I (0), I (0)] 27), rdE v2 ([1] : List Int), blkE g14 (.cells #[v11, I (1), I (2)] 34), blkE g5 (.cells #[v2, I (1), I (3)] 34)] H22o8 := hS22o8
          refine ⟨Ext.mono hxx (fun _ h => h.elim), ?_⟩
          refine wpR_q 9 (by kernel_rfl) rfl (quietAt rfl rfl (q_assign (v := B (false)) rfl rfl)) ?_
          refine wpR_q 10 (by kernel_rfl) rfl (quietAt rfl rfl (q_assign (v := r22o3) rfl rfl)) ?_
          refine wpR_n [11] (by kernel_rfl) ?_
          refine List.forall_mem_cons.2 ⟨?_, List.forall_mem_nil _⟩
          refine exE rfl rfl ?_
          refine e_storeBlkA (cs' := #[I (0), I (0)]) rfl rfl rfl Try.sizeOf27 rfl rfl (List.forall_mem_cons.2 ⟨rfl, List.forall_mem_cons.2 ⟨rfl, List.forall_mem_nil _⟩⟩) hS22o8 (fun H22o11 hS22o11 hxx => ?_)
          replace hS22o11 : St H0 NoB NoB [blkE g22o8 (.cells #[I (0), I (0)] 27), rdE r22o3 ([2] : List Int), rdE v22o2 ([(LRow.mk ([1]) 1 2)] : List LRow), rdE v11 ([1] : List Int), rdE r22o0 countL.Low, rdE r22o0x2 countL.High, rdE r22o0x3 countL.Start, rdE r22o0x4 countL.Jumps, rdE r22o0x5 countL.Bad, blkE g20o8 (.cells #[I (0), I (0)] 27), rdE v2 ([1] : List Int), blkE g14 (.cells #[v11, I (1), I (2)] 34), blkE g5 (.cells #[v2, I (1), I (3)] 34)] H22o11 := hS22o11
          refine ⟨Ext.mono hxx (labS_of 0 rfl (fun _ _ => trivial)), ?_⟩
          refine wpR_end (by kernel_rfl) ?_
          exact ⟨r22o3, g22o8, a21_1, a21_2, a21_3, a21_5, rfl, rfl, rfl, (hS22o11.drop (sk (sk (sn (sk (sn (sn (sn (sn (sn (sk (sk (sk (sk (List.Sublist.slnil)))))))))))))))⟩
        · refine exE rfl rfl ?_
          refine e_alloc rfl Try.zeroValue27 hS22o2x2 (fun g22o8 H22o8 hS22o8 hxx => ?_)
          replace hS22o8 : St H0 NoB NoB [blkE g22o8 (.cells #[I (0), I (0)] 27), rowE 34 v22o2 ([(LRow.mk ([1]) 1 2)] : List LRow), rdE v11 ([1] : List Int), rdE r22o0 countL.Low, rdE r22o0x2 countL.High, rdE r22o0x3 countL.Start, rdE r22o0x4 countL.Jumps, rdE r22o0x5 countL.Bad, blkE g20o8 (.cells #[I (0), I (0)] 27), rdE v2 ([1] : List Int), blkE g14 (.cells #[v11, I (1), I (2)] 34), blkE g5 (.cells #[v2, I (1), I (3)] 34)] H22o8 := hS22o8
          refine ⟨Ext.mono hxx (fun _ h => h.elim), ?_⟩
          refine wpR_n [3] (by kernel_rfl) ?_
          refine List.forall_mem_cons.2 ⟨?_, List.forall_mem_nil _⟩
          have hS22o3 : St H0 NoB NoB [rdE v22o2 ([(LRow.mk ([1]) 1 2)] : List LRow), blkE g22o8 (.cells #[I (0), I (0)] 27), rdE v11 ([1] : List Int), rdE r22o0 countL.Low, rdE r22o0x2 countL.High, rdE r22o0x3 countL.Start, rdE r22o0x4 countL.Jumps, rdE r22o0x5 countL.Bad, blkE g20o8 (.cells #[I (0), I (0)] 27), rdE v2 ([1] : List Int), blkE g14 (.cells #[v11, I (1), I (2)] 34), blkE g5 (.cells #[v2, I (1), I (3)] 34)] H22o8 := St.fin (hS22o8.front 1 rfl)
          refine exE rfl rfl ?_
          refine e_call rfl Try.call21 (arr2 (v0 := Value.agg #[r22o0, r22o0x2, r22o0x3, r22o0x4, r22o0x5]) (v1 := v22o2) rfl rfl) ((by have h__ := Kept_L r22o0 r22o0x2 r22o0x3 r22o0x4 r22o0x5 v22o2 countL ([(LRow.mk ([1]) 1 2)]) (hS22o3.rdS 3 rfl) (hS22o3.rdS 4 rfl) (hS22o3.rdS 5 rfl) (hS22o3.rdS 6 rfl) (hS22o3.rdS 7 rfl) (hS22o3.rdS 0 rfl) ; rw [count_lost.1, count_lost.2.1, count_lost.2.2] at h__; exact h__)) ?_
          rintro _ H22o3 ⟨hxx, r22o3, rfl, hrr22o3⟩
          have hS22o3x2 : St H0 NoB NoB [rdE r22o3 ([2] : List Int), rdE v22o2 ([(LRow.mk ([1]) 1 2)] : List LRow), blkE g22o8 (.cells #[I (0), I (0)] 27), rdE v11 ([1] : List Int), rdE r22o0 countL.Low, rdE r22o0x2 countL.High, rdE r22o0x3 countL.Start, rdE r22o0x4 countL.Jumps, rdE r22o0x5 countL.Bad, blkE g20o8 (.cells #[I (0), I (0)] 27), rdE v2 ([1] : List Int), blkE g14 (.cells #[v11, I (1), I (2)] 34), blkE g5 (.cells #[v2, I (1), I (3)] 34)] H22o3 := hS22o3.res hxx hrr22o3
          refine ⟨Ext.mono hxx (fun _ h => h.elim), ?_⟩
          refine wpR_q 4 (by kernel_rfl) rfl (quietAt rfl rfl (q_move (v := Value.tuple #[B (false), r22o3, Value.agg #[I (0), I (0)]]) rfl rfl)) ?_
          refine wpR_q 5 (by kernel_rfl) rfl (quietAt rfl rfl (q_extract (vs := #[B (false), r22o3, Value.agg #[I (0), I (0)]]) (v := B (false)) rfl rfl rfl)) ?_
          refine wpR_q 6 (by kernel_rfl) rfl (quietAt rfl rfl (q_extract (vs := #[B (false), r22o3, Value.agg #[I (0), I (0)]]) (v := r22o3) rfl rfl rfl)) ?_
          refine wpR_q 7 (by kernel_rfl) rfl (quietAt rfl rfl (q_extract (vs := #[B (false), r22o3, Value.agg #[I (0), I (0)]]) (v := Value.agg #[I (0), I (0)]) rfl rfl rfl)) ?_
          refine wpR_q 9 (by kernel_rfl) rfl (quietAt rfl rfl (q_assign (v := B (false)) rfl rfl)) ?_
          refine wpR_q 10 (by kernel_rfl) rfl (quietAt rfl rfl (q_assign (v := r22o3) rfl rfl)) ?_
          refine wpR_n [11] (by kernel_rfl) ?_
          refine List.forall_mem_cons.2 ⟨?_, List.forall_mem_nil _⟩
          refine exE rfl rfl ?_
          refine e_storeBlkA (cs' := #[I (0), I (0)]) rfl rfl rfl Try.sizeOf27 rfl rfl (List.forall_mem_cons.2 ⟨rfl, List.forall_mem_cons.2 ⟨rfl, List.forall_mem_nil _⟩⟩) (hS22o3x2.front 2 rfl) (fun H22o11 hS22o11 hxx => ?_)
          replace hS22o11 : St H0 NoB NoB [blkE g22o8 (.cells #[I (0), I (0)] 27), rdE r22o3 ([2] : List Int), rdE v22o2 ([(LRow.mk ([1]) 1 2)] : List LRow), rdE v11 ([1] : List Int), rdE r22o0 countL.Low, rdE r22o0x2 countL.High, rdE r22o0x3 countL.Start, rdE r22o0x4 countL.Jumps, rdE r22o0x5 countL.Bad, blkE g20o8 (.cells #[I (0), I (0)] 27), rdE v2 ([1] : List Int), blkE g14 (.cells #[v11, I (1), I (2)] 34), blkE g5 (.cells #[v2, I (1), I (3)] 34)] H22o11 := hS22o11
          refine ⟨Ext.mono hxx (labS_of 0 rfl (fun _ _ => trivial)), ?_⟩
          refine wpR_end (by kernel_rfl) ?_
          exact ⟨r22o3, g22o8, a21_1, a21_2, a21_3, a21_5, rfl, rfl, rfl, (hS22o11.drop (sk (sk (sn (sk (sn (sn (sn (sn (sn (sk (sk (sk (sk (List.Sublist.slnil)))))))))))))))⟩
      · refine exE rfl rfl ?_
        refine e_alloc rfl Try.zeroValue27 hS22o0 (fun g22o8 H22o8 hS22o8 hxx => ?_)
        replace hS22o8 : St H0 NoB NoB [blkE g22o8 (.cells #[I (0), I (0)] 27), rdE r22o0 countL.Low, rdE r22o0x2 countL.High, rdE r22o0x3 countL.Start, rdE r22o0x4 countL.Jumps, rdE r22o0x5 countL.Bad, blkE g20o8 (.cells #[I (0), I (0)] 27), rdE v2 ([1] : List Int), blkE g14 (.cells #[v11, I (1), I (2)] 34), rowE 3 v11 ([1] : List Int), blkE g5 (.cells #[v2, I (1), I (3)] 34)] H22o8 := hS22o8
        refine ⟨Ext.mono hxx (fun _ h => h.elim), ?_⟩
        refine wpR_n [2] (by kernel_rfl) ?_
        refine List.forall_mem_cons.2 ⟨?_, List.forall_mem_nil _⟩
        have hS22o2 : St H0 NoB NoB [rdE v11 ([1] : List Int), blkE g22o8 (.cells #[I (0), I (0)] 27), rdE r22o0 countL.Low, rdE r22o0x2 countL.High, rdE r22o0x3 countL.Start, rdE r22o0x4 countL.Jumps, rdE r22o0x5 countL.Bad, blkE g20o8 (.cells #[I (0), I (0)] 27), rdE v2 ([1] : List Int), blkE g14 (.cells #[v11, I (1), I (2)] 34), blkE g5 (.cells #[v2, I (1), I (3)] 34)] H22o8 := St.fin (hS22o8.front 9 rfl)
        refine exE rfl rfl ?_
        refine e_buildSlice (vs := [Value.agg #[v11, I (1), I (2)]]) (xs := ([(LRow.mk ([1]) 1 2)] : List LRow)) rfl Try.underlying22 Try.zeroValue34 rfl Try.sizeOf34 (par1 (v0 := Value.agg #[v11, I (1), I (2)]) rfl) rfl hS22o2 (RdVs.cons (Rd.lRow.2 ⟨_, rfl, (hS22o2.rdS 0 rfl), (by first | assumption | (constructor <;> (dsimp only; omega)) | (constructor <;> omega)), (by first | assumption | (constructor <;> (dsimp only; omega)) | (constructor <;> omega))⟩) (RdVs.nil)) (by decide) (by decide) (fun v22o2 H22o2 hS22o2x2 hxx hvv22o2 => ?_)
        replace hS22o2x2 : St H0 NoB NoB [rowE 34 v22o2 ([(LRow.mk ([1]) 1 2)] : List LRow), rdE v11 ([1] : List Int), blkE g22o8 (.cells #[I (0), I (0)] 27), rdE r22o0 countL.Low, rdE r22o0x2 countL.High, rdE r22o0x3 countL.Start, rdE r22o0x4 countL.Jumps, rdE r22o0x5 countL.Bad, blkE g20o8 (.cells #[I (0), I (0)] 27), rdE v2 ([1] : List Int), blkE g14 (.cells #[v11, I (1), I (2)] 34), blkE g5 (.cells #[v2, I (1), I (3)] 34)] H22o2 := hS22o2x2
        refine ⟨Ext.mono hxx (fun _ h => h.elim), ?_⟩
        refine wpR_n [3] (by kernel_rfl) ?_
        refine List.forall_mem_cons.2 ⟨?_, List.forall_mem_nil _⟩
        have hS22o3 : St H0 NoB NoB [rdE v22o2 ([(LRow.mk ([1]) 1 2)] : List LRow), rdE v11 ([1] : List Int), blkE g22o8 (.cells #[I (0), I (0)] 27), rdE r22o0 countL.Low, rdE r22o0x2 countL.High, rdE r22o0x3 countL.Start, rdE r22o0x4 countL.Jumps, rdE r22o0x5 countL.Bad, blkE g20o8 (.cells #[I (0), I (0)] 27), rdE v2 ([1] : List Int), blkE g14 (.cells #[v11, I (1), I (2)] 34), blkE g5 (.cells #[v2, I (1), I (3)] 34)] H22o2 := St.fin hS22o2x2
        refine exE rfl rfl ?_
        refine e_call rfl Try.call21 (arr2 (v0 := Value.agg #[r22o0, r22o0x2, r22o0x3, r22o0x4, r22o0x5]) (v1 := v22o2) rfl rfl) ((by have h__ := Kept_L r22o0 r22o0x2 r22o0x3 r22o0x4 r22o0x5 v22o2 countL ([(LRow.mk ([1]) 1 2)]) (hS22o3.rdS 3 rfl) (hS22o3.rdS 4 rfl) (hS22o3.rdS 5 rfl) (hS22o3.rdS 6 rfl) (hS22o3.rdS 7 rfl) (hS22o3.rdS 0 rfl) ; rw [count_lost.1, count_lost.2.1, count_lost.2.2] at h__; exact h__)) ?_
        rintro _ H22o3 ⟨hxx, r22o3, rfl, hrr22o3⟩
        have hS22o3x2 : St H0 NoB NoB [rdE r22o3 ([2] : List Int), rdE v22o2 ([(LRow.mk ([1]) 1 2)] : List LRow), rdE v11 ([1] : List Int), blkE g22o8 (.cells #[I (0), I (0)] 27), rdE r22o0 countL.Low, rdE r22o0x2 countL.High, rdE r22o0x3 countL.Start, rdE r22o0x4 countL.Jumps, rdE r22o0x5 countL.Bad, blkE g20o8 (.cells #[I (0), I (0)] 27), rdE v2 ([1] : List Int), blkE g14 (.cells #[v11, I (1), I (2)] 34), blkE g5 (.cells #[v2, I (1), I (3)] 34)] H22o3 := hS22o3.res hxx hrr22o3
        refine ⟨Ext.mono hxx (fun _ h => h.elim), ?_⟩
        refine wpR_q 4 (by kernel_rfl) rfl (quietAt rfl rfl (q_move (v := Value.tuple #[B (false), r22o3, Value.agg #[I (0), I (0)]]) rfl rfl)) ?_
        refine wpR_q 5 (by kernel_rfl) rfl (quietAt rfl rfl (q_extract (vs := #[B (false), r22o3, Value.agg #[I (0), I (0)]]) (v := B (false)) rfl rfl rfl)) ?_
        refine wpR_q 6 (by kernel_rfl) rfl (quietAt rfl rfl (q_extract (vs := #[B (false), r22o3, Value.agg #[I (0), I (0)]]) (v := r22o3) rfl rfl rfl)) ?_
        refine wpR_q 7 (by kernel_rfl) rfl (quietAt rfl rfl (q_extract (vs := #[B (false), r22o3, Value.agg #[I (0), I (0)]]) (v := Value.agg #[I (0), I (0)]) rfl rfl rfl)) ?_
        refine wpR_q 9 (by kernel_rfl) rfl (quietAt rfl rfl (q_assign (v := B (false)) rfl rfl)) ?_
        refine wpR_q 10 (by kernel_rfl) rfl (quietAt rfl rfl (q_assign (v := r22o3) rfl rfl)) ?_
        refine wpR_n [11] (by kernel_rfl) ?_
        refine List.forall_mem_cons.2 ⟨?_, List.forall_mem_nil _⟩
        refine exE rfl rfl ?_
        refine e_storeBlkA (cs' := #[I (0), I (0)]) rfl rfl rfl Try.sizeOf27 rfl rfl (List.forall_mem_cons.2 ⟨rfl, List.forall_mem_cons.2 ⟨rfl, List.forall_mem_nil _⟩⟩) (hS22o3x2.front 3 rfl) (fun H22o11 hS22o11 hxx => ?_)
        replace hS22o11 : St H0 NoB NoB [blkE g22o8 (.cells #[I (0), I (0)] 27), rdE r22o3 ([2] : List Int), rdE v22o2 ([(LRow.mk ([1]) 1 2)] : List LRow), rdE v11 ([1] : List Int), rdE r22o0 countL.Low, rdE r22o0x2 countL.High, rdE r22o0x3 countL.Start, rdE r22o0x4 countL.Jumps, rdE r22o0x5 countL.Bad, blkE g20o8 (.cells #[I (0), I (0)] 27), rdE v2 ([1] : List Int), blkE g14 (.cells #[v11, I (1), I (2)] 34), blkE g5 (.cells #[v2, I (1), I (3)] 34)] H22o11 := hS22o11
        refine ⟨Ext.mono hxx (labS_of 0 rfl (fun _ _ => trivial)), ?_⟩
        refine wpR_end (by kernel_rfl) ?_
        exact ⟨r22o3, g22o8, a21_1, a21_2, a21_3, a21_5, rfl, rfl, rfl, (hS22o11.drop (sk (sk (sn (sk (sn (sn (sn (sn (sn (sk (sk (sk (sk (List.Sublist.slnil)))))))))))))))⟩
    · have hS22o2 : St H0 NoB NoB [rdE v11 ([1] : List Int), blkE g20o8 (.cells #[I (0), I (0)] 27), rdE v2 ([1] : List Int), blkE g14 (.cells #[v11, I (1), I (2)] 34), blkE g5 (.cells #[v2, I (1), I (3)] 34)] H21 := St.fin (hS21.front 3 rfl)
      refine exE rfl rfl ?_
      refine e_buildSlice (vs := [Value.agg #[v11, I (1), I (2)]]) (xs := ([(LRow.mk ([1]) 1 2)] : List LRow)) rfl Try.underlying22 Try.zeroValue34 rfl Try.sizeOf34 (par1 (v0 := Value.agg #[v11, I (1), I (2)]) rfl) rfl hS22o2 (RdVs.cons (Rd.lRow.2 ⟨_, rfl, (hS22o2.rdS 0 rfl), (by first | assumption | (constructor <;> (dsimp only; omega)) | (constructor <;> omega)), (by first | assumption | (constructor <;> (dsimp only; omega)) | (constructor <;> omega))⟩) (RdVs.nil)) (by decide) (by decide) (fun v22o2 H22o2 hS22o2x2 hxx hvv22o2 => ?_)
      replace hS22o2x2 : St H0 NoB NoB [rowE 34 v22o2 ([(LRow.mk ([1]) 1 2)] : List LRow), rdE v11 ([1] : List Int), blkE g20o8 (.cells #[I (0), I (0)] 27), rdE v2 ([1] : List Int), blkE g14 (.cells #[v11, I (1), I (2)] 34), blkE g5 (.cells #[v2, I (1), I (3)] 34)] H22o2 := hS22o2x2
      refine ⟨Ext.mono hxx (fun _ h => h.elim), ?_⟩
      refine wpR_n [0, 8] (by kernel_rfl) ?_
      refine List.forall_mem_cons.2 ⟨?_, List.forall_mem_cons.2 ⟨?_, List.forall_mem_nil _⟩⟩
      · refine exE rfl rfl ?_
        refine e_call rfl Try.call66 arr0 (count_L (S := SL NoB [rowE 34 v22o2 ([(LRow.mk ([1]) 1 2)] : List LRow), rdE v11 ([1] : List Int), blkE g20o8 (.cells #[I (0), I (0)] 27), rdE v2 ([1] : List Int), blkE g14 (.cells #[v11, I (1), I (2)] 34), blkE g5 (.cells #[v2, I (1), I (3)] 34)])) ?_
        rintro _ H22o0 ⟨hxx, r22o0, r22o0x2, r22o0x3, r22o0x4, r22o0x5, rfl, hrr22o0, hrr22o0x2, hrr22o0x3, hrr22o0x4, hrr22o0x5⟩
        have hS22o0 : St H0 NoB NoB [rdE r22o0 countL.Low, rdE r22o0x2 countL.High, rdE r22o0x3 countL.Start, rdE r22o0x4 countL.Jumps, rdE r22o0x5 countL.Bad, rowE 34 v22o2 ([(LRow.mk ([1]) 1 2)] : List LRow), rdE v11 ([1] : List Int), blkE g20o8 (.cells #[I (0), I (0)] 27), rdE v2 ([1] : List Int), blkE g14 (.cells #[v11, I (1), I (2)] 34), blkE g5 (.cells #[v2, I (1), I (3)] 34)] H22o0 := ((((((hS22o2x2.ext hxx).rd (hrr22o0x5.sub fun b hb => ⟨hb, SL.lt hS22o2x2 hb⟩)).rd (hrr22o0x4.sub fun b hb => ⟨(SL_rd hb), SL.lt hS22o2x2 (SL_rd hb)⟩)).rd (hrr22o0x3.sub fun b hb => ⟨(SL_rd (SL_rd hb)), SL.lt hS22o2x2 (SL_rd (SL_rd hb))⟩)).rd (hrr22o0x2.sub fun b hb => ⟨(SL_rd (SL_rd (SL_rd hb))), SL.lt hS22o2x2 (SL_rd (SL_rd (SL_rd hb)))⟩)).rd (hrr22o0.sub fun b hb => ⟨(SL_rd (SL_rd (SL_rd (SL_rd hb)))), SL.lt hS22o2x2 (SL_rd (SL_rd (SL_rd (SL_rd hb))))⟩))
        refine ⟨Ext.mono hxx (fun _ h => h.elim), ?_⟩
        refine wpR_n [3, 8] (by kernel_rfl) ?_
        refine List.forall_mem_cons.2 ⟨?_, List.forall_mem_cons.2 ⟨?_, List.forall_mem_nil _⟩⟩
        · have hS22o3 : St H0 NoB NoB [rdE v22o2 ([(LRow.mk ([1]) 1 2)] : List LRow), rdE r22o0 countL.Low, rdE r22o0x2 countL.High, rdE r22o0x3 countL.Start, rdE r22o0x4 countL.Jumps, rdE r22o0x5 countL.Bad, rdE v11 ([1] : List Int), blkE g20o8 (.cells #[I (0), I (0)] 27), rdE v2 ([1] : List Int), blkE g14 (.cells #[v11, I (1), I (2)] 34), blkE g5 (.cells #[v2, I (1), I (3)] 34)] H22o0 := St.fin (hS22o0.front 5 rfl)
          refine exE rfl rfl ?_
          refine e_call rfl Try.call21 (arr2 (v0 := Value.agg #[r22o0, r22o0x2, r22o0x3, r22o0x4, r22o0x5]) (v1 := v22o2) rfl rfl) ((by have h__ := Kept_L r22o0 r22o0x2 r22o0x3 r22o0x4 r22o0x5 v22o2 countL ([(LRow.mk ([1]) 1 2)]) (hS22o3.rdS 1 rfl) (hS22o3.rdS 2 rfl) (hS22o3.rdS 3 rfl) (hS22o3.rdS 4 rfl) (hS22o3.rdS 5 rfl) (hS22o3.rdS 0 rfl) ; rw [count_lost.1, count_lost.2.1, count_lost.2.2] at h__; exact h__)) ?_
          rintro _ H22o3 ⟨hxx, r22o3, rfl, hrr22o3⟩
          have hS22o3x2 : St H0 NoB NoB [rdE r22o3 ([2] : List Int), rdE v22o2 ([(LRow.mk ([1]) 1 2)] : List LRow), rdE r22o0 countL.Low, rdE r22o0x2 countL.High, rdE r22o0x3 countL.Start, rdE r22o0x4 countL.Jumps, rdE r22o0x5 countL.Bad, rdE v11 ([1] : List Int), blkE g20o8 (.cells #[I (0), I (0)] 27), rdE v2 ([1] : List Int), blkE g14 (.cells #[v11, I (1), I (2)] 34), blkE g5 (.cells #[v2, I (1), I (3)] 34)] H22o3 := hS22o3.res hxx hrr22o3
          refine ⟨Ext.mono hxx (fun _ h => h.elim), ?_⟩
          refine wpR_q 4 (by kernel_rfl) rfl (quietAt rfl rfl (q_move (v := Value.tuple #[B (false), r22o3, Value.agg #[I (0), I (0)]]) rfl rfl)) ?_
          refine wpR_q 5 (by kernel_rfl) rfl (quietAt rfl rfl (q_extract (vs := #[B (false), r22o3, Value.agg #[I (0), I (0)]]) (v := B (false)) rfl rfl rfl)) ?_
          refine wpR_q 6 (by kernel_rfl) rfl (quietAt rfl rfl (q_extract (vs := #[B (false), r22o3, Value.agg #[I (0), I (0)]]) (v := r22o3) rfl rfl rfl)) ?_
          refine wpR_q 7 (by kernel_rfl) rfl (quietAt rfl rfl (q_extract (vs := #[B (false), r22o3, Value.agg #[I (0), I (0)]]) (v := Value.agg #[I (0), I (0)]) rfl rfl rfl)) ?_
          refine wpR_n [8] (by kernel_rfl) ?_
          refine List.forall_mem_cons.2 ⟨?_, List.forall_mem_nil _⟩
          refine exE rfl rfl ?_
          refine e_alloc rfl Try.zeroValue27 hS22o3x2 (fun g22o8 H22o8 hS22o8 hxx => ?_)
          replace hS22o8 : St H0 NoB NoB [blkE g22o8 (.cells #[I (0), I (0)] 27), rdE r22o3 ([2] : List Int), rdE v22o2 ([(LRow.mk ([1]) 1 2)] : List LRow), rdE r22o0 countL.Low, rdE r22o0x2 countL.High, rdE r22o0x3 countL.Start, rdE r22o0x4 countL.Jumps, rdE r22o0x5 countL.Bad, rdE v11 ([1] : List Int), blkE g20o8 (.cells #[I (0), I (0)] 27), rdE v2 ([1] : List Int), blkE g14 (.cells #[v11, I (1), I (2)] 34), blkE g5 (.cells #[v2, I (1), I (3)] 34)] H22o8 := hS22o8
          refine ⟨Ext.mono hxx (fun _ h => h.elim), ?_⟩
          refine wpR_q 9 (by kernel_rfl) rfl (quietAt rfl rfl (q_assign (v := B (false)) rfl rfl)) ?_
          refine wpR_q 10 (by kernel_rfl) rfl (quietAt rfl rfl (q_assign (v := r22o3) rfl rfl)) ?_
          refine wpR_n [11] (by kernel_rfl) ?_
          refine List.forall_mem_cons.2 ⟨?_, List.forall_mem_nil _⟩
          refine exE rfl rfl ?_
          refine e_storeBlkA (cs' := #[I (0), I (0)]) rfl rfl rfl Try.sizeOf27 rfl rfl (List.forall_mem_cons.2 ⟨rfl, List.forall_mem_cons.2 ⟨rfl, List.forall_mem_nil _⟩⟩) hS22o8 (fun H22o11 hS22o11 hxx => ?_)
          replace hS22o11 : St H0 NoB NoB [blkE g22o8 (.cells #[I (0), I (0)] 27), rdE r22o3 ([2] : List Int), rdE v22o2 ([(LRow.mk ([1]) 1 2)] : List LRow), rdE r22o0 countL.Low, rdE r22o0x2 countL.High, rdE r22o0x3 countL.Start, rdE r22o0x4 countL.Jumps, rdE r22o0x5 countL.Bad, rdE v11 ([1] : List Int), blkE g20o8 (.cells #[I (0), I (0)] 27), rdE v2 ([1] : List Int), blkE g14 (.cells #[v11, I (1), I (2)] 34), blkE g5 (.cells #[v2, I (1), I (3)] 34)] H22o11 := hS22o11
          refine ⟨Ext.mono hxx (labS_of 0 rfl (fun _ _ => trivial)), ?_⟩
          refine wpR_end (by kernel_rfl) ?_
          exact ⟨r22o3, g22o8, a21_1, a21_2, a21_3, a21_5, rfl, rfl, rfl, (hS22o11.drop (sk (sk (sn (sn (sn (sn (sn (sn (sk (sk (sk (sk (sk (List.Sublist.slnil)))))))))))))))⟩
        · refine exE rfl rfl ?_
          refine e_alloc rfl Try.zeroValue27 hS22o0 (fun g22o8 H22o8 hS22o8 hxx => ?_)
          replace hS22o8 : St H0 NoB NoB [blkE g22o8 (.cells #[I (0), I (0)] 27), rdE r22o0 countL.Low, rdE r22o0x2 countL.High, rdE r22o0x3 countL.Start, rdE r22o0x4 countL.Jumps, rdE r22o0x5 countL.Bad, rowE 34 v22o2 ([(LRow.mk ([1]) 1 2)] : List LRow), rdE v11 ([1] : List Int), blkE g20o8 (.cells #[I (0), I (0)] 27), rdE v2 ([1] : List Int), blkE g14 (.cells #[v11, I (1), I (2)] 34), blkE g5 (.cells #[v2, I (1), I (3)] 34)] H22o8 := hS22o8
          refine ⟨Ext.mono hxx (fun _ h => h.elim), ?_⟩
          refine wpR_n [3] (by kernel_rfl) ?_
          refine List.forall_mem_cons.2 ⟨?_, List.forall_mem_nil _⟩
          have hS22o3 : St H0 NoB NoB [rdE v22o2 ([(LRow.mk ([1]) 1 2)] : List LRow), blkE g22o8 (.cells #[I (0), I (0)] 27), rdE r22o0 countL.Low, rdE r22o0x2 countL.High, rdE r22o0x3 countL.Start, rdE r22o0x4 countL.Jumps, rdE r22o0x5 countL.Bad, rdE v11 ([1] : List Int), blkE g20o8 (.cells #[I (0), I (0)] 27), rdE v2 ([1] : List Int), blkE g14 (.cells #[v11, I (1), I (2)] 34), blkE g5 (.cells #[v2, I (1), I (3)] 34)] H22o8 := St.fin (hS22o8.front 6 rfl)
          refine exE rfl rfl ?_
          refine e_call rfl Try.call21 (arr2 (v0 := Value.agg #[r22o0, r22o0x2, r22o0x3, r22o0x4, r22o0x5]) (v1 := v22o2) rfl rfl) ((by have h__ := Kept_L r22o0 r22o0x2 r22o0x3 r22o0x4 r22o0x5 v22o2 countL ([(LRow.mk ([1]) 1 2)]) (hS22o3.rdS 2 rfl) (hS22o3.rdS 3 rfl) (hS22o3.rdS 4 rfl) (hS22o3.rdS 5 rfl) (hS22o3.rdS 6 rfl) (hS22o3.rdS 0 rfl) ; rw [count_lost.1, count_lost.2.1, count_lost.2.2] at h__; exact h__)) ?_
          rintro _ H22o3 ⟨hxx, r22o3, rfl, hrr22o3⟩
          have hS22o3x2 : St H0 NoB NoB [rdE r22o3 ([2] : List Int), rdE v22o2 ([(LRow.mk ([1]) 1 2)] : List LRow), blkE g22o8 (.cells #[I (0), I (0)] 27), rdE r22o0 countL.Low, rdE r22o0x2 countL.High, rdE r22o0x3 countL.Start, rdE r22o0x4 countL.Jumps, rdE r22o0x5 countL.Bad, rdE v11 ([1] : List Int), blkE g20o8 (.cells #[I (0), I (0)] 27), rdE v2 ([1] : List Int), blkE g14 (.cells #[v11, I (1), I (2)] 34), blkE g5 (.cells #[v2, I (1), I (3)] 34)] H22o3 := hS22o3.res hxx hrr22o3
          refine ⟨Ext.mono hxx (fun _ h => h.elim), ?_⟩
          refine wpR_q 4 (by kernel_rfl) rfl (quietAt rfl rfl (q_move (v := Value.tuple #[B (false), r22o3, Value.agg #[I (0), I (0)]]) rfl rfl)) ?_
          refine wpR_q 5 (by kernel_rfl) rfl (quietAt rfl rfl (q_extract (vs := #[B (false), r22o3, Value.agg #[I (0), I (0)]]) (v := B (false)) rfl rfl rfl)) ?_
          refine wpR_q 6 (by kernel_rfl) rfl (quietAt rfl rfl (q_extract (vs := #[B (false), r22o3, Value.agg #[I (0), I (0)]]) (v := r22o3) rfl rfl rfl)) ?_
          refine wpR_q 7 (by kernel_rfl) rfl (quietAt rfl rfl (q_extract (vs := #[B (false), r22o3, Value.agg #[I (0), I (0)]]) (v := Value.agg #[I (0), I (0)]) rfl rfl rfl)) ?_
          refine wpR_q 9 (by kernel_rfl) rfl (quietAt rfl rfl (q_assign (v := B (false)) rfl rfl)) ?_
          refine wpR_q 10 (by kernel_rfl) rfl (quietAt rfl rfl (q_assign (v := r22o3) rfl rfl)) ?_
          refine wpR_n [11] (by kernel_rfl) ?_
          refine List.forall_mem_cons.2 ⟨?_, List.forall_mem_nil _⟩
          refine exE rfl rfl ?_
          refine e_storeBlkA (cs' := #[I (0), I (0)]) rfl rfl rfl Try.sizeOf27 rfl rfl (List.forall_mem_cons.2 ⟨rfl, List.forall_mem_cons.2 ⟨rfl, List.forall_mem_nil _⟩⟩) (hS22o3x2.front 2 rfl) (fun H22o11 hS22o11 hxx => ?_)
          replace hS22o11 : St H0 NoB NoB [blkE g22o8 (.cells #[I (0), I (0)] 27), rdE r22o3 ([2] : List Int), rdE v22o2 ([(LRow.mk ([1]) 1 2)] : List LRow), rdE r22o0 countL.Low, rdE r22o0x2 countL.High, rdE r22o0x3 countL.Start, rdE r22o0x4 countL.Jumps, rdE r22o0x5 countL.Bad, rdE v11 ([1] : List Int), blkE g20o8 (.cells #[I (0), I (0)] 27), rdE v2 ([1] : List Int), blkE g14 (.cells #[v11, I (1), I (2)] 34), blkE g5 (.cells #[v2, I (1), I (3)] 34)] H22o11 := hS22o11
          refine ⟨Ext.mono hxx (labS_of 0 rfl (fun _ _ => trivial)), ?_⟩
          refine wpR_end (by kernel_rfl) ?_
          exact ⟨r22o3, g22o8, a21_1, a21_2, a21_3, a21_5, rfl, rfl, rfl, (hS22o11.drop (sk (sk (sn (sn (sn (sn (sn (sn (sk (sk (sk (sk (sk (List.Sublist.slnil)))))))))))))))⟩
      · refine exE rfl rfl ?_
        refine e_alloc rfl Try.zeroValue27 hS22o2x2 (fun g22o8 H22o8 hS22o8 hxx => ?_)
        replace hS22o8 : St H0 NoB NoB [blkE g22o8 (.cells #[I (0), I (0)] 27), rowE 34 v22o2 ([(LRow.mk ([1]) 1 2)] : List LRow), rdE v11 ([1] : List Int), blkE g20o8 (.cells #[I (0), I (0)] 27), rdE v2 ([1] : List Int), blkE g14 (.cells #[v11, I (1), I (2)] 34), blkE g5 (.cells #[v2, I (1), I (3)] 34)] H22o8 := hS22o8
        refine ⟨Ext.mono hxx (fun _ h => h.elim), ?_⟩
        refine wpR_n [0] (by kernel_rfl) ?_
        refine List.forall_mem_cons.2 ⟨?_, List.forall_mem_nil _⟩
        refine exE rfl rfl ?_
        refine e_call rfl Try.call66 arr0 (count_L (S := SL NoB [blkE g22o8 (.cells #[I (0), I (0)] 27), rowE 34 v22o2 ([(LRow.mk ([1]) 1 2)] : List LRow), rdE v11 ([1] : List Int), blkE g20o8 (.cells #[I (0), I (0)] 27), rdE v2 ([1] : List Int), blkE g14 (.cells #[v11, I (1), I (2)] 34), blkE g5 (.cells #[v2, I (1), I (3)] 34)])) ?_
        rintro _ H22o0 ⟨hxx, r22o0, r22o0x2, r22o0x3, r22o0x4, r22o0x5, rfl, hrr22o0, hrr22o0x2, hrr22o0x3, hrr22o0x4, hrr22o0x5⟩
        have hS22o0 : St H0 NoB NoB [rdE r22o0 countL.Low, rdE r22o0x2 countL.High, rdE r22o0x3 countL.Start, rdE r22o0x4 countL.Jumps, rdE r22o0x5 countL.Bad, blkE g22o8 (.cells #[I (0), I (0)] 27), rowE 34 v22o2 ([(LRow.mk ([1]) 1 2)] : List LRow), rdE v11 ([1] : List Int), blkE g20o8 (.cells #[I (0), I (0)] 27), rdE v2 ([1] : List Int), blkE g14 (.cells #[v11, I (1), I (2)] 34), blkE g5 (.cells #[v2, I (1), I (3)] 34)] H22o0 := ((((((hS22o8.ext hxx).rd (hrr22o0x5.sub fun b hb => ⟨hb, SL.lt hS22o8 hb⟩)).rd (hrr22o0x4.sub fun b hb => ⟨(SL_rd hb), SL.lt hS22o8 (SL_rd hb)⟩)).rd (hrr22o0x3.sub fun b hb => ⟨(SL_rd (SL_rd hb)), SL.lt hS22o8 (SL_rd (SL_rd hb))⟩)).rd (hrr22o0x2.sub fun b hb => ⟨(SL_rd (SL_rd (SL_rd hb))), SL.lt hS22o8 (SL_rd (SL_rd (SL_rd hb)))⟩)).rd (hrr22o0.sub fun b hb => ⟨(SL_rd (SL_rd (SL_rd (SL_rd hb)))), SL.lt hS22o8 (SL_rd (SL_rd (SL_rd (SL_rd hb))))⟩))
        refine ⟨Ext.mono hxx (fun _ h => h.elim), ?_⟩
        refine wpR_n [3] (by kernel_rfl) ?_
        refine List.forall_mem_cons.2 ⟨?_, List.forall_mem_nil _⟩
        have hS22o3 : St H0 NoB NoB [rdE v22o2 ([(LRow.mk ([1]) 1 2)] : List LRow), rdE r22o0 countL.Low, rdE r22o0x2 countL.High, rdE r22o0x3 countL.Start, rdE r22o0x4 countL.Jumps, rdE r22o0x5 countL.Bad, blkE g22o8 (.cells #[I (0), I (0)] 27), rdE v11 ([1] : List Int), blkE g20o8 (.cells #[I (0), I (0)] 27), rdE v2 ([1] : List Int), blkE g14 (.cells #[v11, I (1), I (2)] 34), blkE g5 (.cells #[v2, I (1), I (3)] 34)] H22o0 := St.fin (hS22o0.front 6 rfl)
        refine exE rfl rfl ?_
        refine e_call rfl Try.call21 (arr2 (v0 := Value.agg #[r22o0, r22o0x2, r22o0x3, r22o0x4, r22o0x5]) (v1 := v22o2) rfl rfl) ((by have h__ := Kept_L r22o0 r22o0x2 r22o0x3 r22o0x4 r22o0x5 v22o2 countL ([(LRow.mk ([1]) 1 2)]) (hS22o3.rdS 1 rfl) (hS22o3.rdS 2 rfl) (hS22o3.rdS 3 rfl) (hS22o3.rdS 4 rfl) (hS22o3.rdS 5 rfl) (hS22o3.rdS 0 rfl) ; rw [count_lost.1, count_lost.2.1, count_lost.2.2] at h__; exact h__)) ?_
        rintro _ H22o3 ⟨hxx, r22o3, rfl, hrr22o3⟩
        have hS22o3x2 : St H0 NoB NoB [rdE r22o3 ([2] : List Int), rdE v22o2 ([(LRow.mk ([1]) 1 2)] : List LRow), rdE r22o0 countL.Low, rdE r22o0x2 countL.High, rdE r22o0x3 countL.Start, rdE r22o0x4 countL.Jumps, rdE r22o0x5 countL.Bad, blkE g22o8 (.cells #[I (0), I (0)] 27), rdE v11 ([1] : List Int), blkE g20o8 (.cells #[I (0), I (0)] 27), rdE v2 ([1] : List Int), blkE g14 (.cells #[v11, I (1), I (2)] 34), blkE g5 (.cells #[v2, I (1), I (3)] 34)] H22o3 := hS22o3.res hxx hrr22o3
        refine ⟨Ext.mono hxx (fun _ h => h.elim), ?_⟩
        refine wpR_q 4 (by kernel_rfl) rfl (quietAt rfl rfl (q_move (v := Value.tuple #[B (false), r22o3, Value.agg #[I (0), I (0)]]) rfl rfl)) ?_
        refine wpR_q 5 (by kernel_rfl) rfl (quietAt rfl rfl (q_extract (vs := #[B (false), r22o3, Value.agg #[I (0), I (0)]]) (v := B (false)) rfl rfl rfl)) ?_
        refine wpR_q 6 (by kernel_rfl) rfl (quietAt rfl rfl (q_extract (vs := #[B (false), r22o3, Value.agg #[I (0), I (0)]]) (v := r22o3) rfl rfl rfl)) ?_
        refine wpR_q 7 (by kernel_rfl) rfl (quietAt rfl rfl (q_extract (vs := #[B (false), r22o3, Value.agg #[I (0), I (0)]]) (v := Value.agg #[I (0), I (0)]) rfl rfl rfl)) ?_
        refine wpR_q 9 (by kernel_rfl) rfl (quietAt rfl rfl (q_assign (v := B (false)) rfl rfl)) ?_
        refine wpR_q 10 (by kernel_rfl) rfl (quietAt rfl rfl (q_assign (v := r22o3) rfl rfl)) ?_
        refine wpR_n [11] (by kernel_rfl) ?_
        refine List.forall_mem_cons.2 ⟨?_, List.forall_mem_nil _⟩
        refine exE rfl rfl ?_
        refine e_storeBlkA (cs' := #[I (0), I (0)]) rfl rfl rfl Try.sizeOf27 rfl rfl (List.forall_mem_cons.2 ⟨rfl, List.forall_mem_cons.2 ⟨rfl, List.forall_mem_nil _⟩⟩) (hS22o3x2.front 7 rfl) (fun H22o11 hS22o11 hxx => ?_)
        replace hS22o11 : St H0 NoB NoB [blkE g22o8 (.cells #[I (0), I (0)] 27), rdE r22o3 ([2] : List Int), rdE v22o2 ([(LRow.mk ([1]) 1 2)] : List LRow), rdE r22o0 countL.Low, rdE r22o0x2 countL.High, rdE r22o0x3 countL.Start, rdE r22o0x4 countL.Jumps, rdE r22o0x5 countL.Bad, rdE v11 ([1] : List Int), blkE g20o8 (.cells #[I (0), I (0)] 27), rdE v2 ([1] : List Int), blkE g14 (.cells #[v11, I (1), I (2)] 34), blkE g5 (.cells #[v2, I (1), I (3)] 34)] H22o11 := hS22o11
        refine ⟨Ext.mono hxx (labS_of 0 rfl (fun _ _ => trivial)), ?_⟩
        refine wpR_end (by kernel_rfl) ?_
        exact ⟨r22o3, g22o8, a21_1, a21_2, a21_3, a21_5, rfl, rfl, rfl, (hS22o11.drop (sk (sk (sn (sn (sn (sn (sn (sn (sk (sk (sk (sk (sk (List.Sublist.slnil)))))))))))))))⟩
    · refine exE rfl rfl ?_
      refine e_alloc rfl Try.zeroValue27 hS21 (fun g22o8 H22o8 hS22o8 hxx => ?_)
      replace hS22o8 : St H0 NoB NoB [blkE g22o8 (.cells #[I (0), I (0)] 27), blkE g20o8 (.cells #[I (0), I (0)] 27), rdE v2 ([1] : List Int), blkE g14 (.cells #[v11, I (1), I (2)] 34), rowE 3 v11 ([1] : List Int), blkE g5 (.cells #[v2, I (1), I (3)] 34)] H22o8 := hS22o8
      refine ⟨Ext.mono hxx (fun _ h => h.elim), ?_⟩
      refine wpR_n [0, 2] (by kernel_rfl) ?_
      refine List.forall_mem_cons.2 ⟨?_, List.forall_mem_cons.2 ⟨?_, List.forall_mem_nil _⟩⟩
      · refine exE rfl rfl ?_
        refine e_call rfl Try.call66 arr0 (count_L (S := SL NoB [blkE g22o8 (.cells #[I (0), I (0)] 27), blkE g20o8 (.cells #[I (0), I (0)] 27), rdE v2 ([1] : List Int), blkE g14 (.cells #[v11, I (1), I (2)] 34), rowE 3 v11 ([1] : List Int), blkE g5 (.cells #[v2, I (1), I (3)] 34)])) ?_
        rintro _ H22o0 ⟨hxx, r22o0, r22o0x2, r22o0x3, r22o0x4, r22o0x5, rfl, hrr22o0, hrr22o0x2, hrr22o0x3, hrr22o0x4, hrr22o0x5⟩
        have hS22o0 : St H0 NoB NoB [rdE r22o0 countL.Low, rdE r22o0x2 countL.High, rdE r22o0x3 countL.Start, rdE r22o0x4 countL.Jumps, rdE r22o0x5 countL.Bad, blkE g22o8 (.cells #[I (0), I (0)] 27), blkE g20o8 (.cells #[I (0), I (0)] 27), rdE v2 ([1] : List Int), blkE g14 (.cells #[v11, I (1), I (2)] 34), rowE 3 v11 ([1] : List Int), blkE g5 (.cells #[v2, I (1), I (3)] 34)] H22o0 := ((((((hS22o8.ext hxx).rd (hrr22o0x5.sub fun b hb => ⟨hb, SL.lt hS22o8 hb⟩)).rd (hrr22o0x4.sub fun b hb => ⟨(SL_rd hb), SL.lt hS22o8 (SL_rd hb)⟩)).rd (hrr22o0x3.sub fun b hb => ⟨(SL_rd (SL_rd hb)), SL.lt hS22o8 (SL_rd (SL_rd hb))⟩)).rd (hrr22o0x2.sub fun b hb => ⟨(SL_rd (SL_rd (SL_rd hb))), SL.lt hS22o8 (SL_rd (SL_rd (SL_rd hb)))⟩)).rd (hrr22o0.sub fun b hb => ⟨(SL_rd (SL_rd (SL_rd (SL_rd hb)))), SL.lt hS22o8 (SL_rd (SL_rd (SL_rd (SL_rd hb))))⟩))
        refine ⟨Ext.mono hxx (fun _ h => h.elim), ?_⟩
        refine wpR_n [2] (by kernel_rfl) ?_
        refine List.forall_mem_cons.2 ⟨?_, List.forall_mem_nil _⟩
        have hS22o2 : St H0 NoB NoB [rdE v11 ([1] : List Int), rdE r22o0 countL.Low, rdE r22o0x2 countL.High, rdE r22o0x3 countL.Start, rdE r22o0x4 countL.Jumps, rdE r22o0x5 countL.Bad, blkE g22o8 (.cells #[I (0), I (0)] 27), blkE g20o8 (.cells #[I (0), I (0)] 27), rdE v2 ([1] : List Int), blkE g14 (.cells #[v11, I (1), I (2)] 34), blkE g5 (.cells #[v2, I (1), I (3)] 34)] H22o0 := St.fin (hS22o0.front 9 rfl)
        refine exE rfl rfl ?_
        refine e_buildSlice (vs := [Value.agg #[v11, I (1), I (2)]]) (xs := ([(LRow.mk ([1]) 1 2)] : List LRow)) rfl Try.underlying22 Try.zeroValue34 rfl Try.sizeOf34 (par1 (v0 := Value.agg #[v11, I (1), I (2)]) rfl) rfl hS22o2 (RdVs.cons (Rd.lRow.2 ⟨_, rfl, (hS22o2.rdS 0 rfl), (by first | assumption | (constructor <;> (dsimp only; omega)) | (constructor <;> omega)), (by first | assumption | (constructor <;> (dsimp only; omega)) | (constructor <;> omega))⟩) (RdVs.nil)) (by decide) (by decide) (fun v22o2 H22o2 hS22o2x2 hxx hvv22o2 => ?_)
        replace hS22o2x2 : St H0 NoB NoB [rowE 34 v22o2 ([(LRow.mk ([1]) 1 2)] : List LRow), rdE v11 ([1] : List Int), rdE r22o0 countL.Low, rdE r22o0x2 countL.High, rdE r22o0x3 countL.Start, rdE r22o0x4 countL.Jumps, rdE r22o0x5 countL.Bad, blkE g22o8 (.cells #[I (0), I (0)] 27), blkE g20o8 (.cells #[I (0), I (0)] 27), rdE v2 ([1] : List Int), blkE g14 (.cells #[v11, I (1), I (2)] 34), blkE g5 (.cells #[v2, I (1), I (3)] 34)] H22o2 := hS22o2x2
        refine ⟨Ext.mono hxx (fun _ h => h.elim), ?_⟩
        refine wpR_n [3] (by kernel_rfl) ?_
        refine List.forall_mem_cons.2 ⟨?_, List.forall_mem_nil _⟩
        have hS22o3 : St H0 NoB NoB [rdE v22o2 ([(LRow.mk ([1]) 1 2)] : List LRow), rdE v11 ([1] : List Int), rdE r22o0 countL.Low, rdE r22o0x2 countL.High, rdE r22o0x3 countL.Start, rdE r22o0x4 countL.Jumps, rdE r22o0x5 countL.Bad, blkE g22o8 (.cells #[I (0), I (0)] 27), blkE g20o8 (.cells #[I (0), I (0)] 27), rdE v2 ([1] : List Int), blkE g14 (.cells #[v11, I (1), I (2)] 34), blkE g5 (.cells #[v2, I (1), I (3)] 34)] H22o2 := St.fin hS22o2x2
        refine exE rfl rfl ?_
        refine e_call rfl Try.call21 (arr2 (v0 := Value.agg #[r22o0, r22o0x2, r22o0x3, r22o0x4, r22o0x5]) (v1 := v22o2) rfl rfl) ((by have h__ := Kept_L r22o0 r22o0x2 r22o0x3 r22o0x4 r22o0x5 v22o2 countL ([(LRow.mk ([1]) 1 2)]) (hS22o3.rdS 2 rfl) (hS22o3.rdS 3 rfl) (hS22o3.rdS 4 rfl) (hS22o3.rdS 5 rfl) (hS22o3.rdS 6 rfl) (hS22o3.rdS 0 rfl) ; rw [count_lost.1, count_lost.2.1, count_lost.2.2] at h__; exact h__)) ?_
        rintro _ H22o3 ⟨hxx, r22o3, rfl, hrr22o3⟩
        have hS22o3x2 : St H0 NoB NoB [rdE r22o3 ([2] : List Int), rdE v22o2 ([(LRow.mk ([1]) 1 2)] : List LRow), rdE v11 ([1] : List Int), rdE r22o0 countL.Low, rdE r22o0x2 countL.High, rdE r22o0x3 countL.Start, rdE r22o0x4 countL.Jumps, rdE r22o0x5 countL.Bad, blkE g22o8 (.cells #[I (0), I (0)] 27), blkE g20o8 (.cells #[I (0), I (0)] 27), rdE v2 ([1] : List Int), blkE g14 (.cells #[v11, I (1), I (2)] 34), blkE g5 (.cells #[v2, I (1), I (3)] 34)] H22o3 := hS22o3.res hxx hrr22o3
        refine ⟨Ext.mono hxx (fun _ h => h.elim), ?_⟩
        refine wpR_q 4 (by kernel_rfl) rfl (quietAt rfl rfl (q_move (v := Value.tuple #[B (false), r22o3, Value.agg #[I (0), I (0)]]) rfl rfl)) ?_
        refine wpR_q 5 (by kernel_rfl) rfl (quietAt rfl rfl (q_extract (vs := #[B (false), r22o3, Value.agg #[I (0), I (0)]]) (v := B (false)) rfl rfl rfl)) ?_
        refine wpR_q 6 (by kernel_rfl) rfl (quietAt rfl rfl (q_extract (vs := #[B (false), r22o3, Value.agg #[I (0), I (0)]]) (v := r22o3) rfl rfl rfl)) ?_
        refine wpR_q 7 (by kernel_rfl) rfl (quietAt rfl rfl (q_extract (vs := #[B (false), r22o3, Value.agg #[I (0), I (0)]]) (v := Value.agg #[I (0), I (0)]) rfl rfl rfl)) ?_
        refine wpR_q 9 (by kernel_rfl) rfl (quietAt rfl rfl (q_assign (v := B (false)) rfl rfl)) ?_
        refine wpR_q 10 (by kernel_rfl) rfl (quietAt rfl rfl (q_assign (v := r22o3) rfl rfl)) ?_
        refine wpR_n [11] (by kernel_rfl) ?_
        refine List.forall_mem_cons.2 ⟨?_, List.forall_mem_nil _⟩
        refine exE rfl rfl ?_
        refine e_storeBlkA (cs' := #[I (0), I (0)]) rfl rfl rfl Try.sizeOf27 rfl rfl (List.forall_mem_cons.2 ⟨rfl, List.forall_mem_cons.2 ⟨rfl, List.forall_mem_nil _⟩⟩) (hS22o3x2.front 8 rfl) (fun H22o11 hS22o11 hxx => ?_)
        replace hS22o11 : St H0 NoB NoB [blkE g22o8 (.cells #[I (0), I (0)] 27), rdE r22o3 ([2] : List Int), rdE v22o2 ([(LRow.mk ([1]) 1 2)] : List LRow), rdE v11 ([1] : List Int), rdE r22o0 countL.Low, rdE r22o0x2 countL.High, rdE r22o0x3 countL.Start, rdE r22o0x4 countL.Jumps, rdE r22o0x5 countL.Bad, blkE g20o8 (.cells #[I (0), I (0)] 27), rdE v2 ([1] : List Int), blkE g14 (.cells #[v11, I (1), I (2)] 34), blkE g5 (.cells #[v2, I (1), I (3)] 34)] H22o11 := hS22o11
        refine ⟨Ext.mono hxx (labS_of 0 rfl (fun _ _ => trivial)), ?_⟩
        refine wpR_end (by kernel_rfl) ?_
        exact ⟨r22o3, g22o8, a21_1, a21_2, a21_3, a21_5, rfl, rfl, rfl, (hS22o11.drop (sk (sk (sn (sk (sn (sn (sn (sn (sn (sk (sk (sk (sk (List.Sublist.slnil)))))))))))))))⟩
      · have hS22o2 : St H0 NoB NoB [rdE v11 ([1] : List Int), blkE g22o8 (.cells #[I (0), I (0)] 27), blkE g20o8 (.cells #[I (0), I (0)] 27), rdE v2 ([1] : List Int), blkE g14 (.cells #[v11, I (1), I (2)] 34), blkE g5 (.cells #[v2, I (1), I (3)] 34)] H22o8 := St.fin (hS22o8.front 4 rfl)
        refine exE rfl rfl ?_
        refine e_buildSlice (vs := [Value.agg #[v11, I (1), I (2)]]) (xs := ([(LRow.mk ([1]) 1 2)] : List LRow)) rfl Try.underlying22 Try.zeroValue34 rfl Try.sizeOf34 (par1 (v0 := Value.agg #[v11, I (1), I (2)]) rfl) rfl hS22o2 (RdVs.cons (Rd.lRow.2 ⟨_, rfl, (hS22o2.rdS 0 rfl), (by first | assumption | (constructor <;> (dsimp only; omega)) | (constructor <;> omega)), (by first | assumption | (constructor <;> (dsimp only; omega)) | (constructor <;> omega))⟩) (RdVs.nil)) (by decide) (by decide) (fun v22o2 H22o2 hS22o2x2 hxx hvv22o2 => ?_)
        replace hS22o2x2 : St H0 NoB NoB [rowE 34 v22o2 ([(LRow.mk ([1]) 1 2)] : List LRow), rdE v11 ([1] : List Int), blkE g22o8 (.cells #[I (0), I (0)] 27), blkE g20o8 (.cells #[I (0), I (0)] 27), rdE v2 ([1] : List Int), blkE g14 (.cells #[v11, I (1), I (2)] 34), blkE g5 (.cells #[v2, I (1), I (3)] 34)] H22o2 := hS22o2x2
        refine ⟨Ext.mono hxx (fun _ h => h.elim), ?_⟩
        refine wpR_n [0] (by kernel_rfl) ?_
        refine List.forall_mem_cons.2 ⟨?_, List.forall_mem_nil _⟩
        refine exE rfl rfl ?_
        refine e_call rfl Try.call66 arr0 (count_L (S := SL NoB [rowE 34 v22o2 ([(LRow.mk ([1]) 1 2)] : List LRow), rdE v11 ([1] : List Int), blkE g22o8 (.cells #[I (0), I (0)] 27), blkE g20o8 (.cells #[I (0), I (0)] 27), rdE v2 ([1] : List Int), blkE g14 (.cells #[v11, I (1), I (2)] 34), blkE g5 (.cells #[v2, I (1), I (3)] 34)])) ?_
        rintro _ H22o0 ⟨hxx, r22o0, r22o0x2, r22o0x3, r22o0x4, r22o0x5, rfl, hrr22o0, hrr22o0x2, hrr22o0x3, hrr22o0x4, hrr22o0x5⟩
        have hS22o0 : St H0 NoB NoB [rdE r22o0 countL.Low, rdE r22o0x2 countL.High, rdE r22o0x3 countL.Start, rdE r22o0x4 countL.Jumps, rdE r22o0x5 countL.Bad, rowE 34 v22o2 ([(LRow.mk ([1]) 1 2)] : List LRow), rdE v11 ([1] : List Int), blkE g22o8 (.cells #[I (0), I (0)] 27), blkE g20o8 (.cells #[I (0), I (0)] 27), rdE v2 ([1] : List Int), blkE g14 (.cells #[v11, I (1), I (2)] 34), blkE g5 (.cells #[v2, I (1), I (3)] 34)] H22o0 := ((((((hS22o2x2.ext hxx).rd (hrr22o0x5.sub fun b hb => ⟨hb, SL.lt hS22o2x2 hb⟩)).rd (hrr22o0x4.sub fun b hb => ⟨(SL_rd hb), SL.lt hS22o2x2 (SL_rd hb)⟩)).rd (hrr22o0x3.sub fun b hb => ⟨(SL_rd (SL_rd hb)), SL.lt hS22o2x2 (SL_rd (SL_rd hb))⟩)).rd (hrr22o0x2.sub fun b hb => ⟨(SL_rd (SL_rd (SL_rd hb))), SL.lt hS22o2x2 (SL_rd (SL_rd (SL_rd hb)))⟩)).rd (hrr22o0.sub fun b hb => ⟨(SL_rd (SL_rd (SL_rd (SL_rd hb)))), SL.lt hS22o2x2 (SL_rd (SL_rd (SL_rd (SL_rd hb))))⟩))
        refine ⟨Ext.mono hxx (fun _ h => h.elim), ?_⟩
        refine wpR_n [3] (by kernel_rfl) ?_
        refine List.forall_mem_cons.2 ⟨?_, List.forall_mem_nil _⟩
        have hS22o3 : St H0 NoB NoB [rdE v22o2 ([(LRow.mk ([1]) 1 2)] : List LRow), rdE r22o0 countL.Low, rdE r22o0x2 countL.High, rdE r22o0x3 countL.Start, rdE r22o0x4 countL.Jumps, rdE r22o0x5 countL.Bad, rdE v11 ([1] : List Int), blkE g22o8 (.cells #[I (0), I (0)] 27), blkE g20o8 (.cells #[I (0), I (0)] 27), rdE v2 ([1] : List Int), blkE g14 (.cells #[v11, I (1), I (2)] 34), blkE g5 (.cells #[v2, I (1), I (3)] 34)] H22o0 := St.fin (hS22o0.front 5 rfl)
        refine exE rfl rfl ?_
        refine e_call rfl Try.call21 (arr2 (v0 := Value.agg #[r22o0, r22o0x2, r22o0x3, r22o0x4, r22o0x5]) (v1 := v22o2) rfl rfl) ((by have h__ := Kept_L r22o0 r22o0x2 r22o0x3 r22o0x4 r22o0x5 v22o2 countL ([(LRow.mk ([1]) 1 2)]) (hS22o3.rdS 1 rfl) (hS22o3.rdS 2 rfl) (hS22o3.rdS 3 rfl) (hS22o3.rdS 4 rfl) (hS22o3.rdS 5 rfl) (hS22o3.rdS 0 rfl) ; rw [count_lost.1, count_lost.2.1, count_lost.2.2] at h__; exact h__)) ?_
        rintro _ H22o3 ⟨hxx, r22o3, rfl, hrr22o3⟩
        have hS22o3x2 : St H0 NoB NoB [rdE r22o3 ([2] : List Int), rdE v22o2 ([(LRow.mk ([1]) 1 2)] : List LRow), rdE r22o0 countL.Low, rdE r22o0x2 countL.High, rdE r22o0x3 countL.Start, rdE r22o0x4 countL.Jumps, rdE r22o0x5 countL.Bad, rdE v11 ([1] : List Int), blkE g22o8 (.cells #[I (0), I (0)] 27), blkE g20o8 (.cells #[I (0), I (0)] 27), rdE v2 ([1] : List Int), blkE g14 (.cells #[v11, I (1), I (2)] 34), blkE g5 (.cells #[v2, I (1), I (3)] 34)] H22o3 := hS22o3.res hxx hrr22o3
        refine ⟨Ext.mono hxx (fun _ h => h.elim), ?_⟩
        refine wpR_q 4 (by kernel_rfl) rfl (quietAt rfl rfl (q_move (v := Value.tuple #[B (false), r22o3, Value.agg #[I (0), I (0)]]) rfl rfl)) ?_
        refine wpR_q 5 (by kernel_rfl) rfl (quietAt rfl rfl (q_extract (vs := #[B (false), r22o3, Value.agg #[I (0), I (0)]]) (v := B (false)) rfl rfl rfl)) ?_
        refine wpR_q 6 (by kernel_rfl) rfl (quietAt rfl rfl (q_extract (vs := #[B (false), r22o3, Value.agg #[I (0), I (0)]]) (v := r22o3) rfl rfl rfl)) ?_
        refine wpR_q 7 (by kernel_rfl) rfl (quietAt rfl rfl (q_extract (vs := #[B (false), r22o3, Value.agg #[I (0), I (0)]]) (v := Value.agg #[I (0), I (0)]) rfl rfl rfl)) ?_
        refine wpR_q 9 (by kernel_rfl) rfl (quietAt rfl rfl (q_assign (v := B (false)) rfl rfl)) ?_
        refine wpR_q 10 (by kernel_rfl) rfl (quietAt rfl rfl (q_assign (v := r22o3) rfl rfl)) ?_
        refine wpR_n [11] (by kernel_rfl) ?_
        refine List.forall_mem_cons.2 ⟨?_, List.forall_mem_nil _⟩
        refine exE rfl rfl ?_
        refine e_storeBlkA (cs' := #[I (0), I (0)]) rfl rfl rfl Try.sizeOf27 rfl rfl (List.forall_mem_cons.2 ⟨rfl, List.forall_mem_cons.2 ⟨rfl, List.forall_mem_nil _⟩⟩) (hS22o3x2.front 8 rfl) (fun H22o11 hS22o11 hxx => ?_)
        replace hS22o11 : St H0 NoB NoB [blkE g22o8 (.cells #[I (0), I (0)] 27), rdE r22o3 ([2] : List Int), rdE v22o2 ([(LRow.mk ([1]) 1 2)] : List LRow), rdE r22o0 countL.Low, rdE r22o0x2 countL.High, rdE r22o0x3 countL.Start, rdE r22o0x4 countL.Jumps, rdE r22o0x5 countL.Bad, rdE v11 ([1] : List Int), blkE g20o8 (.cells #[I (0), I (0)] 27), rdE v2 ([1] : List Int), blkE g14 (.cells #[v11, I (1), I (2)] 34), blkE g5 (.cells #[v2, I (1), I (3)] 34)] H22o11 := hS22o11
        refine ⟨Ext.mono hxx (labS_of 0 rfl (fun _ _ => trivial)), ?_⟩
        refine wpR_end (by kernel_rfl) ?_
        exact ⟨r22o3, g22o8, a21_1, a21_2, a21_3, a21_5, rfl, rfl, rfl, (hS22o11.drop (sk (sk (sn (sn (sn (sn (sn (sn (sk (sk (sk (sk (sk (List.Sublist.slnil)))))))))))))))⟩
  rintro f23 H23 ⟨r22o3, g22o8, a23_1, a23_2, a23_3, a23_5, a23_6, a23_7, a23_8, hS23⟩
  clear a21_1 a21_2 a21_3 a21_5
  refine wpF_seq ?_
  refine wpF_cut (fun f H => ∃ (r24o4 : Value), ∃ (g24o8 : Nat), f 3 = B (true) ∧ f 5 = PT g20o8 0 ∧ f 6 = B (false) ∧ f 7 = r22o3 ∧ f 8 = PT g22o8 0 ∧ f 9 = r24o4 ∧ f 10 = PT g24o8 0 ∧ St H0 NoB NoB [blkE g24o8 (.cells #[I (0), I (0)] 27), rdE r24o4 ([1] : List Int), blkE g22o8 (.cells #[I (0), I (0)] 27), rdE r22o3 ([2] : List Int), rdE v11 ([1] : List Int), blkE g20o8 (.cells #[I (0), I (0)] 27), rdE v2 ([1] : List Int), blkE g14 (.cells #[v11, I (1), I (2)] 34), blkE g5 (.cells #[v2, I (1), I (3)] 34)] H) ?_ ?_
  · refine wpF_drawn [none, none, none, none, none, none, none, none, none, none, some 0] [[], [], [], [], [], [], [], [], [], [], []] (fun l b => match l with | 0 => True | _ => False) (by kernel_rfl) (by kernel_rfl) ?_
    refine wpR_q 1 (by kernel_rfl) rfl (quietAt rfl rfl (q_loadBlkA rfl a23_2 Try.isAgg34 Try.sizeOf34 rfl (hS23.blk 5 rfl) (labU_not [] rfl (List.forall_mem_nil _)))) ?_
    refine wpR_q 2 (by kernel_rfl) rfl (quietAt rfl rfl (q_loadBlkA rfl a23_1 Try.isAgg34 Try.sizeOf34 rfl (hS23.blk 6 rfl) (labU_not [] rfl (List.forall_mem_nil _)))) ?_
    refine wpR_n [0, 3, 8] (by kernel_rfl) ?_
    refine List.forall_mem_cons.2 ⟨?_, List.forall_mem_cons.2 ⟨?_, List.forall_mem_cons.2 ⟨?_, List.forall_mem_nil _⟩⟩⟩
    · refine exE rfl rfl ?_
      refine e_call rfl Try.call66 arr0 (count_L (S := SL NoB [blkE g22o8 (.cells #[I (0), I (0)] 27), rdE r22o3 ([2] : List Int), rdE v11 ([1] : List Int), blkE g20o8 (.cells #[I (0), I (0)] 27), rdE v2 ([1] : List Int), blkE g14 (.cells #[v11, I (1), I (2)] 34), blkE g5 (.cells #[v2, I (1), I (3)] 34)])) ?_
      rintro _ H24o0 ⟨hxx, r24o0, r24o0x2, r24o0x3, r24o0x4, r24o0x5, rfl, hrr24o0, hrr24o0x2, hrr24o0x3, hrr24o0x4, hrr24o0x5⟩
      have hS24o0 : St H0 NoB NoB [rdE r24o0 countL.Low, rdE r24o0x2 countL.High, rdE r24o0x3 countL.Start, rdE r24o0x4 countL.Jumps, rdE r24o0x5 countL.Bad, blkE g22o8 (.cells #[I (0), I (0)] 27), rdE r22o3 ([2] : List Int), rdE v11 ([1] : List Int), blkE g20o8 (.cells #[I (0), I (0)] 27), rdE v2 ([1] : List Int), blkE g14 (.cells #[v11, I (1), I (2)] 34), blkE g5 (.cells #[v2, I (1), I (3)] 34)] H24o0 := ((((((hS23.ext hxx).rd (hrr24o0x5.sub fun b hb => ⟨hb, SL.lt hS23 hb⟩)).rd (hrr24o0x4.sub fun b hb => ⟨(SL_rd hb), SL.lt hS23 (SL_rd hb)⟩)).rd (hrr24o0x3.sub fun b hb => ⟨(SL_rd (SL_rd hb)), SL.lt hS23 (SL_rd (SL_rd hb))⟩)).rd (hrr24o0x2.sub fun b hb => ⟨(SL_rd (SL_rd (SL_rd hb))), SL.lt hS23 (SL_rd (SL_rd (SL_rd hb)))⟩)).rd (hrr24o0.sub fun b hb => ⟨(SL_rd (SL_rd (SL_rd (SL_rd hb)))), SL.lt hS23 (SL_rd (SL_rd (SL_rd (SL_rd hb))))⟩))
      refine ⟨Ext.mono hxx (fun _ h => h.elim), ?_⟩
      refine wpR_n [3, 8] (by kernel_rfl) ?_
      refine List.forall_mem_cons.2 ⟨?_, List.forall_mem_cons.2 ⟨?_, List.forall_mem_nil _⟩⟩
      · refine exE rfl rfl ?_
        refine e_buildSlice (vs := [Value.agg #[v11, I (1), I (2)], Value.agg #[v2, I (1), I (3)]]) (xs := ([(LRow.mk ([1]) 1 2), (LRow.mk ([1]) 1 3)] : List LRow)) rfl Try.underlying22 Try.zeroValue34 rfl Try.sizeOf34 (par2 (v0 := Value.agg #[v11, I (1), I (2)]) (v1 := Value.agg #[v2, I (1), I (3)]) rfl rfl) rfl hS24o0 (RdVs.cons (Rd.lRow.2 ⟨_, rfl, (hS24o0.rdS 7 rfl), (by first | assumption | (constructor <;> (dsimp only; omega)) | (constructor <;> omega)), (by first | assumption | (constructor <;> (dsimp only; omega)) | (constructor <;> omega))⟩) (RdVs.cons (Rd.lRow.2 ⟨_, rfl, (hS24o0.rdS 9 rfl), (by first | assumption | (constructor <;> (dsimp only; omega)) | (constructor <;> omega)), (by first | assumption | (constructor <;> (dsimp only; omega)) | (constructor <;> omega))⟩) (RdVs.nil))) (by decide) (by decide) (fun v24o3 H24o3 hS24o3 hxx hvv24o3 => ?_)
        replace hS24o3 : St H0 NoB NoB [rowE 34 v24o3 ([(LRow.mk ([1]) 1 2), (LRow.mk ([1]) 1 3)] : List LRow), rdE r24o0 countL.Low, rdE r24o0x2 countL.High, rdE r24o0x3 countL.Start, rdE r24o0x4 countL.Jumps, rdE r24o0x5 countL.Bad, blkE g22o8 (.cells #[I (0), I (0)] 27), rdE r22o3 ([2] : List Int), rdE v11 ([1] : List Int), blkE g20o8 (.cells #[I (0), I (0)] 27), rdE v2 ([1] : List Int), blkE g14 (.cells #[v11, I (1), I (2)] 34), blkE g5 (.cells #[v2, I (1), I (3)] 34)] H24o3 := hS24o3
        refine ⟨Ext.mono hxx (fun _ h => h.elim), ?_⟩
        refine wpR_n [4, 8] (by kernel_rfl) ?_
        refine List.forall_mem_cons.2 ⟨?_, List.forall_mem_cons.2 ⟨?_, List.forall_mem_nil _⟩⟩
        · have hS24o4 : St H0 NoB NoB [rdE v24o3 ([(LRow.mk ([1]) 1 2), (LRow.mk ([1]) 1 3)] : List LRow), rdE r24o0 countL.Low, rdE r24o0x2 countL.High, rdE r24o0x3 countL.Start, rdE r24o0x4 countL.Jumps, rdE r24o0x5 countL.Bad, blkE g22o8 (.cells #[I (0), I (0)] 27), rdE r22o3 ([2] : List Int), rdE v11 ([1] : List Int), blkE g20o8 (.cells #[I (0), I (0)] 27), rdE v2 ([1] : List Int), blkE g14 (.cells #[v11, I (1), I (2)] 34), blkE g5 (.cells #[v2, I (1), I (3)] 34)] H24o3 := St.fin hS24o3
          refine exE rfl rfl ?_
          refine e_call rfl Try.call37 (arr2 (v0 := Value.agg #[r24o0, r24o0x2, r24o0x3, r24o0x4, r24o0x5]) (v1 := v24o3) rfl rfl) ((by have h__ := Most_L r24o0 r24o0x2 r24o0x3 r24o0x4 r24o0x5 v24o3 countL ([(LRow.mk ([1]) 1 2), (LRow.mk ([1]) 1 3)]) (hS24o4.rdS 1 rfl) (hS24o4.rdS 2 rfl) (hS24o4.rdS 3 rfl) (hS24o4.rdS 4 rfl) (hS24o4.rdS 5 rfl) (hS24o4.rdS 0 rfl) ; rw [count_most.1, count_most.2] at h__; exact h__)) ?_
          rintro _ H24o4 ⟨hxx, r24o4, rfl, hrr24o4⟩
          have hS24o4x2 : St H0 NoB NoB [rdE r24o4 ([1] : List Int), rdE v24o3 ([(LRow.mk ([1]) 1 2), (LRow.mk ([1]) 1 3)] : List LRow), rdE r24o0 countL.Low, rdE r24o0x2 countL.High, rdE r24o0x3 countL.Start, rdE r24o0x4 countL.Jumps, rdE r24o0x5 countL.Bad, blkE g22o8 (.cells #[I (0), I (0)] 27), rdE r22o3 ([2] : List Int), rdE v11 ([1] : List Int), blkE g20o8 (.cells #[I (0), I (0)] 27), rdE v2 ([1] : List Int), blkE g14 (.cells #[v11, I (1), I (2)] 34), blkE g5 (.cells #[v2, I (1), I (3)] 34)] H24o4 := hS24o4.res hxx hrr24o4
          refine ⟨Ext.mono hxx (fun _ h => h.elim), ?_⟩
          refine wpR_q 5 (by kernel_rfl) rfl (quietAt rfl rfl (q_move (v := Value.tuple #[r24o4, Value.agg #[I (0), I (0)]]) rfl rfl)) ?_
          refine wpR_q 6 (by kernel_rfl) rfl (quietAt rfl rfl (q_extract (vs := #[r24o4, Value.agg #[I (0), I (0)]]) (v := r24o4) rfl rfl rfl)) ?_
          refine wpR_q 7 (by kernel_rfl) rfl (quietAt rfl rfl (q_extract (vs := #[r24o4, Value.agg #[I (0), I (0)]]) (v := Value.agg #[I (0), I (0)]) rfl rfl rfl)) ?_
          refine wpR_n [8] (by kernel_rfl) ?_
          refine List.forall_mem_cons.2 ⟨?_, List.forall_mem_nil _⟩
          refine exE rfl rfl ?_
          refine e_alloc rfl Try.zeroValue27 hS24o4x2 (fun g24o8 H24o8 hS24o8 hxx => ?_)
          replace hS24o8 : St H0 NoB NoB [blkE g24o8 (.cells #[I (0), I (0)] 27), rdE r24o4 ([1] : List Int), rdE v24o3 ([(LRow.mk ([1]) 1 2), (LRow.mk ([1]) 1 3)] : List LRow), rdE r24o0 countL.Low, rdE r24o0x2 countL.High, rdE r24o0x3 countL.Start, rdE r24o0x4 countL.Jumps, rdE r24o0x5 countL.Bad, blkE g22o8 (.cells #[I (0), I (0)] 27), rdE r22o3 ([2] : List Int), rdE v11 ([1] : List Int), blkE g20o8 (.cells #[I (0), I (0)] 27), rdE v2 ([1] : List Int), blkE g14 (.cells #[v11, I (1), I (2)] 34), blkE g5 (.cells #[v2, I (1), I (3)] 34)] H24o8 := hS24o8
          refine ⟨Ext.mono hxx (fun _ h => h.elim), ?_⟩
          refine wpR_q 9 (by kernel_rfl) rfl (quietAt rfl rfl (q_assign (v := r24o4) rfl rfl)) ?_
          refine wpR_n [10] (by kernel_rfl) ?_
          refine List.forall_mem_cons.2 ⟨?_, List.forall_mem_nil _⟩
          refine exE rfl rfl ?_
          refine e_storeBlkA (cs' := #[I (0), I (0)]) rfl rfl rfl Try.sizeOf27 rfl rfl (List.forall_mem_cons.2 ⟨rfl, List.forall_mem_cons.2 ⟨rfl, List.forall_mem_nil _⟩⟩) hS24o8 (fun H24o10 hS24o10 hxx => ?_)
          replace hS24o10 : St H0 NoB NoB [blkE g24o8 (.cells #[I (0), I (0)] 27), rdE r24o4 ([1] : List Int), rdE v24o3 ([(LRow.mk ([1]) 1 2), (LRow.mk ([1]) 1 3)] : List LRow), rdE r24o0 countL.Low, rdE r24o0x2 countL.High, rdE r24o0x3 countL.Start, rdE r24o0x4 countL.Jumps, rdE r24o0x5 countL.Bad, blkE g22o8 (.cells #[I (0), I (0)] 27), rdE r22o3 ([2] : List Int), rdE v11 ([1] : List Int), blkE g20o8 (.cells #[I (0), I (0)] 27), rdE v2 ([1] : List Int), blkE g14 (.cells #[v11, I (1), I (2)] 34), blkE g5 (.cells #[v2, I (1), I (3)] 34)] H24o10 := hS24o10
          refine ⟨Ext.mono hxx (labS_of 0 rfl (fun _ _ => trivial)), ?_⟩
          refine wpR_end (by kernel_rfl) ?_
          exact ⟨r24o4, g24o8, a23_3, a23_5, a23_6, a23_7, a23_8, rfl, rfl, (hS24o10.drop (sk (sk (sn (sn (sn (sn (sn (sn (sk (sk (sk (sk (sk (sk (sk (List.Sublist.slnil)))))))))))))))))⟩
        · refine exE rfl rfl ?_
          refine e_alloc rfl Try.zeroValue27 hS24o3 (fun g24o8 H24o8 hS24o8 hxx => ?_)
          replace hS24o8 : St H0 NoB NoB [blkE g24o8 (.cells #[I (0), I (0)] 27), rowE 34 v24o3 ([(LRow.mk ([1]) 1 2), (LRow.mk ([1]) 1 3)] : List LRow), rdE r24o0 countL.Low, rdE r24o0x2 countL.High, rdE r24o0x3 countL.Start, rdE r24o0x4 countL.Jumps, rdE r24o0x5 countL.Bad, blkE g22o8 (.cells #[I (0), I (0)] 27), rdE r22o3 ([2] : List Int), rdE v11 ([1] : List Int), blkE g20o8 (.cells #[I (0), I (0)] 27), rdE v2 ([1] : List Int), blkE g14 (.cells #[v11, I (1), I (2)] 34), blkE g5 (.cells #[v2, I (1), I (3)] 34)] H24o8 := hS24o8
          refine ⟨Ext.mono hxx (fun _ h => h.elim), ?_⟩
          refine wpR_n [4] (by kernel_rfl) ?_
          refine List.forall_mem_cons.2 ⟨?_, List.forall_mem_nil _⟩
          have hS24o4 : St H0 NoB NoB [rdE v24o3 ([(LRow.mk ([1]) 1 2), (LRow.mk ([1]) 1 3)] : List LRow), blkE g24o8 (.cells #[I (0), I (0)] 27), rdE r24o0 countL.Low, rdE r24o0x2 countL.High, rdE r24o0x3 countL.Start, rdE r24o0x4 countL.Jumps, rdE r24o0x5 countL.Bad, blkE g22o8 (.cells #[I (0), I (0)] 27), rdE r22o3 ([2] : List Int), rdE v11 ([1] : List Int), blkE g20o8 (.cells #[I (0), I (0)] 27), rdE v2 ([1] : List Int), blkE g14 (.cells #[v11, I (1), I (2)] 34), blkE g5 (.cells #[v2, I (1), I (3)] 34)] H24o8 := St.fin (hS24o8.front 1 rfl)
          refine exE rfl rfl ?_
          refine e_call rfl Try.call37 (arr2 (v0 := Value.agg #[r24o0, r24o0x2, r24o0x3, r24o0x4, r24o0x5]) (v1 := v24o3) rfl rfl) ((by have h__ := Most_L r24o0 r24o0x2 r24o0x3 r24o0x4 r24o0x5 v24o3 countL ([(LRow.mk ([1]) 1 2), (LRow.mk ([1]) 1 3)]) (hS24o4.rdS 2 rfl) (hS24o4.rdS 3 rfl) (hS24o4.rdS 4 rfl) (hS24o4.rdS 5 rfl) (hS24o4.rdS 6 rfl) (hS24o4.rdS 0 rfl) ; rw [count_most.1, count_most.2] at h__; exact h__)) ?_
          rintro _ H24o4 ⟨hxx, r24o4, rfl, hrr24o4⟩
          have hS24o4x2 : St H0 NoB NoB [rdE r24o4 ([1] : List Int), rdE v24o3 ([(LRow.mk ([1]) 1 2), (LRow.mk ([1]) 1 3)] : List LRow), blkE g24o8 (.cells #[I (0), I (0)] 27), rdE r24o0 countL.Low, rdE r24o0x2 countL.High, rdE r24o0x3 countL.Start, rdE r24o0x4 countL.Jumps, rdE r24o0x5 countL.Bad, blkE g22o8 (.cells #[I (0), I (0)] 27), rdE r22o3 ([2] : List Int), rdE v11 ([1] : List Int), blkE g20o8 (.cells #[I (0), I (0)] 27), rdE v2 ([1] : List Int), blkE g14 (.cells #[v11, I (1), I (2)] 34), blkE g5 (.cells #[v2, I (1), I (3)] 34)] H24o4 := hS24o4.res hxx hrr24o4
          refine ⟨Ext.mono hxx (fun _ h => h.elim), ?_⟩
          refine wpR_q 5 (by kernel_rfl) rfl (quietAt rfl rfl (q_move (v := Value.tuple #[r24o4, Value.agg #[I (0), I (0)]]) rfl rfl)) ?_
          refine wpR_q 6 (by kernel_rfl) rfl (quietAt rfl rfl (q_extract (vs := #[r24o4, Value.agg #[I (0), I (0)]]) (v := r24o4) rfl rfl rfl)) ?_
          refine wpR_q 7 (by kernel_rfl) rfl (quietAt rfl rfl (q_extract (vs := #[r24o4, Value.agg #[I (0), I (0)]]) (v := Value.agg #[I (0), I (0)]) rfl rfl rfl)) ?_
          refine wpR_q 9 (by kernel_rfl) rfl (quietAt rfl rfl (q_assign (v := r24o4) rfl rfl)) ?_
          refine wpR_n [10] (by kernel_rfl) ?_
          refine List.forall_mem_cons.2 ⟨?_, List.forall_mem_nil _⟩
          refine exE rfl rfl ?_
          refine e_storeBlkA (cs' := #[I (0), I (0)]) rfl rfl rfl Try.sizeOf27 rfl rfl (List.forall_mem_cons.2 ⟨rfl, List.forall_mem_cons.2 ⟨rfl, List.forall_mem_nil _⟩⟩) (hS24o4x2.front 2 rfl) (fun H24o10 hS24o10 hxx => ?_)
          replace hS24o10 : St H0 NoB NoB [blkE g24o8 (.cells #[I (0), I (0)] 27), rdE r24o4 ([1] : List Int), rdE v24o3 ([(LRow.mk ([1]) 1 2), (LRow.mk ([1]) 1 3)] : List LRow), rdE r24o0 countL.Low, rdE r24o0x2 countL.High, rdE r24o0x3 countL.Start, rdE r24o0x4 countL.Jumps, rdE r24o0x5 countL.Bad, blkE g22o8 (.cells #[I (0), I (0)] 27), rdE r22o3 ([2] : List Int), rdE v11 ([1] : List Int), blkE g20o8 (.cells #[I (0), I (0)] 27), rdE v2 ([1] : List Int), blkE g14 (.cells #[v11, I (1), I (2)] 34), blkE g5 (.cells #[v2, I (1), I (3)] 34)] H24o10 := hS24o10
          refine ⟨Ext.mono hxx (labS_of 0 rfl (fun _ _ => trivial)), ?_⟩
          refine wpR_end (by kernel_rfl) ?_
          exact ⟨r24o4, g24o8, a23_3, a23_5, a23_6, a23_7, a23_8, rfl, rfl, (hS24o10.drop (sk (sk (sn (sn (sn (sn (sn (sn (sk (sk (sk (sk (sk (sk (sk (List.Sublist.slnil)))))))))))))))))⟩
      · refine exE rfl rfl ?_
        refine e_alloc rfl Try.zeroValue27 hS24o0 (fun g24o8 H24o8 hS24o8 hxx => ?_)
        replace hS24o8 : St H0 NoB NoB [blkE g24o8 (.cells #[I (0), I (0)] 27), rdE r24o0 countL.Low, rdE r24o0x2 countL.High, rdE r24o0x3 countL.Start, rdE r24o0x4 countL.Jumps, rdE r24o0x5 countL.Bad, blkE g22o8 (.cells #[I (0), I (0)] 27), rdE r22o3 ([2] : List Int), rdE v11 ([1] : List Int), blkE g20o8 (.cells #[I (0), I (0)] 27), rdE v2 ([1] : List Int), blkE g14 (.cells #[v11, I (1), I (2)] 34), blkE g5 (.cells #[v2, I (1), I (3)] 34)] H24o8 := hS24o8
        refine ⟨Ext.mono hxx (fun _ h => h.elim), ?_⟩
        refine wpR_n [3] (by kernel_rfl) ?_
        refine List.forall_mem_cons.2 ⟨?_, List.forall_mem_nil _⟩
        refine exE rfl rfl ?_
        refine e_buildSlice (vs := [Value.agg #[v11, I (1), I (2)], Value.agg #[v2, I (1), I (3)]]) (xs := ([(LRow.mk ([1]) 1 2), (LRow.mk ([1]) 1 3)] : List LRow)) rfl Try.underlying22 Try.zeroValue34 rfl Try.sizeOf34 (par2 (v0 := Value.agg #[v11, I (1), I (2)]) (v1 := Value.agg #[v2, I (1), I (3)]) rfl rfl) rfl hS24o8 (RdVs.cons (Rd.lRow.2 ⟨_, rfl, (hS24o8.rdS 8 rfl), (by first | assumption | (constructor <;> (dsimp only; omega)) | (constructor <;> omega)), (by first | assumption | (constructor <;> (dsimp only; omega)) | (constructor <;> omega))⟩) (RdVs.cons (Rd.lRow.2 ⟨_, rfl, (hS24o8.rdS 10 rfl), (by first | assumption | (constructor <;> (dsimp only; omega)) | (constructor <;> omega)), (by first | assumption | (constructor <;> (dsimp only; omega)) | (constructor <;> omega))⟩) (RdVs.nil))) (by decide) (by decide) (fun v24o3 H24o3 hS24o3 hxx hvv24o3 => ?_)
        replace hS24o3 : St H0 NoB NoB [rowE 34 v24o3 ([(LRow.mk ([1]) 1 2), (LRow.mk ([1]) 1 3)] : List LRow), blkE g24o8 (.cells #[I (0), I (0)] 27), rdE r24o0 countL.Low, rdE r24o0x2 countL.High, rdE r24o0x3 countL.Start, rdE r24o0x4 countL.Jumps, rdE r24o0x5 countL.Bad, blkE g22o8 (.cells #[I (0), I (0)] 27), rdE r22o3 ([2] : List Int), rdE v11 ([1] : List Int), blkE g20o8 (.cells #[I (0), I (0)] 27), rdE v2 ([1] : List Int), blkE g14 (.cells #[v11, I (1), I (2)] 34), blkE g5 (.cells #[v2, I (1), I (3)] 34)] H24o3 := hS24o3
        refine ⟨Ext.mono hxx (fun _ h => h.elim), ?_⟩
        refine wpR_n [4] (by kernel_rfl) ?_
        refine List.forall_mem_cons.2 ⟨?_, List.forall_mem_nil _⟩
        have hS24o4 : St H0 NoB NoB [rdE v24o3 ([(LRow.mk ([1]) 1 2), (LRow.mk ([1]) 1 3)] : List LRow), blkE g24o8 (.cells #[I (0), I (0)] 27), rdE r24o0 countL.Low, rdE r24o0x2 countL.High, rdE r24o0x3 countL.Start, rdE r24o0x4 countL.Jumps, rdE r24o0x5 countL.Bad, blkE g22o8 (.cells #[I (0), I (0)] 27), rdE r22o3 ([2] : List Int), rdE v11 ([1] : List Int), blkE g20o8 (.cells #[I (0), I (0)] 27), rdE v2 ([1] : List Int), blkE g14 (.cells #[v11, I (1), I (2)] 34), blkE g5 (.cells #[v2, I (1), I (3)] 34)] H24o3 := St.fin hS24o3
        refine exE rfl rfl ?_
        refine e_call rfl Try.call37 (arr2 (v0 := Value.agg #[r24o0, r24o0x2, r24o0x3, r24o0x4, r24o0x5]) (v1 := v24o3) rfl rfl) ((by have h__ := Most_L r24o0 r24o0x2 r24o0x3 r24o0x4 r24o0x5 v24o3 countL ([(LRow.mk ([1]) 1 2), (LRow.mk ([1]) 1 3)]) (hS24o4.rdS 2 rfl) (hS24o4.rdS 3 rfl) (hS24o4.rdS 4 rfl) (hS24o4.rdS 5 rfl) (hS24o4.rdS 6 rfl) (hS24o4.rdS 0 rfl) ; rw [count_most.1, count_most.2] at h__; exact h__)) ?_
        rintro _ H24o4 ⟨hxx, r24o4, rfl, hrr24o4⟩
        have hS24o4x2 : St H0 NoB NoB [rdE r24o4 ([1] : List Int), rdE v24o3 ([(LRow.mk ([1]) 1 2), (LRow.mk ([1]) 1 3)] : List LRow), blkE g24o8 (.cells #[I (0), I (0)] 27), rdE r24o0 countL.Low, rdE r24o0x2 countL.High, rdE r24o0x3 countL.Start, rdE r24o0x4 countL.Jumps, rdE r24o0x5 countL.Bad, blkE g22o8 (.cells #[I (0), I (0)] 27), rdE r22o3 ([2] : List Int), rdE v11 ([1] : List Int), blkE g20o8 (.cells #[I (0), I (0)] 27), rdE v2 ([1] : List Int), blkE g14 (.cells #[v11, I (1), I (2)] 34), blkE g5 (.cells #[v2, I (1), I (3)] 34)] H24o4 := hS24o4.res hxx hrr24o4
        refine ⟨Ext.mono hxx (fun _ h => h.elim), ?_⟩
        refine wpR_q 5 (by kernel_rfl) rfl (quietAt rfl rfl (q_move (v := Value.tuple #[r24o4, Value.agg #[I (0), I (0)]]) rfl rfl)) ?_
        refine wpR_q 6 (by kernel_rfl) rfl (quietAt rfl rfl (q_extract (vs := #[r24o4, Value.agg #[I (0), I (0)]]) (v := r24o4) rfl rfl rfl)) ?_
        refine wpR_q 7 (by kernel_rfl) rfl (quietAt rfl rfl (q_extract (vs := #[r24o4, Value.agg #[I (0), I (0)]]) (v := Value.agg #[I (0), I (0)]) rfl rfl rfl)) ?_
        refine wpR_q 9 (by kernel_rfl) rfl (quietAt rfl rfl (q_assign (v := r24o4) rfl rfl)) ?_
        refine wpR_n [10] (by kernel_rfl) ?_
        refine List.forall_mem_cons.2 ⟨?_, List.forall_mem_nil _⟩
        refine exE rfl rfl ?_
        refine e_storeBlkA (cs' := #[I (0), I (0)]) rfl rfl rfl Try.sizeOf27 rfl rfl (List.forall_mem_cons.2 ⟨rfl, List.forall_mem_cons.2 ⟨rfl, List.forall_mem_nil _⟩⟩) (hS24o4x2.front 2 rfl) (fun H24o10 hS24o10 hxx => ?_)
        replace hS24o10 : St H0 NoB NoB [blkE g24o8 (.cells #[I (0), I (0)] 27), rdE r24o4 ([1] : List Int), rdE v24o3 ([(LRow.mk ([1]) 1 2), (LRow.mk ([1]) 1 3)] : List LRow), rdE r24o0 countL.Low, rdE r24o0x2 countL.High, rdE r24o0x3 countL.Start, rdE r24o0x4 countL.Jumps, rdE r24o0x5 countL.Bad, blkE g22o8 (.cells #[I (0), I (0)] 27), rdE r22o3 ([2] : List Int), rdE v11 ([1] : List Int), blkE g20o8 (.cells #[I (0), I (0)] 27), rdE v2 ([1] : List Int), blkE g14 (.cells #[v11, I (1), I (2)] 34), blkE g5 (.cells #[v2, I (1), I (3)] 34)] H24o10 := hS24o10
        refine ⟨Ext.mono hxx (labS_of 0 rfl (fun _ _ => trivial)), ?_⟩
        refine wpR_end (by kernel_rfl) ?_
        exact ⟨r24o4, g24o8, a23_3, a23_5, a23_6, a23_7, a23_8, rfl, rfl, (hS24o10.drop (sk (sk (sn (sn (sn (sn (sn (sn (sk (sk (sk (sk (sk (sk (sk (List.Sublist.slnil)))))))))))))))))⟩
    · refine exE rfl rfl ?_
      refine e_buildSlice (vs := [Value.agg #[v11, I (1), I (2)], Value.agg #[v2, I (1), I (3)]]) (xs := ([(LRow.mk ([1]) 1 2), (LRow.mk ([1]) 1 3)] : List LRow)) rfl Try.underlying22 Try.zeroValue34 rfl Try.sizeOf34 (par2 (v0 := Value.agg #[v11, I (1), I (2)]) (v1 := Value.agg #[v2, I (1), I (3)]) rfl rfl) rfl hS23 (RdVs.cons (Rd.lRow.2 ⟨_, rfl, (hS23.rdS 2 rfl), (by first | assumption | (constructor <;> (dsimp only; omega)) | (constructor <;> omega)), (by first | assumption | (constructor <;> (dsimp only; omega)) | (constructor <;> omega))⟩) (RdVs.cons (Rd.lRow.2 ⟨_, rfl, (hS23.rdS 4 rfl), (by first | assumption | (constructor <;> (dsimp only; omega)) | (constructor <;> omega)), (by first | assumption | (constructor <;> (dsimp only; omega)) | (constructor <;> omega))⟩) (RdVs.nil))) (by decide) (by decide) (fun v24o3 H24o3 hS24o3 hxx hvv24o3 => ?_)
      replace hS24o3 : St H0 NoB NoB [rowE 34 v24o3 ([(LRow.mk ([1]) 1 2), (LRow.mk ([1]) 1 3)] : List LRow), blkE g22o8 (.cells #[I (0), I (0)] 27), rdE r22o3 ([2] : List Int), rdE v11 ([1] : List Int), blkE g20o8 (.cells #[I (0), I (0)] 27), rdE v2 ([1] : List Int), blkE g14 (.cells #[v11, I (1), I (2)] 34), blkE g5 (.cells #[v2, I (1), I (3)] 34)] H24o3 := hS24o3
      refine ⟨Ext.mono hxx (fun _ h => h.elim), ?_⟩
      refine wpR_n [0, 8] (by kernel_rfl) ?_
      refine List.forall_mem_cons.2 ⟨?_, List.forall_mem_cons.2 ⟨?_, List.forall_mem_nil _⟩⟩
      · refine exE rfl rfl ?_
        refine e_call rfl Try.call66 arr0 (count_L (S := SL NoB [rowE 34 v24o3 ([(LRow.mk ([1]) 1 2), (LRow.mk ([1]) 1 3)] : List LRow), blkE g22o8 (.cells #[I (0), I (0)] 27), rdE r22o3 ([2] : List Int), rdE v11 ([1] : List Int), blkE g20o8 (.cells #[I (0), I (0)] 27), rdE v2 ([1] : List Int), blkE g14 (.cells #[v11, I (1), I (2)] 34), blkE g5 (.cells #[v2, I (1), I (3)] 34)])) ?_
        rintro _ H24o0 ⟨hxx, r24o0, r24o0x2, r24o0x3, r24o0x4, r24o0x5, rfl, hrr24o0, hrr24o0x2, hrr24o0x3, hrr24o0x4, hrr24o0x5⟩
        have hS24o0 : St H0 NoB NoB [rdE r24o0 countL.Low, rdE r24o0x2 countL.High, rdE r24o0x3 countL.Start, rdE r24o0x4 countL.Jumps, rdE r24o0x5 countL.Bad, rowE 34 v24o3 ([(LRow.mk ([1]) 1 2), (LRow.mk ([1]) 1 3)] : List LRow), blkE g22o8 (.cells #[I (0), I (0)] 27), rdE r22o3 ([2] : List Int), rdE v11 ([1] : List Int), blkE g20o8 (.cells #[I (0), I (0)] 27), rdE v2 ([1] : List Int), blkE g14 (.cells #[v11, I (1), I (2)] 34), blkE g5 (.cells #[v2, I (1), I (3)] 34)] H24o0 := ((((((hS24o3.ext hxx).rd (hrr24o0x5.sub fun b hb => ⟨hb, SL.lt hS24o3 hb⟩)).rd (hrr24o0x4.sub fun b hb => ⟨(SL_rd hb), SL.lt hS24o3 (SL_rd hb)⟩)).rd (hrr24o0x3.sub fun b hb => ⟨(SL_rd (SL_rd hb)), SL.lt hS24o3 (SL_rd (SL_rd hb))⟩)).rd (hrr24o0x2.sub fun b hb => ⟨(SL_rd (SL_rd (SL_rd hb))), SL.lt hS24o3 (SL_rd (SL_rd (SL_rd hb)))⟩)).rd (hrr24o0.sub fun b hb => ⟨(SL_rd (SL_rd (SL_rd (SL_rd hb)))), SL.lt hS24o3 (SL_rd (SL_rd (SL_rd (SL_rd hb))))⟩))
        refine ⟨Ext.mono hxx (fun _ h => h.elim), ?_⟩
        refine wpR_n [4, 8] (by kernel_rfl) ?_
        refine List.forall_mem_cons.2 ⟨?_, List.forall_mem_cons.2 ⟨?_, List.forall_mem_nil _⟩⟩
        · have hS24o4 : St H0 NoB NoB [rdE v24o3 ([(LRow.mk ([1]) 1 2), (LRow.mk ([1]) 1 3)] : List LRow), rdE r24o0 countL.Low, rdE r24o0x2 countL.High, rdE r24o0x3 countL.Start, rdE r24o0x4 countL.Jumps, rdE r24o0x5 countL.Bad, blkE g22o8 (.cells #[I (0), I (0)] 27), rdE r22o3 ([2] : List Int), rdE v11 ([1] : List Int), blkE g20o8 (.cells #[I (0), I (0)] 27), rdE v2 ([1] : List Int), blkE g14 (.cells #[v11, I (1), I (2)] 34), blkE g5 (.cells #[v2, I (1), I (3)] 34)] H24o0 := St.fin (hS24o0.front 5 rfl)
          refine exE rfl rfl ?_
          refine e_call rfl Try.call37 (arr2 (v0 := Value.agg #[r24o0, r24o0x2, r24o0x3, r24o0x4, r24o0x5]) (v1 := v24o3) rfl rfl) ((by have h__ := Most_L r24o0 r24o0x2 r24o0x3 r24o0x4 r24o0x5 v24o3 countL ([(LRow.mk ([1]) 1 2), (LRow.mk ([1]) 1 3)]) (hS24o4.rdS 1 rfl) (hS24o4.rdS 2 rfl) (hS24o4.rdS 3 rfl) (hS24o4.rdS 4 rfl) (hS24o4.rdS 5 rfl) (hS24o4.rdS 0 rfl) ; rw [count_most.1, count_most.2] at h__; exact h__)) ?_
          rintro _ H24o4 ⟨hxx, r24o4, rfl, hrr24o4⟩
          have hS24o4x2 : St H0 NoB NoB [rdE r24o4 ([1] : List Int), rdE v24o3 ([(LRow.mk ([1]) 1 2), (LRow.mk ([1]) 1 3)] : List LRow), rdE r24o0 countL.Low, rdE r24o0x2 countL.High, rdE r24o0x3 countL.Start, rdE r24o0x4 countL.Jumps, rdE r24o0x5 countL.Bad, blkE g22o8 (.cells #[I (0), I (0)] 27), rdE r22o3 ([2] : List Int), rdE v11 ([1] : List Int), blkE g20o8 (.cells #[I (0), I (0)] 27), rdE v2 ([1] : List Int), blkE g14 (.cells #[v11, I (1), I (2)] 34), blkE g5 (.cells #[v2, I (1), I (3)] 34)] H24o4 := hS24o4.res hxx hrr24o4
          refine ⟨Ext.mono hxx (fun _ h => h.elim), ?_⟩
          refine wpR_q 5 (by kernel_rfl) rfl (quietAt rfl rfl (q_move (v := Value.tuple #[r24o4, Value.agg #[I (0), I (0)]]) rfl rfl)) ?_
          refine wpR_q 6 (by kernel_rfl) rfl (quietAt rfl rfl (q_extract (vs := #[r24o4, Value.agg #[I (0), I (0)]]) (v := r24o4) rfl rfl rfl)) ?_
          refine wpR_q 7 (by kernel_rfl) rfl (quietAt rfl rfl (q_extract (vs := #[r24o4, Value.agg #[I (0), I (0)]]) (v := Value.agg #[I (0), I (0)]) rfl rfl rfl)) ?_
          refine wpR_n [8] (by kernel_rfl) ?_
          refine List.forall_mem_cons.2 ⟨?_, List.forall_mem_nil _⟩
          refine exE rfl rfl ?_
          refine e_alloc rfl Try.zeroValue27 hS24o4x2 (fun g24o8 H24o8 hS24o8 hxx => ?_)
          replace hS24o8 : St H0 NoB NoB [blkE g24o8 (.cells #[I (0), I (0)] 27), rdE r24o4 ([1] : List Int), rdE v24o3 ([(LRow.mk ([1]) 1 2), (LRow.mk ([1]) 1 3)] : List LRow), rdE r24o0 countL.Low, rdE r24o0x2 countL.High, rdE r24o0x3 countL.Start, rdE r24o0x4 countL.Jumps, rdE r24o0x5 countL.Bad, blkE g22o8 (.cells #[I (0), I (0)] 27), rdE r22o3 ([2] : List Int), rdE v11 ([1] : List Int), blkE g20o8 (.cells #[I (0), I (0)] 27), rdE v2 ([1] : List Int), blkE g14 (.cells #[v11, I (1), I (2)] 34), blkE g5 (.cells #[v2, I (1), I (3)] 34)] H24o8 := hS24o8
          refine ⟨Ext.mono hxx (fun _ h => h.elim), ?_⟩
          refine wpR_q 9 (by kernel_rfl) rfl (quietAt rfl rfl (q_assign (v := r24o4) rfl rfl)) ?_
          refine wpR_n [10] (by kernel_rfl) ?_
          refine List.forall_mem_cons.2 ⟨?_, List.forall_mem_nil _⟩
          refine exE rfl rfl ?_
          refine e_storeBlkA (cs' := #[I (0), I (0)]) rfl rfl rfl Try.sizeOf27 rfl rfl (List.forall_mem_cons.2 ⟨rfl, List.forall_mem_cons.2 ⟨rfl, List.forall_mem_nil _⟩⟩) hS24o8 (fun H24o10 hS24o10 hxx => ?_)
          replace hS24o10 : St H0 NoB NoB [blkE g24o8 (.cells #[I (0), I (0)] 27), rdE r24o4 ([1] : List Int), rdE v24o3 ([(LRow.mk ([1]) 1 2), (LRow.mk ([1]) 1 3)] : List LRow), rdE r24o0 countL.Low, rdE r24o0x2 countL.High, rdE r24o0x3 countL.Start, rdE r24o0x4 countL.Jumps, rdE r24o0x5 countL.Bad, blkE g22o8 (.cells #[I (0), I (0)] 27), rdE r22o3 ([2] : List Int), rdE v11 ([1] : List Int), blkE g20o8 (.cells #[I (0), I (0)] 27), rdE v2 ([1] : List Int), blkE g14 (.cells #[v11, I (1), I (2)] 34), blkE g5 (.cells #[v2, I (1), I (3)] 34)] H24o10 := hS24o10
          refine ⟨Ext.mono hxx (labS_of 0 rfl (fun _ _ => trivial)), ?_⟩
          refine wpR_end (by kernel_rfl) ?_
          exact ⟨r24o4, g24o8, a23_3, a23_5, a23_6, a23_7, a23_8, rfl, rfl, (hS24o10.drop (sk (sk (sn (sn (sn (sn (sn (sn (sk (sk (sk (sk (sk (sk (sk (List.Sublist.slnil)))))))))))))))))⟩
        · refine exE rfl rfl ?_
          refine e_alloc rfl Try.zeroValue27 hS24o0 (fun g24o8 H24o8 hS24o8 hxx => ?_)
          replace hS24o8 : St H0 NoB NoB [blkE g24o8 (.cells #[I (0), I (0)] 27), rdE r24o0 countL.Low, rdE r24o0x2 countL.High, rdE r24o0x3 countL.Start, rdE r24o0x4 countL.Jumps, rdE r24o0x5 countL.Bad, rowE 34 v24o3 ([(LRow.mk ([1]) 1 2), (LRow.mk ([1]) 1 3)] : List LRow), blkE g22o8 (.cells #[I (0), I (0)] 27), rdE r22o3 ([2] : List Int), rdE v11 ([1] : List Int), blkE g20o8 (.cells #[I (0), I (0)] 27), rdE v2 ([1] : List Int), blkE g14 (.cells #[v11, I (1), I (2)] 34), blkE g5 (.cells #[v2, I (1), I (3)] 34)] H24o8 := hS24o8
          refine ⟨Ext.mono hxx (fun _ h => h.elim), ?_⟩
          refine wpR_n [4] (by kernel_rfl) ?_
          refine List.forall_mem_cons.2 ⟨?_, List.forall_mem_nil _⟩
          have hS24o4 : St H0 NoB NoB [rdE v24o3 ([(LRow.mk ([1]) 1 2), (LRow.mk ([1]) 1 3)] : List LRow), blkE g24o8 (.cells #[I (0), I (0)] 27), rdE r24o0 countL.Low, rdE r24o0x2 countL.High, rdE r24o0x3 countL.Start, rdE r24o0x4 countL.Jumps, rdE r24o0x5 countL.Bad, blkE g22o8 (.cells #[I (0), I (0)] 27), rdE r22o3 ([2] : List Int), rdE v11 ([1] : List Int), blkE g20o8 (.cells #[I (0), I (0)] 27), rdE v2 ([1] : List Int), blkE g14 (.cells #[v11, I (1), I (2)] 34), blkE g5 (.cells #[v2, I (1), I (3)] 34)] H24o8 := St.fin (hS24o8.front 6 rfl)
          refine exE rfl rfl ?_
          refine e_call rfl Try.call37 (arr2 (v0 := Value.agg #[r24o0, r24o0x2, r24o0x3, r24o0x4, r24o0x5]) (v1 := v24o3) rfl rfl) ((by have h__ := Most_L r24o0 r24o0x2 r24o0x3 r24o0x4 r24o0x5 v24o3 countL ([(LRow.mk ([1]) 1 2), (LRow.mk ([1]) 1 3)]) (hS24o4.rdS 2 rfl) (hS24o4.rdS 3 rfl) (hS24o4.rdS 4 rfl) (hS24o4.rdS 5 rfl) (hS24o4.rdS 6 rfl) (hS24o4.rdS 0 rfl) ; rw [count_most.1, count_most.2] at h__; exact h__)) ?_
          rintro _ H24o4 ⟨hxx, r24o4, rfl, hrr24o4⟩
          have hS24o4x2 : St H0 NoB NoB [rdE r24o4 ([1] : List Int), rdE v24o3 ([(LRow.mk ([1]) 1 2), (LRow.mk ([1]) 1 3)] : List LRow), blkE g24o8 (.cells #[I (0), I (0)] 27), rdE r24o0 countL.Low, rdE r24o0x2 countL.High, rdE r24o0x3 countL.Start, rdE r24o0x4 countL.Jumps, rdE r24o0x5 countL.Bad, blkE g22o8 (.cells #[I (0), I (0)] 27), rdE r22o3 ([2] : List Int), rdE v11 ([1] : List Int), blkE g20o8 (.cells #[I (0), I (0)] 27), rdE v2 ([1] : List Int), blkE g14 (.cells #[v11, I (1), I (2)] 34), blkE g5 (.cells #[v2, I (1), I (3)] 34)] H24o4 := hS24o4.res hxx hrr24o4
          refine ⟨Ext.mono hxx (fun _ h => h.elim), ?_⟩
          refine wpR_q 5 (by kernel_rfl) rfl (quietAt rfl rfl (q_move (v := Value.tuple #[r24o4, Value.agg #[I (0), I (0)]]) rfl rfl)) ?_
          refine wpR_q 6 (by kernel_rfl) rfl (quietAt rfl rfl (q_extract (vs := #[r24o4, Value.agg #[I (0), I (0)]]) (v := r24o4) rfl rfl rfl)) ?_
          refine wpR_q 7 (by kernel_rfl) rfl (quietAt rfl rfl (q_extract (vs := #[r24o4, Value.agg #[I (0), I (0)]]) (v := Value.agg #[I (0), I (0)]) rfl rfl rfl)) ?_
          refine wpR_q 9 (by kernel_rfl) rfl (quietAt rfl rfl (q_assign (v := r24o4) rfl rfl)) ?_
          refine wpR_n [10] (by kernel_rfl) ?_
          refine List.forall_mem_cons.2 ⟨?_, List.forall_mem_nil _⟩
          refine exE rfl rfl ?_
          refine e_storeBlkA (cs' := #[I (0), I (0)]) rfl rfl rfl Try.sizeOf27 rfl rfl (List.forall_mem_cons.2 ⟨rfl, List.forall_mem_cons.2 ⟨rfl, List.forall_mem_nil _⟩⟩) (hS24o4x2.front 2 rfl) (fun H24o10 hS24o10 hxx => ?_)
          replace hS24o10 : St H0 NoB NoB [blkE g24o8 (.cells #[I (0), I (0)] 27), rdE r24o4 ([1] : List Int), rdE v24o3 ([(LRow.mk ([1]) 1 2), (LRow.mk ([1]) 1 3)] : List LRow), rdE r24o0 countL.Low, rdE r24o0x2 countL.High, rdE r24o0x3 countL.Start, rdE r24o0x4 countL.Jumps, rdE r24o0x5 countL.Bad, blkE g22o8 (.cells #[I (0), I (0)] 27), rdE r22o3 ([2] : List Int), rdE v11 ([1] : List Int), blkE g20o8 (.cells #[I (0), I (0)] 27), rdE v2 ([1] : List Int), blkE g14 (.cells #[v11, I (1), I (2)] 34), blkE g5 (.cells #[v2, I (1), I (3)] 34)] H24o10 := hS24o10
          refine ⟨Ext.mono hxx (labS_of 0 rfl (fun _ _ => trivial)), ?_⟩
          refine wpR_end (by kernel_rfl) ?_
          exact ⟨r24o4, g24o8, a23_3, a23_5, a23_6, a23_7, a23_8, rfl, rfl, (hS24o10.drop (sk (sk (sn (sn (sn (sn (sn (sn (sk (sk (sk (sk (sk (sk (sk (List.Sublist.slnil)))))))))))))))))⟩
      · refine exE rfl rfl ?_
        refine e_alloc rfl Try.zeroValue27 hS24o3 (fun g24o8 H24o8 hS24o8 hxx => ?_)
        replace hS24o8 : St H0 NoB NoB [blkE g24o8 (.cells #[I (0), I (0)] 27), rowE 34 v24o3 ([(LRow.mk ([1]) 1 2), (LRow.mk ([1]) 1 3)] : List LRow), blkE g22o8 (.cells #[I (0), I (0)] 27), rdE r22o3 ([2] : List Int), rdE v11 ([1] : List Int), blkE g20o8 (.cells #[I (0), I (0)] 27), rdE v2 ([1] : List Int), blkE g14 (.cells #[v11, I (1), I (2)] 34), blkE g5 (.cells #[v2, I (1), I (3)] 34)] H24o8 := hS24o8
        refine ⟨Ext.mono hxx (fun _ h => h.elim), ?_⟩
        refine wpR_n [0] (by kernel_rfl) ?_
        refine List.forall_mem_cons.2 ⟨?_, List.forall_mem_nil _⟩
        refine exE rfl rfl ?_
        refine e_call rfl Try.call66 arr0 (count_L (S := SL NoB [blkE g24o8 (.cells #[I (0), I (0)] 27), rowE 34 v24o3 ([(LRow.mk ([1]) 1 2), (LRow.mk ([1]) 1 3)] : List LRow), blkE g22o8 (.cells #[I (0), I (0)] 27), rdE r22o3 ([2] : List Int), rdE v11 ([1] : List Int), blkE g20o8 (.cells #[I (0), I (0)] 27), rdE v2 ([1] : List Int), blkE g14 (.cells #[v11, I (1), I (2)] 34), blkE g5 (.cells #[v2, I (1), I (3)] 34)])) ?_
        rintro _ H24o0 ⟨hxx, r24o0, r24o0x2, r24o0x3, r24o0x4, r24o0x5, rfl, hrr24o0, hrr24o0x2, hrr24o0x3, hrr24o0x4, hrr24o0x5⟩
        have hS24o0 : St H0 NoB NoB [rdE r24o0 countL.Low, rdE r24o0x2 countL.High, rdE r24o0x3 countL.Start, rdE r24o0x4 countL.Jumps, rdE r24o0x5 countL.Bad, blkE g24o8 (.cells #[I (0), I (0)] 27), rowE 34 v24o3 ([(LRow.mk ([1]) 1 2), (LRow.mk ([1]) 1 3)] : List LRow), blkE g22o8 (.cells #[I (0), I (0)] 27), rdE r22o3 ([2] : List Int), rdE v11 ([1] : List Int), blkE g20o8 (.cells #[I (0), I (0)] 27), rdE v2 ([1] : List Int), blkE g14 (.cells #[v11, I (1), I (2)] 34), blkE g5 (.cells #[v2, I (1), I (3)] 34)] H24o0 := ((((((hS24o8.ext hxx).rd (hrr24o0x5.sub fun b hb => ⟨hb, SL.lt hS24o8 hb⟩)).rd (hrr24o0x4.sub fun b hb => ⟨(SL_rd hb), SL.lt hS24o8 (SL_rd hb)⟩)).rd (hrr24o0x3.sub fun b hb => ⟨(SL_rd (SL_rd hb)), SL.lt hS24o8 (SL_rd (SL_rd hb))⟩)).rd (hrr24o0x2.sub fun b hb => ⟨(SL_rd (SL_rd (SL_rd hb))), SL.lt hS24o8 (SL_rd (SL_rd (SL_rd hb)))⟩)).rd (hrr24o0.sub fun b hb => ⟨(SL_rd (SL_rd (SL_rd (SL_rd hb)))), SL.lt hS24o8 (SL_rd (SL_rd (SL_rd (SL_rd hb))))⟩))
        refine ⟨Ext.mono hxx (fun _ h => h.elim), ?_⟩
        refine wpR_n [4] (by kernel_rfl) ?_
        refine List.forall_mem_cons.2 ⟨?_, List.forall_mem_nil _⟩
        have hS24o4 : St H0 NoB NoB [rdE v24o3 ([(LRow.mk ([1]) 1 2), (LRow.mk ([1]) 1 3)] : List LRow), rdE r24o0 countL.Low, rdE r24o0x2 countL.High, rdE r24o0x3 countL.Start, rdE r24o0x4 countL.Jumps, rdE r24o0x5 countL.Bad, blkE g24o8 (.cells #[I (0), I (0)] 27), blkE g22o8 (.cells #[I (0), I (0)] 27), rdE r22o3 ([2] : List Int), rdE v11 ([1] : List Int), blkE g20o8 (.cells #[I (0), I (0)] 27), rdE v2 ([1] : List Int), blkE g14 (.cells #[v11, I (1), I (2)] 34), blkE g5 (.cells #[v2, I (1), I (3)] 34)] H24o0 := St.fin (hS24o0.front 6 rfl)
        refine exE rfl rfl ?_
        refine e_call rfl Try.call37 (arr2 (v0 := Value.agg #[r24o0, r24o0x2, r24o0x3, r24o0x4, r24o0x5]) (v1 := v24o3) rfl rfl) ((by have h__ := Most_L r24o0 r24o0x2 r24o0x3 r24o0x4 r24o0x5 v24o3 countL ([(LRow.mk ([1]) 1 2), (LRow.mk ([1]) 1 3)]) (hS24o4.rdS 1 rfl) (hS24o4.rdS 2 rfl) (hS24o4.rdS 3 rfl) (hS24o4.rdS 4 rfl) (hS24o4.rdS 5 rfl) (hS24o4.rdS 0 rfl) ; rw [count_most.1, count_most.2] at h__; exact h__)) ?_
        rintro _ H24o4 ⟨hxx, r24o4, rfl, hrr24o4⟩
        have hS24o4x2 : St H0 NoB NoB [rdE r24o4 ([1] : List Int), rdE v24o3 ([(LRow.mk ([1]) 1 2), (LRow.mk ([1]) 1 3)] : List LRow), rdE r24o0 countL.Low, rdE r24o0x2 countL.High, rdE r24o0x3 countL.Start, rdE r24o0x4 countL.Jumps, rdE r24o0x5 countL.Bad, blkE g24o8 (.cells #[I (0), I (0)] 27), blkE g22o8 (.cells #[I (0), I (0)] 27), rdE r22o3 ([2] : List Int), rdE v11 ([1] : List Int), blkE g20o8 (.cells #[I (0), I (0)] 27), rdE v2 ([1] : List Int), blkE g14 (.cells #[v11, I (1), I (2)] 34), blkE g5 (.cells #[v2, I (1), I (3)] 34)] H24o4 := hS24o4.res hxx hrr24o4
        refine ⟨Ext.mono hxx (fun _ h => h.elim), ?_⟩
        refine wpR_q 5 (by kernel_rfl) rfl (quietAt rfl rfl (q_move (v := Value.tuple #[r24o4, Value.agg #[I (0), I (0)]]) rfl rfl)) ?_
        refine wpR_q 6 (by kernel_rfl) rfl (quietAt rfl rfl (q_extract (vs := #[r24o4, Value.agg #[I (0), I (0)]]) (v := r24o4) rfl rfl rfl)) ?_
        refine wpR_q 7 (by kernel_rfl) rfl (quietAt rfl rfl (q_extract (vs := #[r24o4, Value.agg #[I (0), I (0)]]) (v := Value.agg #[I (0), I (0)]) rfl rfl rfl)) ?_
        refine wpR_q 9 (by kernel_rfl) rfl (quietAt rfl rfl (q_assign (v := r24o4) rfl rfl)) ?_
        refine wpR_n [10] (by kernel_rfl) ?_
        refine List.forall_mem_cons.2 ⟨?_, List.forall_mem_nil _⟩
        refine exE rfl rfl ?_
        refine e_storeBlkA (cs' := #[I (0), I (0)]) rfl rfl rfl Try.sizeOf27 rfl rfl (List.forall_mem_cons.2 ⟨rfl, List.forall_mem_cons.2 ⟨rfl, List.forall_mem_nil _⟩⟩) (hS24o4x2.front 7 rfl) (fun H24o10 hS24o10 hxx => ?_)
        replace hS24o10 : St H0 NoB NoB [blkE g24o8 (.cells #[I (0), I (0)] 27), rdE r24o4 ([1] : List Int), rdE v24o3 ([(LRow.mk ([1]) 1 2), (LRow.mk ([1]) 1 3)] : List LRow), rdE r24o0 countL.Low, rdE r24o0x2 countL.High, rdE r24o0x3 countL.Start, rdE r24o0x4 countL.Jumps, rdE r24o0x5 countL.Bad, blkE g22o8 (.cells #[I (0), I (0)] 27), rdE r22o3 ([2] : List Int), rdE v11 ([1] : List Int), blkE g20o8 (.cells #[I (0), I (0)] 27), rdE v2 ([1] : List Int), blkE g14 (.cells #[v11, I (1), I (2)] 34), blkE g5 (.cells #[v2, I (1), I (3)] 34)] H24o10 := hS24o10
        refine ⟨Ext.mono hxx (labS_of 0 rfl (fun _ _ => trivial)), ?_⟩
        refine wpR_end (by kernel_rfl) ?_
        exact ⟨r24o4, g24o8, a23_3, a23_5, a23_6, a23_7, a23_8, rfl, rfl, (hS24o10.drop (sk (sk (sn (sn (sn (sn (sn (sn (sk (sk (sk (sk (sk (sk (sk (List.Sublist.slnil)))))))))))))))))⟩
    · refine exE rfl rfl ?_
      refine e_alloc rfl Try.zeroValue27 hS23 (fun g24o8 H24o8 hS24o8 hxx => ?_)
      replace hS24o8 : St H0 NoB NoB [blkE g24o8 (.cells #[I (0), I (0)] 27), blkE g22o8 (.cells #[I (0), I (0)] 27), rdE r22o3 ([2] : List Int), rdE v11 ([1] : List Int), blkE g20o8 (.cells #[I (0), I (0)] 27), rdE v2 ([1] : List Int), blkE g14 (.cells #[v11, I (1), I (2)] 34), blkE g5 (.cells #[v2, I (1), I (3)] 34)] H24o8 := hS24o8
      refine ⟨Ext.mono hxx (fun _ h => h.elim), ?_⟩
      refine wpR_n [0, 3] (by kernel_rfl) ?_
      refine List.forall_mem_cons.2 ⟨?_, List.forall_mem_cons.2 ⟨?_, List.forall_mem_nil _⟩⟩
      · refine exE rfl rfl ?_
        refine e_call rfl Try.call66 arr0 (count_L (S := SL NoB [blkE g24o8 (.cells #[I (0), I (0)] 27), blkE g22o8 (.cells #[I (0), I (0)] 27), rdE r22o3 ([2] : List Int), rdE v11 ([1] : List Int), blkE g20o8 (.cells #[I (0), I (0)] 27), rdE v2 ([1] : List Int), blkE g14 (.cells #[v11, I (1), I (2)] 34), blkE g5 (.cells #[v2, I (1), I (3)] 34)])) ?_
        rintro _ H24o0 ⟨hxx, r24o0, r24o0x2, r24o0x3, r24o0x4, r24o0x5, rfl, hrr24o0, hrr24o0x2, hrr24o0x3, hrr24o0x4, hrr24o0x5⟩
        have hS24o0 : St H0 NoB NoB [rdE r24o0 countL.Low, rdE r24o0x2 countL.High, rdE r24o0x3 countL.Start, rdE r24o0x4 countL.Jumps, rdE r24o0x5 countL.Bad, blkE g24o8 (.cells #[I (0), I (0)] 27), blkE g22o8 (.cells #[I (0), I (0)] 27), rdE r22o3 ([2] : List Int), rdE v11 ([1] : List Int), blkE g20o8 (.cells #[I (0), I (0)] 27), rdE v2 ([1] : List Int), blkE g14 (.cells #[v11, I (1), I (2)] 34), blkE g5 (.cells #[v2, I (1), I (3)] 34)] H24o0 := ((((((hS24o8.ext hxx).rd (hrr24o0x5.sub fun b hb => ⟨hb, SL.lt hS24o8 hb⟩)).rd (hrr24o0x4.sub fun b hb => ⟨(SL_rd hb), SL.lt hS24o8 (SL_rd hb)⟩)).rd (hrr24o0x3.sub fun b hb => ⟨(SL_rd (SL_rd hb)), SL.lt hS24o8 (SL_rd (SL_rd hb))⟩)).rd (hrr24o0x2.sub fun b hb => ⟨(SL_rd (SL_rd (SL_rd hb))), SL.lt hS24o8 (SL_rd (SL_rd (SL_rd hb)))⟩)).rd (hrr24o0.sub fun b hb => ⟨(SL_rd (SL_rd (SL_rd (SL_rd hb)))), SL.lt hS24o8 (SL_rd (SL_rd (SL_rd (SL_rd hb))))⟩))
        refine ⟨Ext.mono hxx (fun _ h => h.elim), ?_⟩
        refine wpR_n [3] (by kernel_rfl) ?_
        refine List.forall_mem_cons.2 ⟨?_, List.forall_mem_nil _⟩
        refine exE rfl rfl ?_
        refine e_buildSlice (vs := [Value.agg #[v11, I (1), I (2)], Value.agg #[v2, I (1), I (3)]]) (xs := ([(LRow.mk ([1]) 1 2), (LRow.mk ([1]) 1 3)] : List LRow)) rfl Try.underlying22 Try.zeroValue34 rfl Try.sizeOf34 (par2 (v0 := Value.agg #[v11, I (1), I (2)]) (v1 := Value.agg #[v2, I (1), I (3)]) rfl rfl) rfl hS24o0 (RdVs.cons (Rd.lRow.2 ⟨_, rfl, (hS24o0.rdS 8 rfl), (by first | assumption | (constructor <;> (dsimp only; omega)) | (constructor <;> omega)), (by first | assumption | (constructor <;> (dsimp only; omega)) | (constructor <;> omega))⟩) (RdVs.cons (Rd.lRow.2 ⟨_, rfl, (hS24o0.rdS 10 rfl), (by first | assumption | (constructor <;> (dsimp only; omega)) | (constructor <;> omega)), (by first | assumption | (constructor <;> (dsimp only; omega)) | (constructor <;> omega))⟩) (RdVs.nil))) (by decide) (by decide) (fun v24o3 H24o3 hS24o3 hxx hvv24o3 => ?_)
        replace hS24o3 : St H0 NoB NoB [rowE 34 v24o3 ([(LRow.mk ([1]) 1 2), (LRow.mk ([1]) 1 3)] : List LRow), rdE r24o0 countL.Low, rdE r24o0x2 countL.High, rdE r24o0x3 countL.Start, rdE r24o0x4 countL.Jumps, rdE r24o0x5 countL.Bad, blkE g24o8 (.cells #[I (0), I (0)] 27), blkE g22o8 (.cells #[I (0), I (0)] 27), rdE r22o3 ([2] : List Int), rdE v11 ([1] : List Int), blkE g20o8 (.cells #[I (0), I (0)] 27), rdE v2 ([1] : List Int), blkE g14 (.cells #[v11, I (1), I (2)] 34), blkE g5 (.cells #[v2, I (1), I (3)] 34)] H24o3 := hS24o3
        refine ⟨Ext.mono hxx (fun _ h => h.elim), ?_⟩
        refine wpR_n [4] (by kernel_rfl) ?_
        refine List.forall_mem_cons.2 ⟨?_, List.forall_mem_nil _⟩
        have hS24o4 : St H0 NoB NoB [rdE v24o3 ([(LRow.mk ([1]) 1 2), (LRow.mk ([1]) 1 3)] : List LRow), rdE r24o0 countL.Low, rdE r24o0x2 countL.High, rdE r24o0x3 countL.Start, rdE r24o0x4 countL.Jumps, rdE r24o0x5 countL.Bad, blkE g24o8 (.cells #[I (0), I (0)] 27), blkE g22o8 (.cells #[I (0), I (0)] 27), rdE r22o3 ([2] : List Int), rdE v11 ([1] : List Int), blkE g20o8 (.cells #[I (0), I (0)] 27), rdE v2 ([1] : List Int), blkE g14 (.cells #[v11, I (1), I (2)] 34), blkE g5 (.cells #[v2, I (1), I (3)] 34)] H24o3 := St.fin hS24o3
        refine exE rfl rfl ?_
        refine e_call rfl Try.call37 (arr2 (v0 := Value.agg #[r24o0, r24o0x2, r24o0x3, r24o0x4, r24o0x5]) (v1 := v24o3) rfl rfl) ((by have h__ := Most_L r24o0 r24o0x2 r24o0x3 r24o0x4 r24o0x5 v24o3 countL ([(LRow.mk ([1]) 1 2), (LRow.mk ([1]) 1 3)]) (hS24o4.rdS 1 rfl) (hS24o4.rdS 2 rfl) (hS24o4.rdS 3 rfl) (hS24o4.rdS 4 rfl) (hS24o4.rdS 5 rfl) (hS24o4.rdS 0 rfl) ; rw [count_most.1, count_most.2] at h__; exact h__)) ?_
        rintro _ H24o4 ⟨hxx, r24o4, rfl, hrr24o4⟩
        have hS24o4x2 : St H0 NoB NoB [rdE r24o4 ([1] : List Int), rdE v24o3 ([(LRow.mk ([1]) 1 2), (LRow.mk ([1]) 1 3)] : List LRow), rdE r24o0 countL.Low, rdE r24o0x2 countL.High, rdE r24o0x3 countL.Start, rdE r24o0x4 countL.Jumps, rdE r24o0x5 countL.Bad, blkE g24o8 (.cells #[I (0), I (0)] 27), blkE g22o8 (.cells #[I (0), I (0)] 27), rdE r22o3 ([2] : List Int), rdE v11 ([1] : List Int), blkE g20o8 (.cells #[I (0), I (0)] 27), rdE v2 ([1] : List Int), blkE g14 (.cells #[v11, I (1), I (2)] 34), blkE g5 (.cells #[v2, I (1), I (3)] 34)] H24o4 := hS24o4.res hxx hrr24o4
        refine ⟨Ext.mono hxx (fun _ h => h.elim), ?_⟩
        refine wpR_q 5 (by kernel_rfl) rfl (quietAt rfl rfl (q_move (v := Value.tuple #[r24o4, Value.agg #[I (0), I (0)]]) rfl rfl)) ?_
        refine wpR_q 6 (by kernel_rfl) rfl (quietAt rfl rfl (q_extract (vs := #[r24o4, Value.agg #[I (0), I (0)]]) (v := r24o4) rfl rfl rfl)) ?_
        refine wpR_q 7 (by kernel_rfl) rfl (quietAt rfl rfl (q_extract (vs := #[r24o4, Value.agg #[I (0), I (0)]]) (v := Value.agg #[I (0), I (0)]) rfl rfl rfl)) ?_
        refine wpR_q 9 (by kernel_rfl) rfl (quietAt rfl rfl (q_assign (v := r24o4) rfl rfl)) ?_
        refine wpR_n [10] (by kernel_rfl) ?_
        refine List.forall_mem_cons.2 ⟨?_, List.forall_mem_nil _⟩
        refine exE rfl rfl ?_
        refine e_storeBlkA (cs' := #[I (0), I (0)]) rfl rfl rfl Try.sizeOf27 rfl rfl (List.forall_mem_cons.2 ⟨rfl, List.forall_mem_cons.2 ⟨rfl, List.forall_mem_nil _⟩⟩) (hS24o4x2.front 7 rfl) (fun H24o10 hS24o10 hxx => ?_)
        replace hS24o10 : St H0 NoB NoB [blkE g24o8 (.cells #[I (0), I (0)] 27), rdE r24o4 ([1] : List Int), rdE v24o3 ([(LRow.mk ([1]) 1 2), (LRow.mk ([1]) 1 3)] : List LRow), rdE r24o0 countL.Low, rdE r24o0x2 countL.High, rdE r24o0x3 countL.Start, rdE r24o0x4 countL.Jumps, rdE r24o0x5 countL.Bad, blkE g22o8 (.cells #[I (0), I (0)] 27), rdE r22o3 ([2] : List Int), rdE v11 ([1] : List Int), blkE g20o8 (.cells #[I (0), I (0)] 27), rdE v2 ([1] : List Int), blkE g14 (.cells #[v11, I (1), I (2)] 34), blkE g5 (.cells #[v2, I (1), I (3)] 34)] H24o10 := hS24o10
        refine ⟨Ext.mono hxx (labS_of 0 rfl (fun _ _ => trivial)), ?_⟩
        refine wpR_end (by kernel_rfl) ?_
        exact ⟨r24o4, g24o8, a23_3, a23_5, a23_6, a23_7, a23_8, rfl, rfl, (hS24o10.drop (sk (sk (sn (sn (sn (sn (sn (sn (sk (sk (sk (sk (sk (sk (sk (List.Sublist.slnil)))))))))))))))))⟩
      · refine exE rfl rfl ?_
        refine e_buildSlice (vs := [Value.agg #[v11, I (1), I (2)], Value.agg #[v2, I (1), I (3)]]) (xs := ([(LRow.mk ([1]) 1 2), (LRow.mk ([1]) 1 3)] : List LRow)) rfl Try.underlying22 Try.zeroValue34 rfl Try.sizeOf34 (par2 (v0 := Value.agg #[v11, I (1), I (2)]) (v1 := Value.agg #[v2, I (1), I (3)]) rfl rfl) rfl hS24o8 (RdVs.cons (Rd.lRow.2 ⟨_, rfl, (hS24o8.rdS 3 rfl), (by first | assumption | (constructor <;> (dsimp only; omega)) | (constructor <;> omega)), (by first | assumption | (constructor <;> (dsimp only; omega)) | (constructor <;> omega))⟩) (RdVs.cons (Rd.lRow.2 ⟨_, rfl, (hS24o8.rdS 5 rfl), (by first | assumption | (constructor <;> (dsimp only; omega)) | (constructor <;> omega)), (by first | assumption | (constructor <;> (dsimp only; omega)) | (constructor <;> omega))⟩) (RdVs.nil))) (by decide) (by decide) (fun v24o3 H24o3 hS24o3 hxx hvv24o3 => ?_)
        replace hS24o3 : St H0 NoB NoB [rowE 34 v24o3 ([(LRow.mk ([1]) 1 2), (LRow.mk ([1]) 1 3)] : List LRow), blkE g24o8 (.cells #[I (0), I (0)] 27), blkE g22o8 (.cells #[I (0), I (0)] 27), rdE r22o3 ([2] : List Int), rdE v11 ([1] : List Int), blkE g20o8 (.cells #[I (0), I (0)] 27), rdE v2 ([1] : List Int), blkE g14 (.cells #[v11, I (1), I (2)] 34), blkE g5 (.cells #[v2, I (1), I (3)] 34)] H24o3 := hS24o3
        refine ⟨Ext.mono hxx (fun _ h => h.elim), ?_⟩
        refine wpR_n [0] (by kernel_rfl) ?_
        refine List.forall_mem_cons.2 ⟨?_, List.forall_mem_nil _⟩
        refine exE rfl rfl ?_
        refine e_call rfl Try.call66 arr0 (count_L (S := SL NoB [rowE 34 v24o3 ([(LRow.mk ([1]) 1 2), (LRow.mk ([1]) 1 3)] : List LRow), blkE g24o8 (.cells #[I (0), I (0)] 27), blkE g22o8 (.cells #[I (0), I (0)] 27), rdE r22o3 ([2] : List Int), rdE v11 ([1] : List Int), blkE g20o8 (.cells #[I (0), I (0)] 27), rdE v2 ([1] : List Int), blkE g14 (.cells #[v11, I (1), I (2)] 34), blkE g5 (.cells #[v2, I (1), I (3)] 34)])) ?_
        rintro _ H24o0 ⟨hxx, r24o0, r24o0x2, r24o0x3, r24o0x4, r24o0x5, rfl, hrr24o0, hrr24o0x2, hrr24o0x3, hrr24o0x4, hrr24o0x5⟩
        have hS24o0 : St H0 NoB NoB [rdE r24o0 countL.Low, rdE r24o0x2 countL.High, rdE r24o0x3 countL.Start, rdE r24o0x4 countL.Jumps, rdE r24o0x5 countL.Bad, rowE 34 v24o3 ([(LRow.mk ([1]) 1 2), (LRow.mk ([1]) 1 3)] : List LRow), blkE g24o8 (.cells #[I (0), I (0)] 27), blkE g22o8 (.cells #[I (0), I (0)] 27), rdE r22o3 ([2] : List Int), rdE v11 ([1] : List Int), blkE g20o8 (.cells #[I (0), I (0)] 27), rdE v2 ([1] : List Int), blkE g14 (.cells #[v11, I (1), I (2)] 34), blkE g5 (.cells #[v2, I (1), I (3)] 34)] H24o0 := ((((((hS24o3.ext hxx).rd (hrr24o0x5.sub fun b hb => ⟨hb, SL.lt hS24o3 hb⟩)).rd (hrr24o0x4.sub fun b hb => ⟨(SL_rd hb), SL.lt hS24o3 (SL_rd hb)⟩)).rd (hrr24o0x3.sub fun b hb => ⟨(SL_rd (SL_rd hb)), SL.lt hS24o3 (SL_rd (SL_rd hb))⟩)).rd (hrr24o0x2.sub fun b hb => ⟨(SL_rd (SL_rd (SL_rd hb))), SL.lt hS24o3 (SL_rd (SL_rd (SL_rd hb)))⟩)).rd (hrr24o0.sub fun b hb => ⟨(SL_rd (SL_rd (SL_rd (SL_rd hb)))), SL.lt hS24o3 (SL_rd (SL_rd (SL_rd (SL_rd hb))))⟩))
        refine ⟨Ext.mono hxx (fun _ h => h.elim), ?_⟩
        refine wpR_n [4] (by kernel_rfl) ?_
        refine List.forall_mem_cons.2 ⟨?_, List.forall_mem_nil _⟩
        have hS24o4 : St H0 NoB NoB [rdE v24o3 ([(LRow.mk ([1]) 1 2), (LRow.mk ([1]) 1 3)] : List LRow), rdE r24o0 countL.Low, rdE r24o0x2 countL.High, rdE r24o0x3 countL.Start, rdE r24o0x4 countL.Jumps, rdE r24o0x5 countL.Bad, blkE g24o8 (.cells #[I (0), I (0)] 27), blkE g22o8 (.cells #[I (0), I (0)] 27), rdE r22o3 ([2] : List Int), rdE v11 ([1] : List Int), blkE g20o8 (.cells #[I (0), I (0)] 27), rdE v2 ([1] : List Int), blkE g14 (.cells #[v11, I (1), I (2)] 34), blkE g5 (.cells #[v2, I (1), I (3)] 34)] H24o0 := St.fin (hS24o0.front 5 rfl)
        refine exE rfl rfl ?_
        refine e_call rfl Try.call37 (arr2 (v0 := Value.agg #[r24o0, r24o0x2, r24o0x3, r24o0x4, r24o0x5]) (v1 := v24o3) rfl rfl) ((by have h__ := Most_L r24o0 r24o0x2 r24o0x3 r24o0x4 r24o0x5 v24o3 countL ([(LRow.mk ([1]) 1 2), (LRow.mk ([1]) 1 3)]) (hS24o4.rdS 1 rfl) (hS24o4.rdS 2 rfl) (hS24o4.rdS 3 rfl) (hS24o4.rdS 4 rfl) (hS24o4.rdS 5 rfl) (hS24o4.rdS 0 rfl) ; rw [count_most.1, count_most.2] at h__; exact h__)) ?_
        rintro _ H24o4 ⟨hxx, r24o4, rfl, hrr24o4⟩
        have hS24o4x2 : St H0 NoB NoB [rdE r24o4 ([1] : List Int), rdE v24o3 ([(LRow.mk ([1]) 1 2), (LRow.mk ([1]) 1 3)] : List LRow), rdE r24o0 countL.Low, rdE r24o0x2 countL.High, rdE r24o0x3 countL.Start, rdE r24o0x4 countL.Jumps, rdE r24o0x5 countL.Bad, blkE g24o8 (.cells #[I (0), I (0)] 27), blkE g22o8 (.cells #[I (0), I (0)] 27), rdE r22o3 ([2] : List Int), rdE v11 ([1] : List Int), blkE g20o8 (.cells #[I (0), I (0)] 27), rdE v2 ([1] : List Int), blkE g14 (.cells #[v11, I (1), I (2)] 34), blkE g5 (.cells #[v2, I (1), I (3)] 34)] H24o4 := hS24o4.res hxx hrr24o4
        refine ⟨Ext.mono hxx (fun _ h => h.elim), ?_⟩
        refine wpR_q 5 (by kernel_rfl) rfl (quietAt rfl rfl (q_move (v := Value.tuple #[r24o4, Value.agg #[I (0), I (0)]]) rfl rfl)) ?_
        refine wpR_q 6 (by kernel_rfl) rfl (quietAt rfl rfl (q_extract (vs := #[r24o4, Value.agg #[I (0), I (0)]]) (v := r24o4) rfl rfl rfl)) ?_
        refine wpR_q 7 (by kernel_rfl) rfl (quietAt rfl rfl (q_extract (vs := #[r24o4, Value.agg #[I (0), I (0)]]) (v := Value.agg #[I (0), I (0)]) rfl rfl rfl)) ?_
        refine wpR_q 9 (by kernel_rfl) rfl (quietAt rfl rfl (q_assign (v := r24o4) rfl rfl)) ?_
        refine wpR_n [10] (by kernel_rfl) ?_
        refine List.forall_mem_cons.2 ⟨?_, List.forall_mem_nil _⟩
        refine exE rfl rfl ?_
        refine e_storeBlkA (cs' := #[I (0), I (0)]) rfl rfl rfl Try.sizeOf27 rfl rfl (List.forall_mem_cons.2 ⟨rfl, List.forall_mem_cons.2 ⟨rfl, List.forall_mem_nil _⟩⟩) (hS24o4x2.front 7 rfl) (fun H24o10 hS24o10 hxx => ?_)
        replace hS24o10 : St H0 NoB NoB [blkE g24o8 (.cells #[I (0), I (0)] 27), rdE r24o4 ([1] : List Int), rdE v24o3 ([(LRow.mk ([1]) 1 2), (LRow.mk ([1]) 1 3)] : List LRow), rdE r24o0 countL.Low, rdE r24o0x2 countL.High, rdE r24o0x3 countL.Start, rdE r24o0x4 countL.Jumps, rdE r24o0x5 countL.Bad, blkE g22o8 (.cells #[I (0), I (0)] 27), rdE r22o3 ([2] : List Int), rdE v11 ([1] : List Int), blkE g20o8 (.cells #[I (0), I (0)] 27), rdE v2 ([1] : List Int), blkE g14 (.cells #[v11, I (1), I (2)] 34), blkE g5 (.cells #[v2, I (1), I (3)] 34)] H24o10 := hS24o10
        refine ⟨Ext.mono hxx (labS_of 0 rfl (fun _ _ => trivial)), ?_⟩
        refine wpR_end (by kernel_rfl) ?_
        exact ⟨r24o4, g24o8, a23_3, a23_5, a23_6, a23_7, a23_8, rfl, rfl, (hS24o10.drop (sk (sk (sn (sn (sn (sn (sn (sn (sk (sk (sk (sk (sk (sk (sk (List.Sublist.slnil)))))))))))))))))⟩
  rintro f25 H25 ⟨r24o4, g24o8, a25_3, a25_5, a25_6, a25_7, a25_8, a25_9, a25_10, hS25⟩
  clear a23_1 a23_2 a23_3 a23_5 a23_6 a23_7 a23_8
  refine wpF_seq ?_
  refine wpF_cut (fun f H => ∃ (g38 : Nat), f 3 = B (true) ∧ f 5 = PT g20o8 0 ∧ f 6 = B (false) ∧ f 7 = r22o3 ∧ f 8 = PT g22o8 0 ∧ f 9 = r24o4 ∧ f 10 = PT g24o8 0 ∧ f 12 = B (false) ∧ f 13 = PT g38 0 ∧ St H0 NoB NoB [blkE g38 (.cells #[I (0), I (0)] 27), blkE g24o8 (.cells #[I (0), I (0)] 27), rdE r24o4 ([1] : List Int), blkE g22o8 (.cells #[I (0), I (0)] 27), rdE r22o3 ([2] : List Int), rdE v11 ([1] : List Int), blkE g20o8 (.cells #[I (0), I (0)] 27), rdE v2 ([1] : List Int), blkE g14 (.cells #[v11, I (1), I (2)] 34), blkE g5 (.cells #[v2, I (1), I (3)] 34)] H) ?_ ?_
  · refine wpF_region ?_
    refine wpL_o rfl ?_
    refine e_call rfl Try.call66 arr0 (count_L (S := SL NoB [blkE g24o8 (.cells #[I (0), I (0)] 27), rdE r24o4 ([1] : List Int), blkE g22o8 (.cells #[I (0), I (0)] 27), rdE r22o3 ([2] : List Int), rdE v11 ([1] : List Int), blkE g20o8 (.cells #[I (0), I (0)] 27), rdE v2 ([1] : List Int), blkE g14 (.cells #[v11, I (1), I (2)] 34), blkE g5 (.cells #[v2, I (1), I (3)] 34)])) ?_
    rintro _ H31 ⟨hxx, r26, r27, r28, r29, r30, rfl, hrr26, hrr27, hrr28, hrr29, hrr30⟩
    have hS32 : St H0 NoB NoB [rdE r26 countL.Low, rdE r27 countL.High, rdE r28 countL.Start, rdE r29 countL.Jumps, rdE r30 countL.Bad, blkE g24o8 (.cells #[I (0), I (0)] 27), rdE r24o4 ([1] : List Int), blkE g22o8 (.cells #[I (0), I (0)] 27), rdE r22o3 ([2] : List Int), rdE v11 ([1] : List Int), blkE g20o8 (.cells #[I (0), I (0)] 27), rdE v2 ([1] : List Int), blkE g14 (.cells #[v11, I (1), I (2)] 34), blkE g5 (.cells #[v2, I (1), I (3)] 34)] H31 := ((((((hS25.ext hxx).rd (hrr30.sub fun b hb => ⟨hb, SL.lt hS25 hb⟩)).rd (hrr29.sub fun b hb => ⟨(SL_rd hb), SL.lt hS25 (SL_rd hb)⟩)).rd (hrr28.sub fun b hb => ⟨(SL_rd (SL_rd hb)), SL.lt hS25 (SL_rd (SL_rd hb))⟩)).rd (hrr27.sub fun b hb => ⟨(SL_rd (SL_rd (SL_rd hb))), SL.lt hS25 (SL_rd (SL_rd (SL_rd hb)))⟩)).rd (hrr26.sub fun b hb => ⟨(SL_rd (SL_rd (SL_rd (SL_rd hb)))), SL.lt hS25 (SL_rd (SL_rd (SL_rd (SL_rd hb))))⟩))
    refine wpL_o rfl ?_
    refine e_call rfl Try.call23 (arr1 (v0 := Value.agg #[r26, r27, r28, r29, r30]) rfl) ((by have h__ := Bad_L r26 r27 r28 r29 r30 countL (hS32.rdS 0 rfl) (hS32.rdS 1 rfl) (hS32.rdS 2 rfl) (hS32.rdS 3 rfl) (hS32.rdS 4 rfl) ; rw [count_bad.1, count_bad.2.1, count_bad.2.2] at h__; exact h__)) ?_
    rintro _ H35 ⟨hxx, r34, rfl, hrr34⟩
    have hS36 : St H0 NoB NoB [rdE r34 ([] : List (List Int)), rdE r26 countL.Low, rdE r27 countL.High, rdE r28 countL.Start, rdE r29 countL.Jumps, rdE r30 countL.Bad, blkE g24o8 (.cells #[I (0), I (0)] 27), rdE r24o4 ([1] : List Int), blkE g22o8 (.cells #[I (0), I (0)] 27), rdE r22o3 ([2] : List Int), rdE v11 ([1] : List Int), blkE g20o8 (.cells #[I (0), I (0)] 27), rdE v2 ([1] : List Int), blkE g14 (.cells #[v11, I (1), I (2)] 34), blkE g5 (.cells #[v2, I (1), I (3)] 34)] H35 := hS32.res hxx hrr34
    refine wpL_q (U := NoB) rfl (q_move (v := Value.tuple #[r34, B (false), Value.agg #[I (0), I (0)]]) rfl rfl) ?_
    refine wpL_q (U := NoB) rfl (q_extract (vs := #[r34, B (false), Value.agg #[I (0), I (0)]]) (v := r34) rfl rfl rfl) ?_
    refine wpL_q (U := NoB) rfl (q_extract (vs := #[r34, B (false), Value.agg #[I (0), I (0)]]) (v := B (false)) rfl rfl rfl) ?_
    refine wpL_q (U := NoB) rfl (q_extract (vs := #[r34, B (false), Value.agg #[I (0), I (0)]]) (v := Value.agg #[I (0), I (0)]) rfl rfl rfl) ?_
    refine wpL_o rfl ?_
    refine e_alloc rfl Try.zeroValue27 hS36 (fun g38 H39 hS40 hxx => ?_)
    replace hS40 : St H0 NoB NoB [blkE g38 (.cells #[I (0), I (0)] 27), rdE r34 ([] : List (List Int)), rdE r26 countL.Low, rdE r27 countL.High, rdE r28 countL.Start, rdE r29 countL.Jumps, rdE r30 countL.Bad, blkE g24o8 (.cells #[I (0), I (0)] 27), rdE r24o4 ([1] : List Int), blkE g22o8 (.cells #[I (0), I (0)] 27), rdE r22o3 ([2] : List Int), rdE v11 ([1] : List Int), blkE g20o8 (.cells #[I (0), I (0)] 27), rdE v2 ([1] : List Int), blkE g14 (.cells #[v11, I (1), I (2)] 34), blkE g5 (.cells #[v2, I (1), I (3)] 34)] H39 := hS40
    refine wpL_q (U := NoB) rfl (q_assign (v := r34) rfl rfl) ?_
    refine wpL_q (U := NoB) rfl (q_assign (v := B (false)) rfl rfl) ?_
    refine wpL_o rfl ?_
    refine e_storeBlkA (cs' := #[I (0), I (0)]) rfl rfl rfl Try.sizeOf27 rfl rfl (List.forall_mem_cons.2 ⟨rfl, List.forall_mem_cons.2 ⟨rfl, List.forall_mem_nil _⟩⟩) hS40 (fun H41 hS42 hxx => ?_)
    replace hS42 : St H0 NoB NoB [blkE g38 (.cells #[I (0), I (0)] 27), rdE r34 ([] : List (List Int)), rdE r26 countL.Low, rdE r27 countL.High, rdE r28 countL.Start, rdE r29 countL.Jumps, rdE r30 countL.Bad, blkE g24o8 (.cells #[I (0), I (0)] 27), rdE r24o4 ([1] : List Int), blkE g22o8 (.cells #[I (0), I (0)] 27), rdE r22o3 ([2] : List Int), rdE v11 ([1] : List Int), blkE g20o8 (.cells #[I (0), I (0)] 27), rdE v2 ([1] : List Int), blkE g14 (.cells #[v11, I (1), I (2)] 34), blkE g5 (.cells #[v2, I (1), I (3)] 34)] H41 := hS42
    exact ⟨g38, a25_3, a25_5, a25_6, a25_7, a25_8, a25_9, a25_10, rfl, rfl, (hS42.drop (sk (sn (sn (sn (sn (sn (sn (sk (sk (sk (sk (sk (sk (sk (sk (sk (List.Sublist.slnil))))))))))))))))))⟩
  rintro f43 H43 ⟨g38, a43_3, a43_5, a43_6, a43_7, a43_8, a43_9, a43_10, a43_12, a43_13, hS43⟩
  clear a25_10 a25_3 a25_5 a25_6 a25_7 a25_8 a25_9
  refine wpF_seq ?_
  refine wpF_cut (fun f H => ∃ (v44 : Value), ∃ (v50 : Value), f 0 = B (true) ∧ St H0 NoB NoB [rowE 3 v50 ([1] : List Int), rowE 3 v44 ([2] : List Int), blkE g38 (.cells #[I (0), I (0)] 27), blkE g24o8 (.cells #[I (0), I (0)] 27), blkE g22o8 (.cells #[I (0), I (0)] 27), rdE v11 ([1] : List Int), blkE g20o8 (.cells #[I (0), I (0)] 27), rdE v2 ([1] : List Int), blkE g14 (.cells #[v11, I (1), I (2)] 34), blkE g5 (.cells #[v2, I (1), I (3)] 34)] H) ?_ ?_
  · refine wpF_region ?_
    refine wpL_q (U := NoB) rfl (q_fieldAddr rfl Try.underlying27 rfl Try.sizeOf3 a43_5) ?_
    refine wpL_q (U := NoB) rfl (q_loadBlk rfl rfl Try.isAgg3 (hS43.blk 6 rfl) rfl (fun h => h)) ?_
    refine wpL_q (U := NoB) rfl (q_eqlT rfl rfl rfl rfl) ?_
    refine wpL_q (U := NoB) rfl (q_move (v := B (true)) rfl rfl) ?_
    refine wpL_gq (U := NoB) rfl rfl rfl rfl (q_fieldAddr rfl Try.underlying27 rfl Try.sizeOf3 a43_8) ?_
    refine wpL_gq (U := NoB) rfl rfl rfl rfl (q_loadBlk rfl rfl Try.isAgg3 (hS43.blk 3 rfl) rfl (fun h => h)) ?_
    refine wpL_gq (U := NoB) rfl rfl rfl rfl (q_eqlT rfl rfl rfl rfl) ?_
    refine wpL_q (U := NoB) rfl (q_pickT (v := B (true)) rfl rfl rfl) ?_
    refine wpL_q (U := NoB) rfl (q_move (v := B (true)) rfl rfl) ?_
    refine wpL_gq (U := NoB) rfl rfl rfl rfl (q_fieldAddr rfl Try.underlying27 rfl Try.sizeOf3 a43_10) ?_
    refine wpL_gq (U := NoB) rfl rfl rfl rfl (q_loadBlk rfl rfl Try.isAgg3 (hS43.blk 1 rfl) rfl (fun h => h)) ?_
    refine wpL_gq (U := NoB) rfl rfl rfl rfl (q_eqlT rfl rfl rfl rfl) ?_
    refine wpL_q (U := NoB) rfl (q_pickT (v := B (true)) rfl rfl rfl) ?_
    refine wpL_q (U := NoB) rfl (q_move (v := B (true)) rfl rfl) ?_
    refine wpL_gq (U := NoB) rfl rfl rfl rfl (q_fieldAddr rfl Try.underlying27 rfl Try.sizeOf3 a43_13) ?_
    refine wpL_gq (U := NoB) rfl rfl rfl rfl (q_loadBlk rfl rfl Try.isAgg3 (hS43.blk 0 rfl) rfl (fun h => h)) ?_
    refine wpL_gq (U := NoB) rfl rfl rfl rfl (q_eqlT rfl rfl rfl rfl) ?_
    refine wpL_q (U := NoB) rfl (q_pickT (v := B (true)) rfl rfl rfl) ?_
    refine wpL_q (U := NoB) rfl (q_move (v := B (true)) rfl rfl) ?_
    refine wpL_gq (U := NoB) rfl rfl rfl rfl (q_move (v := B (true)) rfl a43_3) ?_
    refine wpL_q (U := NoB) rfl (q_pickT (v := B (true)) rfl rfl rfl) ?_
    refine wpL_q (U := NoB) rfl (q_move (v := B (true)) rfl rfl) ?_
    refine wpL_gq (U := NoB) rfl rfl rfl rfl (q_move (v := B (false)) rfl a43_6) ?_
    refine wpL_gq (U := NoB) rfl rfl rfl rfl (q_not rfl rfl) ?_
    refine wpL_q (U := NoB) rfl (q_pickT (v := B (true)) rfl rfl rfl) ?_
    refine wpL_q (U := NoB) rfl (q_move (v := B (true)) rfl rfl) ?_
    refine wpL_gq (U := NoB) rfl rfl rfl rfl (q_move (v := r22o3) rfl a43_7) ?_
    refine wpL_go rfl rfl rfl rfl ?_
    refine e_buildSlice (vs := [I (2)]) (xs := ([2] : List Int)) rfl Try.underlying32 Try.zeroValue3 rfl Try.sizeOf3 (par1 (v0 := I (2)) rfl) rfl hS43 (RdVs.cons (Rd.int.2 ⟨rfl, by constructor <;> omega⟩) (RdVs.nil)) (by decide) (by decide) (fun v44 H45 hS46 hxx hvv44 => ?_)
    replace hS46 : St H0 NoB NoB [rowE 3 v44 ([2] : List Int), blkE g38 (.cells #[I (0), I (0)] 27), blkE g24o8 (.cells #[I (0), I (0)] 27), rdE r24o4 ([1] : List Int), blkE g22o8 (.cells #[I (0), I (0)] 27), rdE r22o3 ([2] : List Int), rdE v11 ([1] : List Int), blkE g20o8 (.cells #[I (0), I (0)] 27), rdE v2 ([1] : List Int), blkE g14 (.cells #[v11, I (1), I (2)] 34), blkE g5 (.cells #[v2, I (1), I (3)] 34)] H45 := hS46
    refine wpL_go rfl rfl rfl rfl ?_
    refine e_call rfl Try.call39 (arr2 (v0 := r22o3) (v1 := v44) rfl rfl) ((by have h__ := Ints r22o3 v44 _ _ (hS46.rdN 5 rfl) (hS46.rowN 0 rfl); rw [decide_eq_true (rfl : ([2] : List Int) = [2])] at h__; exact h__)) ?_
    rintro _ H47 ⟨hxx, rfl⟩
    have hS48 : St H0 NoB NoB [rowE 3 v44 ([2] : List Int), blkE g38 (.cells #[I (0), I (0)] 27), blkE g24o8 (.cells #[I (0), I (0)] 27), rdE r24o4 ([1] : List Int), blkE g22o8 (.cells #[I (0), I (0)] 27), rdE r22o3 ([2] : List Int), rdE v11 ([1] : List Int), blkE g20o8 (.cells #[I (0), I (0)] 27), rdE v2 ([1] : List Int), blkE g14 (.cells #[v11, I (1), I (2)] 34), blkE g5 (.cells #[v2, I (1), I (3)] 34)] H47 := hS46.ext hxx
    refine wpL_q (U := NoB) rfl (q_pickT (v := B (true)) rfl rfl rfl) ?_
    refine wpL_q (U := NoB) rfl (q_move (v := B (true)) rfl rfl) ?_
    refine wpL_gq (U := NoB) rfl rfl rfl rfl (q_move (v := r24o4) rfl a43_9) ?_
    refine wpL_go rfl rfl rfl rfl ?_
    refine e_buildSlice (vs := [I (1)]) (xs := ([1] : List Int)) rfl Try.underlying32 Try.zeroValue3 rfl Try.sizeOf3 (par1 (v0 := I (1)) rfl) rfl hS48 (RdVs.cons (Rd.int.2 ⟨rfl, by constructor <;> omega⟩) (RdVs.nil)) (by decide) (by decide) (fun v50 H51 hS52 hxx hvv50 => ?_)
    replace hS52 : St H0 NoB NoB [rowE 3 v50 ([1] : List Int), rowE 3 v44 ([2] : List Int), blkE g38 (.cells #[I (0), I (0)] 27), blkE g24o8 (.cells #[I (0), I (0)] 27), rdE r24o4 ([1] : List Int), blkE g22o8 (.cells #[I (0), I (0)] 27), rdE r22o3 ([2] : List Int), rdE v11 ([1] : List Int), blkE g20o8 (.cells #[I (0), I (0)] 27), rdE v2 ([1] : List Int), blkE g14 (.cells #[v11, I (1), I (2)] 34), blkE g5 (.cells #[v2, I (1), I (3)] 34)] H51 := hS52
    refine wpL_go rfl rfl rfl rfl ?_
    refine e_call rfl Try.call39 (arr2 (v0 := r24o4) (v1 := v50) rfl rfl) ((by have h__ := Ints r24o4 v50 _ _ (hS52.rdN 4 rfl) (hS52.rowN 0 rfl); rw [decide_eq_true (rfl : ([1] : List Int) = [1])] at h__; exact h__)) ?_
    rintro _ H53 ⟨hxx, rfl⟩
    have hS54 : St H0 NoB NoB [rowE 3 v50 ([1] : List Int), rowE 3 v44 ([2] : List Int), blkE g38 (.cells #[I (0), I (0)] 27), blkE g24o8 (.cells #[I (0), I (0)] 27), rdE r24o4 ([1] : List Int), blkE g22o8 (.cells #[I (0), I (0)] 27), rdE r22o3 ([2] : List Int), rdE v11 ([1] : List Int), blkE g20o8 (.cells #[I (0), I (0)] 27), rdE v2 ([1] : List Int), blkE g14 (.cells #[v11, I (1), I (2)] 34), blkE g5 (.cells #[v2, I (1), I (3)] 34)] H53 := hS52.ext hxx
    refine wpL_q (U := NoB) rfl (q_pickT (v := B (true)) rfl rfl rfl) ?_
    refine wpL_q (U := NoB) rfl (q_move (v := B (true)) rfl rfl) ?_
    refine wpL_gq (U := NoB) rfl rfl rfl rfl (q_move (v := B (false)) rfl a43_12) ?_
    refine wpL_gq (U := NoB) rfl rfl rfl rfl (q_not rfl rfl) ?_
    refine wpL_q (U := NoB) rfl (q_pickT (v := B (true)) rfl rfl rfl) ?_
    refine wpL_q (U := NoB) rfl (q_assign (v := B (true)) rfl rfl) ?_
    exact ⟨v44, v50, rfl, (hS54.drop (sk (sk (sk (sk (sn (sk (sn (sk (sk (sk (sk (sk (List.Sublist.slnil))))))))))))))⟩
  rintro f56 H56 ⟨v44, v50, a56_0, hS56⟩
  clear a43_10 a43_12 a43_13 a43_3 a43_5 a43_6 a43_7 a43_8 a43_9
  refine wpF_ret ?_
  refine ⟨_, resT a56_0 resN, hS56.frame, ?_⟩
  show (B (true)) = B true
  rfl

end Go.Um
