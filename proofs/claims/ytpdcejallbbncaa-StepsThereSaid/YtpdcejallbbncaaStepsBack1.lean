import Derived.Test.YtpdcejallbbncaaProg
import Derived.Test.YtpdcejallbbncaaStepB1
import Derived.Test.YtpdcejallbbncaaStepH1
import Derived.Test.YtpdcejallbbncaaActParts1
import Derived.Test.YtpdcejallbbncaaUmSub
namespace Go.Um
open Go.Proofs
open GoT (sz ag rdc)
open KeyT (kv)



set_option maxRecDepth 100000 in
theorem stepsFact {H0 : Heap}   : CallsH Try.prog 36 #[] H0 (fun rv_ H' => Ext NoB H0 H' ∧ rv_ = B true) := by
  have h6qq : In64 questQ.Facts := by decide
  have hS0 : St H0 NoB NoB [] H0 := St.start (fun _ h => h.elim)
  refine callsH_of_wpF (args := []) (rs := [.tmp 0]) Try.func36 rfl Try.ntmps36 Try.results36 (by kernel_rfl) (Nat.le_of_ble_eq_true rfl) ?_
  generalize argF [] = f0 at *
  refine wpF_seq ?_
  refine wpF_cut (fun f H => H0 = H) ?_ ?_
  · refine wpF_region ?_
    refine wpL_q (U := NoB) rfl (q_assign (v := B (false)) rfl rfl) ?_
    exact rfl
  rintro f1 _ rfl
  refine wpF_seq ?_
  refine wpF_cut (fun f H => ∃ (r8 : Value), ∃ (g12 : Nat), ∃ (g15 : Nat), f 1 = PT g12 0 ∧ f 2 = PT g15 0 ∧ St H0 NoB NoB [blkE g15 (.cells #[I ((doF questQ 1).1), I ((doF questQ 1).2)] 27), blkE g12 (.cells #[I ((doV questQ 1)), r8] 58), rdE r8 (doC questQ 1)] H) ?_ ?_
  · refine wpF_region ?_
    refine wpL_o rfl ?_
    refine e_call rfl Try.call31 arr0 (quest_L (S := SL NoB [])) ?_
    rintro _ H5 ⟨hxx, r2, r3, r4, rfl, hrr2, hrr3, hrr4⟩
    have hS6 : St H0 NoB NoB [rdE r2 questQ.First, rdE r3 questQ.Goal, rdE r4 questQ.Acts] H5 := ((((hS0.ext hxx).rd (hrr4.sub fun b hb => ⟨hb, SL.lt hS0 hb⟩)).rd (hrr3.sub fun b hb => ⟨(SL_rd hb), SL.lt hS0 (SL_rd hb)⟩)).rd (hrr2.sub fun b hb => ⟨(SL_rd (SL_rd hb)), SL.lt hS0 (SL_rd (SL_rd hb))⟩))
    refine wpL_o rfl ?_
    refine e_call rfl Try.call32 (arr2 (v0 := Value.agg #[I (questQ.Facts), r2, r3, r4]) (v1 := I (1)) rfl rfl) (Do_E r2 r3 r4 questQ 1 (by first | assumption | (constructor <;> omega)) (hS6.rdS 0 rfl) (hS6.rdS 1 rfl) (hS6.rdS 2 rfl) (by constructor <;> omega)) ?_
    rintro _ H9 ⟨hxx, r8, rfl, hrr8⟩
    have hS10 : St H0 NoB NoB [rdE r8 (doC questQ 1), rdE r2 questQ.First, rdE r3 questQ.Goal, rdE r4 questQ.Acts] H9 := (hS6.res hxx hrr8)
    refine wpL_q (U := NoB) rfl (q_move (v := Value.tuple #[Value.agg #[I ((doV questQ 1)), r8], Value.agg #[I ((doF questQ 1).1), I ((doF questQ 1).2)]]) rfl rfl) ?_
    refine wpL_q (U := NoB) rfl (q_extract (vs := #[Value.agg #[I ((doV questQ 1)), r8], Value.agg #[I ((doF questQ 1).1), I ((doF questQ 1).2)]]) (v := Value.agg #[I ((doV questQ 1)), r8]) rfl rfl rfl) ?_
    refine wpL_q (U := NoB) rfl (q_extract (vs := #[Value.agg #[I ((doV questQ 1)), r8], Value.agg #[I ((doF questQ 1).1), I ((doF questQ 1).2)]]) (v := Value.agg #[I ((doF questQ 1).1), I ((doF questQ 1).2)]) rfl rfl rfl) ?_
    refine wpL_o rfl ?_
    refine e_alloc rfl Try.zeroValue58 hS10 (fun g12 H13 hS14 hxx => ?_)
    replace hS14 : St H0 NoB NoB [blkE g12 (.cells #[I (0), (Value.slice none 0 0)] 58), rdE r8 (doC questQ 1), rdE r2 questQ.First, rdE r3 questQ.Goal, rdE r4 questQ.Acts] H13 := hS14
    refine wpL_o rfl ?_
    refine e_alloc rfl Try.zeroValue27 hS14 (fun g15 H16 hS17 hxx => ?_)
    replace hS17 : St H0 NoB NoB [blkE g15 (.cells #[I (0), I (0)] 27), blkE g12 (.cells #[I (0), (Value.slice none 0 0)] 58), rdE r8 (doC questQ 1), rdE r2 questQ.First, rdE r3 questQ.Goal, rdE r4 questQ.Acts] H16 := hS17
    refine wpL_o rfl ?_
    refine e_storeBlkA (cs' := #[I ((doV questQ 1)), r8]) rfl rfl rfl Try.sizeOf58 rfl rfl (List.forall_mem_cons.2 ⟨rfl, List.forall_mem_cons.2 ⟨(oneCell_rdL (hS17.rdl 2 rfl)), List.forall_mem_nil _⟩⟩) (hS17.front 1 rfl) (fun H18 hS19 hxx => ?_)
    replace hS19 : St H0 NoB NoB [blkE g12 (.cells #[I ((doV questQ 1)), r8] 58), blkE g15 (.cells #[I (0), I (0)] 27), rdE r8 (doC questQ 1), rdE r2 questQ.First, rdE r3 questQ.Goal, rdE r4 questQ.Acts] H18 := hS19
    refine wpL_o rfl ?_
    refine e_storeBlkA (cs' := #[I ((doF questQ 1).1), I ((doF questQ 1).2)]) rfl rfl rfl Try.sizeOf27 rfl rfl (List.forall_mem_cons.2 ⟨rfl, List.forall_mem_cons.2 ⟨rfl, List.forall_mem_nil _⟩⟩) (hS19.front 1 rfl) (fun H20 hS21 hxx => ?_)
    replace hS21 : St H0 NoB NoB [blkE g15 (.cells #[I ((doF questQ 1).1), I ((doF questQ 1).2)] 27), blkE g12 (.cells #[I ((doV questQ 1)), r8] 58), rdE r8 (doC questQ 1), rdE r2 questQ.First, rdE r3 questQ.Goal, rdE r4 questQ.Acts] H20 := hS21
    exact ⟨r8, g12, g15, rfl, rfl, (hS21.drop (sk (sk (sk (sn (sn (sn (List.Sublist.slnil))))))))⟩
  rintro f22 H22 ⟨r8, g12, g15, a22_1, a22_2, hS22⟩
  refine wpF_seq ?_
  refine wpF_cut (fun f H => ∃ (r33 : Value), ∃ (g37 : Nat), f 1 = PT g12 0 ∧ f 2 = PT g15 0 ∧ f 3 = r33 ∧ f 4 = PT g37 0 ∧ St H0 NoB NoB [blkE g37 (.cells #[I ((backF questQ 1 ([false, true, true])).1), I ((backF questQ 1 ([false, true, true])).2)] 27), rdE r33 (backP questQ 1 ([false, true, true])), blkE g15 (.cells #[I ((doF questQ 1).1), I ((doF questQ 1).2)] 27), blkE g12 (.cells #[I ((doV questQ 1)), r8] 58), rdE r8 (doC questQ 1)] H) ?_ ?_
  · refine wpF_region ?_
    refine wpL_o rfl ?_
    refine e_call rfl Try.call31 arr0 (quest_L (S := SL NoB [blkE g15 (.cells #[I ((doF questQ 1).1), I ((doF questQ 1).2)] 27), blkE g12 (.cells #[I ((doV questQ 1)), r8] 58), rdE r8 (doC questQ 1)])) ?_
    rintro _ H26 ⟨hxx, r23, r24, r25, rfl, hrr23, hrr24, hrr25⟩
    have hS27 : St H0 NoB NoB [rdE r23 questQ.First, rdE r24 questQ.Goal, rdE r25 questQ.Acts, blkE g15 (.cells #[I ((doF questQ 1).1), I ((doF questQ 1).2)] 27), blkE g12 (.cells #[I ((doV questQ 1)), r8] 58), rdE r8 (doC questQ 1)] H26 := ((((hS22.ext hxx).rd (hrr25.sub fun b hb => ⟨hb, SL.lt hS22 hb⟩)).rd (hrr24.sub fun b hb => ⟨(SL_rd hb), SL.lt hS22 (SL_rd hb)⟩)).rd (hrr23.sub fun b hb => ⟨(SL_rd (SL_rd hb)), SL.lt hS22 (SL_rd (SL_rd hb))⟩))
    refine wpL_o rfl ?_
    refine e_buildSlice (vs := [B (false), B (true), B (true)]) (xs := ([false, true, true] : List Bool)) rfl Try.underlying29 Try.zeroValue4 rfl Try.sizeOf4 (par3 (v0 := B (false)) (v1 := B (true)) (v2 := B (true)) rfl rfl rfl) rfl hS27 (RdVs.cons (Rd.bool.2 rfl) (RdVs.cons (Rd.bool.2 rfl) (RdVs.cons (Rd.bool.2 rfl) (RdVs.nil)))) (by decide) (by decide) (fun v29 H30 hS31 hxx hvv29 => ?_)
    replace hS31 : St H0 NoB NoB [rowE 4 v29 ([false, true, true] : List Bool), rdE r23 questQ.First, rdE r24 questQ.Goal, rdE r25 questQ.Acts, blkE g15 (.cells #[I ((doF questQ 1).1), I ((doF questQ 1).2)] 27), blkE g12 (.cells #[I ((doV questQ 1)), r8] 58), rdE r8 (doC questQ 1)] H30 := hS31
    have hS32 : St H0 NoB NoB [rdE v29 ([false, true, true] : List Bool), rdE r23 questQ.First, rdE r24 questQ.Goal, rdE r25 questQ.Acts, blkE g15 (.cells #[I ((doF questQ 1).1), I ((doF questQ 1).2)] 27), blkE g12 (.cells #[I ((doV questQ 1)), r8] 58), rdE r8 (doC questQ 1)] H30 := St.fin hS31
    refine wpL_o rfl ?_
    refine e_call rfl Try.call33 (arr3 (v0 := Value.agg #[I (questQ.Facts), r23, r24, r25]) (v1 := I (1)) (v2 := v29) rfl rfl rfl) (Back_E r23 r24 r25 v29 questQ 1 ([false, true, true]) (by first | assumption | (constructor <;> omega)) (hS32.rdS 1 rfl) (hS32.rdS 2 rfl) (hS32.rdS 3 rfl) (hS32.rdS 0 rfl) (by constructor <;> omega)) ?_
    rintro _ H34 ⟨hxx, r33, rfl, hrr33⟩
    have hS35 : St H0 NoB NoB [rdE r33 (backP questQ 1 ([false, true, true])), rdE v29 ([false, true, true] : List Bool), rdE r23 questQ.First, rdE r24 questQ.Goal, rdE r25 questQ.Acts, blkE g15 (.cells #[I ((doF questQ 1).1), I ((doF questQ 1).2)] 27), blkE g12 (.cells #[I ((doV questQ 1)), r8] 58), rdE r8 (doC questQ 1)] H34 := (hS32.res hxx hrr33)
    refine wpL_q (U := NoB) rfl (q_move (v := Value.tuple #[r33, Value.agg #[I ((backF questQ 1 ([false, true, true])).1), I ((backF questQ 1 ([false, true, true])).2)]]) rfl rfl) ?_
    refine wpL_q (U := NoB) rfl (q_extract (vs := #[r33, Value.agg #[I ((backF questQ 1 ([false, true, true])).1), I ((backF questQ 1 ([false, true, true])).2)]]) (v := r33) rfl rfl rfl) ?_
    refine wpL_q (U := NoB) rfl (q_extract (vs := #[r33, Value.agg #[I ((backF questQ 1 ([false, true, true])).1), I ((backF questQ 1 ([false, true, true])).2)]]) (v := Value.agg #[I ((backF questQ 1 ([false, true, true])).1), I ((backF questQ 1 ([false, true, true])).2)]) rfl rfl rfl) ?_
    refine wpL_o rfl ?_
    refine e_alloc rfl Try.zeroValue27 hS35 (fun g37 H38 hS39 hxx => ?_)
    replace hS39 : St H0 NoB NoB [blkE g37 (.cells #[I (0), I (0)] 27), rdE r33 (backP questQ 1 ([false, true, true])), rdE v29 ([false, true, true] : List Bool), rdE r23 questQ.First, rdE r24 questQ.Goal, rdE r25 questQ.Acts, blkE g15 (.cells #[I ((doF questQ 1).1), I ((doF questQ 1).2)] 27), blkE g12 (.cells #[I ((doV questQ 1)), r8] 58), rdE r8 (doC questQ 1)] H38 := hS39
    refine wpL_q (U := NoB) rfl (q_assign (v := r33) rfl rfl) ?_
    refine wpL_o rfl ?_
    refine e_storeBlkA (cs' := #[I ((backF questQ 1 ([false, true, true])).1), I ((backF questQ 1 ([false, true, true])).2)]) rfl rfl rfl Try.sizeOf27 rfl rfl (List.forall_mem_cons.2 ⟨rfl, List.forall_mem_cons.2 ⟨rfl, List.forall_mem_nil _⟩⟩) hS39 (fun H40 hS41 hxx => ?_)
    replace hS41 : St H0 NoB NoB [blkE g37 (.cells #[I ((backF questQ 1 ([false, true, true])).1), I ((backF questQ 1 ([false, true, true])).2)] 27), rdE r33 (backP questQ 1 ([false, true, true])), rdE v29 ([false, true, true] : List Bool), rdE r23 questQ.First, rdE r24 questQ.Goal, rdE r25 questQ.Acts, blkE g15 (.cells #[I ((doF questQ 1).1), I ((doF questQ 1).2)] 27), blkE g12 (.cells #[I ((doV questQ 1)), r8] 58), rdE r8 (doC questQ 1)] H40 := hS41
    exact ⟨r33, g37, a22_1, a22_2, rfl, rfl, (hS41.drop (sk (sk (sn (sn (sn (sn (sk (sk (sk (List.Sublist.slnil)))))))))))⟩
  rintro f42 H42 ⟨r33, g37, a42_1, a42_2, a42_3, a42_4, hS42⟩
  clear a22_1 a22_2
  refine wpF_seq ?_
  refine wpF_cut (fun f H => f 0 = B (decide (((((((doF questQ 1).1) = 0) ∧ (((backF questQ 1 ([false, true, true])).1) = 0)) ∧ ((doV questQ 1) = 3)) ∧ (3 < ((doC questQ 1).length : Int))) ∧ ((backP questQ 1 ([false, true, true])) = ([0])))) ∧ St H0 NoB NoB [blkE g37 (.cells #[I ((backF questQ 1 ([false, true, true])).1), I ((backF questQ 1 ([false, true, true])).2)] 27), blkE g15 (.cells #[I ((doF questQ 1).1), I ((doF questQ 1).2)] 27), blkE g12 (.cells #[I ((doV questQ 1)), r8] 58), rdE r8 (doC questQ 1)] H) ?_ ?_
  · refine wpF_region ?_
    refine wpL_q (U := NoB) rfl (q_fieldAddr rfl Try.underlying27 rfl Try.sizeOf3 a42_2) ?_
    refine wpL_q (U := NoB) rfl (q_loadBlk rfl rfl Try.isAgg3 (hS42.blk 2 rfl) rfl (fun h => h)) ?_
    refine wpL_q (U := NoB) rfl (q_eql rfl rfl rfl) ?_
    refine wpL_q (U := NoB) rfl (q_move (v := B (decide (((doF questQ 1).1) = 0))) rfl rfl) ?_
    by_cases hg43 : ((doF questQ 1).1) = 0
    · have hb44 := Eq.trans rfl (congrArg B (decide_eq_true hg43))
      refine wpL_gq (U := NoB) rfl rfl rfl hb44 (q_fieldAddr rfl Try.underlying27 rfl Try.sizeOf3 a42_4) ?_
      refine wpL_gq (U := NoB) rfl rfl rfl hb44 (q_loadBlk rfl rfl Try.isAgg3 (hS42.blk 0 rfl) rfl (fun h => h)) ?_
      refine wpL_gq (U := NoB) rfl rfl rfl hb44 (q_eql rfl rfl rfl) ?_
      refine wpL_q (U := NoB) rfl (q_pickT (v := B (decide (((backF questQ 1 ([false, true, true])).1) = 0))) rfl hb44 rfl) ?_
      refine wpL_q (U := NoB) rfl (q_move (v := B (decide (((backF questQ 1 ([false, true, true])).1) = 0))) rfl rfl) ?_
      by_cases hg46 : ((backF questQ 1 ([false, true, true])).1) = 0
      · have hb47 := Eq.trans rfl (congrArg B (decide_eq_true hg46))
        refine wpL_gq (U := NoB) rfl rfl rfl hb47 (q_fieldAddr rfl Try.underlying58 rfl Try.sizeOf3 a42_1) ?_
        refine wpL_gq (U := NoB) rfl rfl rfl hb47 (q_loadBlk rfl rfl Try.isAgg3 (hS42.blk 3 rfl) rfl (fun h => h)) ?_
        refine wpL_gq (U := NoB) rfl rfl rfl hb47 (q_eql rfl rfl rfl) ?_
        refine wpL_q (U := NoB) rfl (q_pickT (v := B (decide ((doV questQ 1) = 3))) rfl hb47 rfl) ?_
        refine wpL_q (U := NoB) rfl (q_move (v := B (decide ((doV questQ 1) = 3))) rfl rfl) ?_
        by_cases hg49 : (doV questQ 1) = 3
        · have hb50 := Eq.trans rfl (congrArg B (decide_eq_true hg49))
          refine wpL_gq (U := NoB) rfl rfl rfl hb50 (q_fieldAddr rfl Try.underlying58 rfl Try.sizeOf56 a42_1) ?_
          refine wpL_gq (U := NoB) rfl rfl rfl hb50 (q_loadBlk rfl rfl Try.isAgg56 (hS42.blk 3 rfl) rfl (fun h => h)) ?_
          refine wpL_gq (U := NoB) rfl rfl rfl hb50 (q_lenRd rfl Try.underlying56 rfl (hS42.rdl 4 rfl)) ?_
          refine wpL_gq (U := NoB) rfl rfl rfl hb50 (q_gtr rfl rfl rfl) ?_
          refine wpL_q (U := NoB) rfl (q_pickT (v := B (decide (3 < ((doC questQ 1).length : Int)))) rfl hb50 rfl) ?_
          refine wpL_q (U := NoB) rfl (q_move (v := B (decide (3 < ((doC questQ 1).length : Int)))) rfl rfl) ?_
          by_cases hg52 : 3 < ((doC questQ 1).length : Int)
          · have hb53 := Eq.trans rfl (congrArg B (decide_eq_true hg52))
            refine wpL_gq (U := NoB) rfl rfl rfl hb53 (q_move (v := r33) rfl a42_3) ?_
            refine wpL_go rfl rfl rfl hb53 ?_
            refine e_buildSlice (vs := [I (0)]) (xs := ([0] : List Int)) rfl Try.underlying22 Try.zeroValue3 rfl Try.sizeOf3 (par1 (v0 := I (0)) rfl) rfl hS42 (RdVs.cons (Rd.int.2 ⟨rfl, by constructor <;> omega⟩) (RdVs.nil)) (by decide) (by decide) (fun v55 H56 hS57 hxx hvv55 => ?_)
            replace hS57 : St H0 NoB NoB [rowE 3 v55 ([0] : List Int), blkE g37 (.cells #[I ((backF questQ 1 ([false, true, true])).1), I ((backF questQ 1 ([false, true, true])).2)] 27), rdE r33 (backP questQ 1 ([false, true, true])), blkE g15 (.cells #[I ((doF questQ 1).1), I ((doF questQ 1).2)] 27), blkE g12 (.cells #[I ((doV questQ 1)), r8] 58), rdE r8 (doC questQ 1)] H56 := hS57
            refine wpL_go rfl rfl rfl hb53 ?_
            refine e_call rfl Try.call26 (arr2 (v0 := r33) (v1 := v55) rfl rfl) (Ints_R r33 v55 _ _ (hS57.rdN 2 rfl) (hS57.rowN 0 rfl)) ?_
            rintro _ H58 ⟨hxx, rfl⟩
            have hS59 : St H0 NoB NoB [rowE 3 v55 ([0] : List Int), blkE g37 (.cells #[I ((backF questQ 1 ([false, true, true])).1), I ((backF questQ 1 ([false, true, true])).2)] 27), rdE r33 (backP questQ 1 ([false, true, true])), blkE g15 (.cells #[I ((doF questQ 1).1), I ((doF questQ 1).2)] 27), blkE g12 (.cells #[I ((doV questQ 1)), r8] 58), rdE r8 (doC questQ 1)] H58 := hS57.ext hxx
            refine wpL_q (U := NoB) rfl (q_pickT (v := B (decide ((backP questQ 1 ([false, true, true])) = ([0])))) rfl hb53 rfl) ?_
            refine wpL_q (U := NoB) rfl (q_assign (v := B (decide ((backP questQ 1 ([false, true, true])) = ([0])))) rfl rfl) ?_
            exact ⟨(Eq.trans rfl (congrArg B (decide_congr_of ((Iff.rfl).trans (((and_iff_right ⟨⟨⟨hg43, hg46⟩, hg49⟩, hg52⟩).trans Iff.rfl)).symm)))), (hS59.drop (sn (sk (sn (sk (sk (sk (List.Sublist.slnil))))))))⟩
          · have hb54 := Eq.trans rfl (congrArg B (decide_eq_false hg52))
            refine wpL_gs rfl rfl rfl hb54 rfl ?_
            refine wpL_gs rfl rfl rfl hb54 rfl ?_
            refine wpL_gs rfl rfl rfl hb54 rfl ?_
            refine wpL_q (U := NoB) rfl (q_pickF (v := B (false)) rfl hb54 rfl) ?_
            refine wpL_q (U := NoB) rfl (q_assign (v := B (false)) rfl rfl) ?_
            exact ⟨(Eq.trans rfl (congrArg B ((decide_eq_false (fun h => (fun h => hg52 h.2) h.1)).symm))), (hS42.drop (sk (sn (sk (sk (sk (List.Sublist.slnil)))))))⟩
        · have hb51 := Eq.trans rfl (congrArg B (decide_eq_false hg49))
          refine wpL_gs rfl rfl rfl hb51 rfl ?_
          refine wpL_gs rfl rfl rfl hb51 rfl ?_
          refine wpL_gs rfl rfl rfl hb51 rfl ?_
          refine wpL_gs rfl rfl rfl hb51 rfl ?_
          refine wpL_q (U := NoB) rfl (q_pickF (v := B (false)) rfl hb51 rfl) ?_
          refine wpL_q (U := NoB) rfl (q_move (v := B (false)) rfl rfl) ?_
          refine wpL_gs rfl rfl rfl rfl rfl ?_
          refine wpL_gs rfl rfl rfl rfl rfl ?_
          refine wpL_gs rfl rfl rfl rfl rfl ?_
          refine wpL_q (U := NoB) rfl (q_pickF (v := B (false)) rfl rfl rfl) ?_
          refine wpL_q (U := NoB) rfl (q_assign (v := B (false)) rfl rfl) ?_
          exact ⟨(Eq.trans rfl (congrArg B ((decide_eq_false (fun h => (fun h => (fun h => hg49 h.2) h.1) h.1)).symm))), (hS42.drop (sk (sn (sk (sk (sk (List.Sublist.slnil)))))))⟩
      · have hb48 := Eq.trans rfl (congrArg B (decide_eq_false hg46))
        refine wpL_gs rfl rfl rfl hb48 rfl ?_
        refine wpL_gs rfl rfl rfl hb48 rfl ?_
        refine wpL_gs rfl rfl rfl hb48 rfl ?_
        refine wpL_q (U := NoB) rfl (q_pickF (v := B (false)) rfl hb48 rfl) ?_
        refine wpL_q (U := NoB) rfl (q_move (v := B (false)) rfl rfl) ?_
        refine wpL_gs rfl rfl rfl rfl rfl ?_
        refine wpL_gs rfl rfl rfl rfl rfl ?_
        refine wpL_gs rfl rfl rfl rfl rfl ?_
        refine wpL_gs rfl rfl rfl rfl rfl ?_
        refine wpL_q (U := NoB) rfl (q_pickF (v := B (false)) rfl rfl rfl) ?_
        refine wpL_q (U := NoB) rfl (q_move (v := B (false)) rfl rfl) ?_
        refine wpL_gs rfl rfl rfl rfl rfl ?_
        refine wpL_gs rfl rfl rfl rfl rfl ?_
        refine wpL_gs rfl rfl rfl rfl rfl ?_
        refine wpL_q (U := NoB) rfl (q_pickF (v := B (false)) rfl rfl rfl) ?_
        refine wpL_q (U := NoB) rfl (q_assign (v := B (false)) rfl rfl) ?_
        exact ⟨(Eq.trans rfl (congrArg B ((decide_eq_false (fun h => (fun h => (fun h => (fun h => hg46 h.2) h.1) h.1) h.1)).symm))), (hS42.drop (sk (sn (sk (sk (sk (List.Sublist.slnil)))))))⟩
    · have hb45 := Eq.trans rfl (congrArg B (decide_eq_false hg43))
      refine wpL_gs rfl rfl rfl hb45 rfl ?_
      refine wpL_gs rfl rfl rfl hb45 rfl ?_
      refine wpL_gs rfl rfl rfl hb45 rfl ?_
      refine wpL_q (U := NoB) rfl (q_pickF (v := B (false)) rfl hb45 rfl) ?_
      refine wpL_q (U := NoB) rfl (q_move (v := B (false)) rfl rfl) ?_
      refine wpL_gs rfl rfl rfl rfl rfl ?_
      refine wpL_gs rfl rfl rfl rfl rfl ?_
      refine wpL_gs rfl rfl rfl rfl rfl ?_
      refine wpL_q (U := NoB) rfl (q_pickF (v := B (false)) rfl rfl rfl) ?_
      refine wpL_q (U := NoB) rfl (q_move (v := B (false)) rfl rfl) ?_
      refine wpL_gs rfl rfl rfl rfl rfl ?_
      refine wpL_gs rfl rfl rfl rfl rfl ?_
      refine wpL_gs rfl rfl rfl rfl rfl ?_
      refine wpL_gs rfl rfl rfl rfl rfl ?_
      refine wpL_q (U := NoB) rfl (q_pickF (v := B (false)) rfl rfl rfl) ?_
      refine wpL_q (U := NoB) rfl (q_move (v := B (false)) rfl rfl) ?_
      refine wpL_gs rfl rfl rfl rfl rfl ?_
      refine wpL_gs rfl rfl rfl rfl rfl ?_
      refine wpL_gs rfl rfl rfl rfl rfl ?_
      refine wpL_q (U := NoB) rfl (q_pickF (v := B (false)) rfl rfl rfl) ?_
      refine wpL_q (U := NoB) rfl (q_assign (v := B (false)) rfl rfl) ?_
      exact ⟨(Eq.trans rfl (congrArg B ((decide_eq_false (fun h => (fun h => (fun h => (fun h => hg43 h.1) h.1) h.1) h.1)).symm))), (hS42.drop (sk (sn (sk (sk (sk (List.Sublist.slnil)))))))⟩
  rintro f61 H61 ⟨a61_0, hS61⟩
  clear a42_1 a42_2 a42_3 a42_4
  refine wpF_ret ?_
  refine ⟨_, resT a61_0 resN, hS61.frame, ?_⟩
  show (B (decide (((((((doF questQ 1).1) = 0) ∧ (((backF questQ 1 ([false, true, true])).1) = 0)) ∧ ((doV questQ 1) = 3)) ∧ (3 < ((doC questQ 1).length : Int))) ∧ ((backP questQ 1 ([false, true, true])) = ([0]))))) = B true
  exact congrArg B (decide_eq_true (by simp [questQ_steps]))

set_option maxHeartbeats 4000000 in
set_option maxRecDepth 100000 in
theorem StepsBack_L {H0 : Heap} (vf vg va vh : Value) (q : Quest) (n : Int) (holds : List Bool) (h6qFacts : In64 q.Facts) (rvf : Rd NoB H0 vf q.First) (rvg : Rd NoB H0 vg q.Goal) (rva : Rd NoB H0 va q.Acts) (hni : In64 n) (rh : Rd NoB H0 vh holds) : CallsH Try.prog 11 #[Value.agg #[I (q.Facts), vf, vg, va], I (n), vh] H0 (fun rv_ H' => Ext NoB H0 H' ∧ rv_ = B true) := by
  have hsa := (Rd.list.1 rva).small
  have hsh := (Rd.list.1 rh).small
  have hS0 : St H0 NoB NoB [rdE vf q.First, rdE vg q.Goal, rdE va q.Acts, rdE vh holds] H0 := St.arg (St.arg (St.arg (St.arg (St.start (fun _ h => h.elim)) (Bl0.nil) rh (fun _ h => h)) (Bl0.cons (Bl0.nil)) rva (fun _ h => h)) (Bl0.cons (Bl0.cons (Bl0.nil))) rvg (fun _ h => h)) (Bl0.cons (Bl0.cons (Bl0.cons (Bl0.nil)))) rvf (fun _ h => h)
  refine callsH_of_wpF (args := [Value.agg #[I (q.Facts), vf, vg, va], I (n), vh]) (rs := [.tmp 6]) Try.func11 rfl Try.ntmps11 Try.results11 (by kernel_rfl) (Nat.le_of_ble_eq_true rfl) ?_
  have a0_0 : argF [Value.agg #[I (q.Facts), vf, vg, va], I (n), vh] 0 = Value.agg #[I (q.Facts), vf, vg, va] := rfl
  have a0_1 : argF [Value.agg #[I (q.Facts), vf, vg, va], I (n), vh] 1 = I (n) := rfl
  have a0_2 : argF [Value.agg #[I (q.Facts), vf, vg, va], I (n), vh] 2 = vh := rfl
  generalize argF [Value.agg #[I (q.Facts), vf, vg, va], I (n), vh] = f0 at *
  refine wpF_seq ?_
  refine wpF_cut (fun f H => ∃ (g1 : Nat), f 1 = I (n) ∧ f 2 = vh ∧ f 3 = PT g1 0 ∧ St H0 NoB NoB [blkE g1 (.cells #[I (q.Facts), vf, vg, va] 25), rdE vf q.First, rdE vg q.Goal, rdE va q.Acts, rdE vh holds] H) ?_ ?_
  · refine wpF_region ?_
    refine wpL_o rfl ?_
    refine e_box (v := Value.agg #[I (q.Facts), vf, vg, va]) rfl a0_0 hS0 (fun g1 H2 hS3 hxx => ?_)
    replace hS3 : St H0 NoB NoB [blkE g1 (.cells #[I (q.Facts), vf, vg, va] 25), rdE vf q.First, rdE vg q.Goal, rdE va q.Acts, rdE vh holds] H2 := hS3
    refine wpL_q (U := NoB) rfl (q_assign (v := B (false)) rfl rfl) ?_
    exact ⟨g1, a0_1, a0_2, rfl, hS3⟩
  rintro f4 H4 ⟨g1, a4_1, a4_2, a4_3, hS4⟩
  clear a0_0 a0_1 a0_2
  refine wpF_seq ?_
  refine wpF_cut (fun f H => f 1 = I (n) ∧ f 2 = vh ∧ f 3 = PT g1 0 ∧ f 7 = B (true) ∧ St H0 NoB NoB [blkE g1 (.cells #[I (q.Facts), vf, vg, va] 25), rdE vf q.First, rdE vg q.Goal, rdE va q.Acts, rdE vh holds] H) ?_ ?_
  · refine wpF_region ?_
    refine wpL_o rfl ?_
    refine e_call rfl Try.call36 arr0 (stepsFact) ?_
    rintro _ H5 ⟨hxx, rfl⟩
    have hS6 : St H0 NoB NoB [blkE g1 (.cells #[I (q.Facts), vf, vg, va] 25), rdE vf q.First, rdE vg q.Goal, rdE va q.Acts, rdE vh holds] H5 := hS4.ext hxx
    refine wpL_q (U := NoB) rfl (q_assign (v := B (true)) rfl rfl) ?_
    exact ⟨a4_1, a4_2, a4_3, rfl, hS6⟩
  rintro f8 H8 ⟨a8_1, a8_2, a8_3, a8_7, hS8⟩
  clear a4_1 a4_2 a4_3
  refine wpF_seq ?_
  refine wpF_seq ?_
  refine wpF_cut (fun f H => f 1 = I (n) ∧ f 2 = vh ∧ f 3 = PT g1 0 ∧ f 15 = B (false) ∧ H8 = H) ?_ ?_
  · refine wpF_region ?_
    refine wpL_q (U := NoB) rfl (q_move (v := B (true)) rfl a8_7) ?_
    refine wpL_q (U := NoB) rfl (q_not rfl rfl) ?_
    exact ⟨a8_1, a8_2, a8_3, rfl, rfl⟩
  rintro f9 _ ⟨a9_1, a9_2, a9_3, a9_15, rfl⟩
  clear a8_1 a8_2 a8_3 a8_7
  refine wpF_condF a9_15 ?_
  refine wpF_skip ?_
  refine wpF_seq ?_
  refine wpF_cut (fun f H => ∃ (r10 : Value), ∃ (g14 : Nat), ∃ (g17 : Nat), f 1 = I (n) ∧ f 2 = vh ∧ f 3 = PT g1 0 ∧ f 8 = PT g14 0 ∧ f 9 = PT g17 0 ∧ St H0 NoB NoB [blkE g17 (.cells #[I ((doF q n).1), I ((doF q n).2)] 27), blkE g14 (.cells #[I ((doV q n)), r10] 58), rdE r10 (doC q n), blkE g1 (.cells #[I (q.Facts), vf, vg, va] 25), rdE vf q.First, rdE vg q.Goal, rdE va q.Acts, rdE vh holds] H) ?_ ?_
  · refine wpF_region ?_
    refine wpL_q (U := NoB) rfl (q_loadBlkA rfl a9_3 Try.isAgg25 Try.sizeOf25 rfl (hS8.blk 0 rfl) (fun h => h)) ?_
    refine wpL_q (U := NoB) rfl (q_move (v := I (n)) rfl a9_1) ?_
    refine wpL_o rfl ?_
    refine e_call rfl Try.call32 (arr2 (v0 := Value.agg #[I (q.Facts), vf, vg, va]) (v1 := I (n)) rfl rfl) (Do_E vf vg va q n (by first | assumption | (constructor <;> omega)) (hS8.rdS 1 rfl) (hS8.rdS 2 rfl) (hS8.rdS 3 rfl) hni) ?_
    rintro _ H11 ⟨hxx, r10, rfl, hrr10⟩
    have hS12 : St H0 NoB NoB [rdE r10 (doC q n), blkE g1 (.cells #[I (q.Facts), vf, vg, va] 25), rdE vf q.First, rdE vg q.Goal, rdE va q.Acts, rdE vh holds] H11 := (hS8.res hxx hrr10)
    refine wpL_q (U := NoB) rfl (q_move (v := Value.tuple #[Value.agg #[I ((doV q n)), r10], Value.agg #[I ((doF q n).1), I ((doF q n).2)]]) rfl rfl) ?_
    refine wpL_q (U := NoB) rfl (q_extract (vs := #[Value.agg #[I ((doV q n)), r10], Value.agg #[I ((doF q n).1), I ((doF q n).2)]]) (v := Value.agg #[I ((doV q n)), r10]) rfl rfl rfl) ?_
    refine wpL_q (U := NoB) rfl (q_extract (vs := #[Value.agg #[I ((doV q n)), r10], Value.agg #[I ((doF q n).1), I ((doF q n).2)]]) (v := Value.agg #[I ((doF q n).1), I ((doF q n).2)]) rfl rfl rfl) ?_
    refine wpL_o rfl ?_
    refine e_alloc rfl Try.zeroValue58 hS12 (fun g14 H15 hS16 hxx => ?_)
    replace hS16 : St H0 NoB NoB [blkE g14 (.cells #[I (0), (Value.slice none 0 0)] 58), rdE r10 (doC q n), blkE g1 (.cells #[I (q.Facts), vf, vg, va] 25), rdE vf q.First, rdE vg q.Goal, rdE va q.Acts, rdE vh holds] H15 := hS16
    refine wpL_o rfl ?_
    refine e_alloc rfl Try.zeroValue27 hS16 (fun g17 H18 hS19 hxx => ?_)
    replace hS19 : St H0 NoB NoB [blkE g17 (.cells #[I (0), I (0)] 27), blkE g14 (.cells #[I (0), (Value.slice none 0 0)] 58), rdE r10 (doC q n), blkE g1 (.cells #[I (q.Facts), vf, vg, va] 25), rdE vf q.First, rdE vg q.Goal, rdE va q.Acts, rdE vh holds] H18 := hS19
    refine wpL_o rfl ?_
    refine e_storeBlkA (cs' := #[I ((doV q n)), r10]) rfl rfl rfl Try.sizeOf58 rfl rfl (List.forall_mem_cons.2 ⟨rfl, List.forall_mem_cons.2 ⟨(oneCell_rdL (hS19.rdl 2 rfl)), List.forall_mem_nil _⟩⟩) (hS19.front 1 rfl) (fun H20 hS21 hxx => ?_)
    replace hS21 : St H0 NoB NoB [blkE g14 (.cells #[I ((doV q n)), r10] 58), blkE g17 (.cells #[I (0), I (0)] 27), rdE r10 (doC q n), blkE g1 (.cells #[I (q.Facts), vf, vg, va] 25), rdE vf q.First, rdE vg q.Goal, rdE va q.Acts, rdE vh holds] H20 := hS21
    refine wpL_o rfl ?_
    refine e_storeBlkA (cs' := #[I ((doF q n).1), I ((doF q n).2)]) rfl rfl rfl Try.sizeOf27 rfl rfl (List.forall_mem_cons.2 ⟨rfl, List.forall_mem_cons.2 ⟨rfl, List.forall_mem_nil _⟩⟩) (hS21.front 1 rfl) (fun H22 hS23 hxx => ?_)
    replace hS23 : St H0 NoB NoB [blkE g17 (.cells #[I ((doF q n).1), I ((doF q n).2)] 27), blkE g14 (.cells #[I ((doV q n)), r10] 58), rdE r10 (doC q n), blkE g1 (.cells #[I (q.Facts), vf, vg, va] 25), rdE vf q.First, rdE vg q.Goal, rdE va q.Acts, rdE vh holds] H22 := hS23
    exact ⟨r10, g14, g17, a9_1, a9_2, a9_3, rfl, rfl, hS23⟩
  rintro f24 H24 ⟨r10, g14, g17, a24_1, a24_2, a24_3, a24_8, a24_9, hS24⟩
  clear a9_1 a9_15 a9_2 a9_3
  refine wpF_seq ?_
  refine wpF_seq ?_
  refine wpF_cut (fun f H => f 1 = I (n) ∧ f 2 = vh ∧ f 3 = PT g1 0 ∧ f 8 = PT g14 0 ∧ f 9 = PT g17 0 ∧ f 38 = B (decide (((((doF q n).1) ≠ 0) ∨ ((holds.length : Int) ≠ (doV q n))) ∨ ((!(heldB (doC q n) holds)) = true))) ∧ St H0 NoB NoB [blkE g17 (.cells #[I ((doF q n).1), I ((doF q n).2)] 27), blkE g14 (.cells #[I ((doV q n)), r10] 58), rdE r10 (doC q n), blkE g1 (.cells #[I (q.Facts), vf, vg, va] 25), rdE vf q.First, rdE vg q.Goal, rdE va q.Acts, rdE vh holds] H) ?_ ?_
  · refine wpF_region ?_
    refine wpL_q (U := NoB) rfl (q_fieldAddr rfl Try.underlying27 rfl Try.sizeOf3 a24_9) ?_
    refine wpL_q (U := NoB) rfl (q_loadBlk rfl rfl Try.isAgg3 (hS24.blk 0 rfl) rfl (fun h => h)) ?_
    refine wpL_q (U := NoB) rfl (q_neq rfl rfl rfl) ?_
    refine wpL_q (U := NoB) rfl (q_move (v := B (decide (((doF q n).1) ≠ 0))) rfl rfl) ?_
    by_cases hg25 : ((doF q n).1) ≠ 0
    · have hb26 := Eq.trans rfl (congrArg B (decide_eq_true hg25))
      refine wpL_gs rfl rfl rfl hb26 rfl ?_
      refine wpL_gs rfl rfl rfl hb26 rfl ?_
      refine wpL_gs rfl rfl rfl hb26 rfl ?_
      refine wpL_gs rfl rfl rfl hb26 rfl ?_
      refine wpL_gs rfl rfl rfl hb26 rfl ?_
      refine wpL_q (U := NoB) rfl (q_pickT (v := B (true)) rfl hb26 rfl) ?_
      refine wpL_q (U := NoB) rfl (q_move (v := B (true)) rfl rfl) ?_
      refine wpL_gs rfl rfl rfl rfl rfl ?_
      refine wpL_gs rfl rfl rfl rfl rfl ?_
      refine wpL_gs rfl rfl rfl rfl rfl ?_
      refine wpL_gs rfl rfl rfl rfl rfl ?_
      refine wpL_gs rfl rfl rfl rfl rfl ?_
      refine wpL_q (U := NoB) rfl (q_pickT (v := B (true)) rfl rfl rfl) ?_
      exact ⟨a24_1, a24_2, a24_3, a24_8, a24_9, (Eq.trans rfl (congrArg B ((decide_eq_true (Or.inl (Or.inl hg25))).symm))), hS24⟩
    · have hb27 := Eq.trans rfl (congrArg B (decide_eq_false hg25))
      refine wpL_gq (U := NoB) rfl rfl rfl hb27 (q_move (v := vh) rfl a24_2) ?_
      refine wpL_gq (U := NoB) rfl rfl rfl hb27 (q_lenRd rfl Try.underlying29 rfl (hS24.rdl 7 rfl)) ?_
      refine wpL_gq (U := NoB) rfl rfl rfl hb27 (q_fieldAddr rfl Try.underlying58 rfl Try.sizeOf3 a24_8) ?_
      refine wpL_gq (U := NoB) rfl rfl rfl hb27 (q_loadBlk rfl rfl Try.isAgg3 (hS24.blk 1 rfl) rfl (fun h => h)) ?_
      refine wpL_gq (U := NoB) rfl rfl rfl hb27 (q_neq rfl rfl rfl) ?_
      refine wpL_q (U := NoB) rfl (q_pickF (v := B (decide ((holds.length : Int) ≠ (doV q n)))) rfl hb27 rfl) ?_
      refine wpL_q (U := NoB) rfl (q_move (v := B (decide ((holds.length : Int) ≠ (doV q n)))) rfl rfl) ?_
      by_cases hg28 : (holds.length : Int) ≠ (doV q n)
      · have hb29 := Eq.trans rfl (congrArg B (decide_eq_true hg28))
        refine wpL_gs rfl rfl rfl hb29 rfl ?_
        refine wpL_gs rfl rfl rfl hb29 rfl ?_
        refine wpL_gs rfl rfl rfl hb29 rfl ?_
        refine wpL_gs rfl rfl rfl hb29 rfl ?_
        refine wpL_gs rfl rfl rfl hb29 rfl ?_
        refine wpL_q (U := NoB) rfl (q_pickT (v := B (true)) rfl hb29 rfl) ?_
        exact ⟨a24_1, a24_2, a24_3, a24_8, a24_9, (Eq.trans rfl (congrArg B ((decide_eq_true (Or.inl (Or.inr hg28))).symm))), hS24⟩
      · have hb30 := Eq.trans rfl (congrArg B (decide_eq_false hg28))
        refine wpL_gq (U := NoB) rfl rfl rfl hb30 (q_fieldAddr rfl Try.underlying58 rfl Try.sizeOf56 a24_8) ?_
        refine wpL_gq (U := NoB) rfl rfl rfl hb30 (q_loadBlk rfl rfl Try.isAgg56 (hS24.blk 1 rfl) rfl (fun h => h)) ?_
        refine wpL_gq (U := NoB) rfl rfl rfl hb30 (q_move (v := vh) rfl a24_2) ?_
        refine wpL_go rfl rfl rfl hb30 ?_
        refine e_call rfl Try.call37 (arr2 (v0 := r10) (v1 := vh) rfl rfl) (Held_R r10 vh _ _ (hS24.rdN 2 rfl) (hS24.rdN 7 rfl) doC_small) ?_
        rintro _ H31 ⟨hxx, rfl⟩
        have hS32 : St H0 NoB NoB [blkE g17 (.cells #[I ((doF q n).1), I ((doF q n).2)] 27), blkE g14 (.cells #[I ((doV q n)), r10] 58), rdE r10 (doC q n), blkE g1 (.cells #[I (q.Facts), vf, vg, va] 25), rdE vf q.First, rdE vg q.Goal, rdE va q.Acts, rdE vh holds] H31 := hS24.ext hxx
        refine wpL_gq (U := NoB) rfl rfl rfl hb30 (q_not rfl rfl) ?_
        refine wpL_q (U := NoB) rfl (q_pickF (v := B (!(heldB (doC q n) holds))) rfl hb30 rfl) ?_
        exact ⟨a24_1, a24_2, a24_3, a24_8, a24_9, (Eq.trans rfl (congrArg B (bool_congr_of ((Iff.rfl).trans (((or_iff_right (not_or.2 ⟨hg25, hg28⟩)).trans Iff.rfl)).symm)))), hS32⟩
  rintro f34 H34 ⟨a34_1, a34_2, a34_3, a34_8, a34_9, a34_38, hS34⟩
  clear a24_1 a24_2 a24_3 a24_8 a24_9
  refine wpF_condP a34_38 (fun h38 => ?t65) (fun h38 => ?e65)
  case t65 =>
    refine wpF_seq ?_
    refine wpF_cut (fun f H => f 6 = B (decide ((((doF q n).1) = 0) ∨ (((doC q n).length : Int) = 0))) ∧ H34 = H) ?_ ?_
    · refine wpF_region ?_
      refine wpL_q (U := NoB) rfl (q_fieldAddr rfl Try.underlying27 rfl Try.sizeOf3 a34_9) ?_
      refine wpL_q (U := NoB) rfl (q_loadBlk rfl rfl Try.isAgg3 (hS34.blk 0 rfl) rfl (fun h => h)) ?_
      refine wpL_q (U := NoB) rfl (q_eql rfl rfl rfl) ?_
      refine wpL_q (U := NoB) rfl (q_move (v := B (decide (((doF q n).1) = 0))) rfl rfl) ?_
      by_cases hg36 : ((doF q n).1) = 0
      · have hb37 := Eq.trans rfl (congrArg B (decide_eq_true hg36))
        refine wpL_gs rfl rfl rfl hb37 rfl ?_
        refine wpL_gs rfl rfl rfl hb37 rfl ?_
        refine wpL_gs rfl rfl rfl hb37 rfl ?_
        refine wpL_gs rfl rfl rfl hb37 rfl ?_
        refine wpL_q (U := NoB) rfl (q_pickT (v := B (true)) rfl hb37 rfl) ?_
        refine wpL_q (U := NoB) rfl (q_assign (v := B (true)) rfl rfl) ?_
        exact ⟨(Eq.trans rfl (congrArg B ((decide_eq_true (Or.inl hg36)).symm))), rfl⟩
      · have hb38 := Eq.trans rfl (congrArg B (decide_eq_false hg36))
        refine wpL_gq (U := NoB) rfl rfl rfl hb38 (q_fieldAddr rfl Try.underlying58 rfl Try.sizeOf56 a34_8) ?_
        refine wpL_gq (U := NoB) rfl rfl rfl hb38 (q_loadBlk rfl rfl Try.isAgg56 (hS34.blk 1 rfl) rfl (fun h => h)) ?_
        refine wpL_gq (U := NoB) rfl rfl rfl hb38 (q_lenRd rfl Try.underlying56 rfl (hS34.rdl 2 rfl)) ?_
        refine wpL_gq (U := NoB) rfl rfl rfl hb38 (q_eql rfl rfl rfl) ?_
        refine wpL_q (U := NoB) rfl (q_pickF (v := B (decide (((doC q n).length : Int) = 0))) rfl hb38 rfl) ?_
        refine wpL_q (U := NoB) rfl (q_assign (v := B (decide (((doC q n).length : Int) = 0))) rfl rfl) ?_
        exact ⟨(Eq.trans rfl (congrArg B (decide_congr_of ((Iff.rfl).trans (((or_iff_right hg36).trans Iff.rfl)).symm)))), rfl⟩
    rintro f39 _ ⟨a39_6, rfl⟩
    clear a34_1 a34_2 a34_3 a34_38 a34_8 a34_9
    refine wpF_ret ?_
    refine ⟨_, resT a39_6 resN, hS34.frame, ?_⟩
    show (B (decide ((((doF q n).1) = 0) ∨ (((doC q n).length : Int) = 0)))) = B true
    exact congrArg B (decide_eq_true (by by_cases h : (doF q n).1 = 0 <;> simp [h, do_none]))
  have hbl := back_law (q := q) (n := n) (h := holds) (Decidable.byContradiction fun h => h38 (.inl (.inl h))) (Decidable.byContradiction fun h => h38 (.inl (.inr h))) (by cases hx : heldB (doC q n) holds with | true => rfl | false => exact absurd (.inr (by rw [hx]; rfl)) h38)
  refine wpF_skip ?_
  refine wpF_seq ?_
  refine wpF_cut (fun f H => ∃ (r40 : Value), f 1 = I (n) ∧ f 3 = PT g1 0 ∧ f 9 = PT g17 0 ∧ f 10 = r40 ∧ St H0 NoB NoB [blkE g17 (.cells #[I ((backF q n holds).1), I ((backF q n holds).2)] 27), rdE r40 (backP q n holds), blkE g14 (.cells #[I ((doV q n)), r10] 58), rdE r10 (doC q n), blkE g1 (.cells #[I (q.Facts), vf, vg, va] 25), rdE vf q.First, rdE vg q.Goal, rdE va q.Acts, rdE vh holds] H) ?_ ?_
  · refine wpF_region ?_
    refine wpL_q (U := NoB) rfl (q_loadBlkA rfl a34_3 Try.isAgg25 Try.sizeOf25 rfl (hS34.blk 3 rfl) (fun h => h)) ?_
    refine wpL_q (U := NoB) rfl (q_move (v := I (n)) rfl a34_1) ?_
    refine wpL_q (U := NoB) rfl (q_move (v := vh) rfl a34_2) ?_
    refine wpL_o rfl ?_
    refine e_call rfl Try.call33 (arr3 (v0 := Value.agg #[I (q.Facts), vf, vg, va]) (v1 := I (n)) (v2 := vh) rfl rfl rfl) (Back_E vf vg va vh q n holds (by first | assumption | (constructor <;> omega)) (hS34.rdS 4 rfl) (hS34.rdS 5 rfl) (hS34.rdS 6 rfl) (hS34.rdS 7 rfl) hni) ?_
    rintro _ H41 ⟨hxx, r40, rfl, hrr40⟩
    have hS42 : St H0 NoB NoB [rdE r40 (backP q n holds), blkE g17 (.cells #[I ((doF q n).1), I ((doF q n).2)] 27), blkE g14 (.cells #[I ((doV q n)), r10] 58), rdE r10 (doC q n), blkE g1 (.cells #[I (q.Facts), vf, vg, va] 25), rdE vf q.First, rdE vg q.Goal, rdE va q.Acts, rdE vh holds] H41 := (hS34.res hxx hrr40)
    refine wpL_q (U := NoB) rfl (q_move (v := Value.tuple #[r40, Value.agg #[I ((backF q n holds).1), I ((backF q n holds).2)]]) rfl rfl) ?_
    refine wpL_q (U := NoB) rfl (q_extract (vs := #[r40, Value.agg #[I ((backF q n holds).1), I ((backF q n holds).2)]]) (v := r40) rfl rfl rfl) ?_
    refine wpL_q (U := NoB) rfl (q_extract (vs := #[r40, Value.agg #[I ((backF q n holds).1), I ((backF q n holds).2)]]) (v := Value.agg #[I ((backF q n holds).1), I ((backF q n holds).2)]) rfl rfl rfl) ?_
    refine wpL_q (U := NoB) rfl (q_assign (v := r40) rfl rfl) ?_
    refine wpL_o rfl ?_
    refine e_storeBlkA (cs' := #[I ((backF q n holds).1), I ((backF q n holds).2)]) rfl a34_9 rfl Try.sizeOf27 rfl rfl (List.forall_mem_cons.2 ⟨rfl, List.forall_mem_cons.2 ⟨rfl, List.forall_mem_nil _⟩⟩) (hS42.front 1 rfl) (fun H44 hS45 hxx => ?_)
    replace hS45 : St H0 NoB NoB [blkE g17 (.cells #[I ((backF q n holds).1), I ((backF q n holds).2)] 27), rdE r40 (backP q n holds), blkE g14 (.cells #[I ((doV q n)), r10] 58), rdE r10 (doC q n), blkE g1 (.cells #[I (q.Facts), vf, vg, va] 25), rdE vf q.First, rdE vg q.Goal, rdE va q.Acts, rdE vh holds] H44 := hS45
    exact ⟨r40, a34_1, a34_3, a34_9, rfl, hS45⟩
  rintro f46 H46 ⟨r40, a46_1, a46_3, a46_9, a46_10, hS46⟩
  clear a34_1 a34_2 a34_3 a34_38 a34_8 a34_9
  refine wpF_seq ?_
  refine wpF_seq ?_
  refine wpF_cut (fun f H => f 3 = PT g1 0 ∧ f 9 = PT g17 0 ∧ f 10 = r40 ∧ f 63 = B (decide ((((backF q n holds).1) ≠ 0) ∨ (((backP q n holds).length : Int) ≠ n))) ∧ H46 = H) ?_ ?_
  · refine wpF_region ?_
    refine wpL_q (U := NoB) rfl (q_fieldAddr rfl Try.underlying27 rfl Try.sizeOf3 a46_9) ?_
    refine wpL_q (U := NoB) rfl (q_loadBlk rfl rfl Try.isAgg3 (hS46.blk 0 rfl) rfl (fun h => h)) ?_
    refine wpL_q (U := NoB) rfl (q_neq rfl rfl rfl) ?_
    refine wpL_q (U := NoB) rfl (q_move (v := B (decide (((backF q n holds).1) ≠ 0))) rfl rfl) ?_
    by_cases hg47 : ((backF q n holds).1) ≠ 0
    · have hb48 := Eq.trans rfl (congrArg B (decide_eq_true hg47))
      refine wpL_gs rfl rfl rfl hb48 rfl ?_
      refine wpL_gs rfl rfl rfl hb48 rfl ?_
      refine wpL_gs rfl rfl rfl hb48 rfl ?_
      refine wpL_gs rfl rfl rfl hb48 rfl ?_
      refine wpL_q (U := NoB) rfl (q_pickT (v := B (true)) rfl hb48 rfl) ?_
      exact ⟨a46_3, a46_9, a46_10, (Eq.trans rfl (congrArg B ((decide_eq_true (Or.inl hg47)).symm))), rfl⟩
    · have hb49 := Eq.trans rfl (congrArg B (decide_eq_false hg47))
      refine wpL_gq (U := NoB) rfl rfl rfl hb49 (q_move (v := r40) rfl a46_10) ?_
      refine wpL_gq (U := NoB) rfl rfl rfl hb49 (q_lenRd rfl Try.underlying22 rfl (hS46.rdl 1 rfl)) ?_
      refine wpL_gq (U := NoB) rfl rfl rfl hb49 (q_move (v := I (n)) rfl a46_1) ?_
      refine wpL_gq (U := NoB) rfl rfl rfl hb49 (q_neq rfl rfl rfl) ?_
      refine wpL_q (U := NoB) rfl (q_pickF (v := B (decide (((backP q n holds).length : Int) ≠ n))) rfl hb49 rfl) ?_
      exact ⟨a46_3, a46_9, a46_10, (Eq.trans rfl (congrArg B (decide_congr_of ((Iff.rfl).trans (((or_iff_right hg47).trans Iff.rfl)).symm)))), rfl⟩
  rintro f50 _ ⟨a50_3, a50_9, a50_10, a50_63, rfl⟩
  clear a46_1 a46_10 a46_3 a46_9
  refine wpF_condP a50_63 (fun h63 => ?t64) (fun h63 => ?e64)
  case t64 =>
    refine wpF_seq ?_
    refine wpF_cut (fun f H => f 6 = B (false) ∧ H46 = H) ?_ ?_
    · refine wpF_region ?_
      refine wpL_q (U := NoB) rfl (q_assign (v := B (false)) rfl rfl) ?_
      exact ⟨rfl, rfl⟩
    rintro f52 _ ⟨a52_6, rfl⟩
    clear a50_10 a50_3 a50_63 a50_9
    refine wpF_ret ?_
    refine ⟨_, resT a52_6 resN, hS46.frame, ?_⟩
    show (B (false)) = B true
    exfalso
    exact h63.elim (fun h => h hbl.1) (fun h => h hbl.2.1)
  refine wpF_skip ?_
  refine wpF_seq ?_
  refine wpF_cut (fun f H => f 9 = PT g17 0 ∧ f 12 = B (walkOk q (backP q n holds)) ∧ St H0 NoB NoB [blkE g17 (.cells #[I (((walkFault q (backP q n holds))).1), I (((walkFault q (backP q n holds))).2)] 27), blkE g14 (.cells #[I ((doV q n)), r10] 58), rdE r10 (doC q n), blkE g1 (.cells #[I (q.Facts), vf, vg, va] 25), rdE vf q.First, rdE vg q.Goal, rdE va q.Acts, rdE vh holds] H) ?_ ?_
  · refine wpF_region ?_
    refine wpL_q (U := NoB) rfl (q_loadBlkA rfl a50_3 Try.isAgg25 Try.sizeOf25 rfl (hS46.blk 4 rfl) (fun h => h)) ?_
    refine wpL_q (U := NoB) rfl (q_move (v := r40) rfl a50_10) ?_
    refine wpL_o rfl ?_
    refine e_call rfl Try.call14 (arr2 (v0 := Value.agg #[I (q.Facts), vf, vg, va]) (v1 := r40) rfl rfl) (Walk_L vf vg va r40 q (backP q n holds) (by first | assumption | (constructor <;> omega)) (hS46.rdS 5 rfl) (hS46.rdS 6 rfl) (hS46.rdS 7 rfl) (hS46.rdS 1 rfl) ) ?_
    rintro _ H54 ⟨hxx, r53, rfl, hrr53⟩
    have hS55 : St H0 NoB NoB [rdE r53 (walkNow q (backP q n holds)), blkE g17 (.cells #[I ((backF q n holds).1), I ((backF q n holds).2)] 27), rdE r40 (backP q n holds), blkE g14 (.cells #[I ((doV q n)), r10] 58), rdE r10 (doC q n), blkE g1 (.cells #[I (q.Facts), vf, vg, va] 25), rdE vf q.First, rdE vg q.Goal, rdE va q.Acts, rdE vh holds] H54 := hS46.res hxx hrr53
    refine wpL_q (U := NoB) rfl (q_move (v := Value.tuple #[r53, B (walkOk q (backP q n holds)), Value.agg #[I (((walkFault q (backP q n holds))).1), I (((walkFault q (backP q n holds))).2)]]) rfl rfl) ?_
    refine wpL_q (U := NoB) rfl (q_extract (vs := #[r53, B (walkOk q (backP q n holds)), Value.agg #[I (((walkFault q (backP q n holds))).1), I (((walkFault q (backP q n holds))).2)]]) (v := r53) rfl rfl rfl) ?_
    refine wpL_q (U := NoB) rfl (q_extract (vs := #[r53, B (walkOk q (backP q n holds)), Value.agg #[I (((walkFault q (backP q n holds))).1), I (((walkFault q (backP q n holds))).2)]]) (v := B (walkOk q (backP q n holds))) rfl rfl rfl) ?_
    refine wpL_q (U := NoB) rfl (q_extract (vs := #[r53, B (walkOk q (backP q n holds)), Value.agg #[I (((walkFault q (backP q n holds))).1), I (((walkFault q (backP q n holds))).2)]]) (v := Value.agg #[I (((walkFault q (backP q n holds))).1), I (((walkFault q (backP q n holds))).2)]) rfl rfl rfl) ?_
    refine wpL_q (U := NoB) rfl (q_assign (v := r53) rfl rfl) ?_
    refine wpL_q (U := NoB) rfl (q_assign (v := B (walkOk q (backP q n holds))) rfl rfl) ?_
    refine wpL_o rfl ?_
    refine e_storeBlkA (cs' := #[I (((walkFault q (backP q n holds))).1), I (((walkFault q (backP q n holds))).2)]) rfl a50_9 rfl Try.sizeOf27 rfl rfl (List.forall_mem_cons.2 ⟨rfl, List.forall_mem_cons.2 ⟨rfl, List.forall_mem_nil _⟩⟩) (hS55.front 1 rfl) (fun H57 hS58 hxx => ?_)
    replace hS58 : St H0 NoB NoB [blkE g17 (.cells #[I (((walkFault q (backP q n holds))).1), I (((walkFault q (backP q n holds))).2)] 27), rdE r53 (walkNow q (backP q n holds)), rdE r40 (backP q n holds), blkE g14 (.cells #[I ((doV q n)), r10] 58), rdE r10 (doC q n), blkE g1 (.cells #[I (q.Facts), vf, vg, va] 25), rdE vf q.First, rdE vg q.Goal, rdE va q.Acts, rdE vh holds] H57 := hS58
    exact ⟨a50_9, rfl, (hS58.drop (sk (sn (sn (sk (sk (sk (sk (sk (sk (sk (List.Sublist.slnil))))))))))))⟩
  rintro f59 H59 ⟨a59_9, a59_12, hS59⟩
  clear a50_10 a50_3 a50_63 a50_9
  refine wpF_seq ?_
  refine wpF_cut (fun f H => f 6 = B (decide (((((walkFault q (backP q n holds))).1) = 0) ∧ ((walkOk q (backP q n holds)) = true))) ∧ H59 = H) ?_ ?_
  · refine wpF_region ?_
    refine wpL_q (U := NoB) rfl (q_fieldAddr rfl Try.underlying27 rfl Try.sizeOf3 a59_9) ?_
    refine wpL_q (U := NoB) rfl (q_loadBlk rfl rfl Try.isAgg3 (hS59.blk 0 rfl) rfl (fun h => h)) ?_
    refine wpL_q (U := NoB) rfl (q_eql rfl rfl rfl) ?_
    refine wpL_q (U := NoB) rfl (q_move (v := B (decide ((((walkFault q (backP q n holds))).1) = 0))) rfl rfl) ?_
    by_cases hg60 : (((walkFault q (backP q n holds))).1) = 0
    · have hb61 := Eq.trans rfl (congrArg B (decide_eq_true hg60))
      refine wpL_gq (U := NoB) rfl rfl rfl hb61 (q_move (v := B (walkOk q (backP q n holds))) rfl a59_12) ?_
      refine wpL_q (U := NoB) rfl (q_pickT (v := B (walkOk q (backP q n holds))) rfl hb61 rfl) ?_
      refine wpL_q (U := NoB) rfl (q_assign (v := B (walkOk q (backP q n holds))) rfl rfl) ?_
      exact ⟨(Eq.trans rfl (congrArg B (bool_congr_of ((Iff.rfl).trans (((and_iff_right hg60).trans Iff.rfl)).symm)))), rfl⟩
    · have hb62 := Eq.trans rfl (congrArg B (decide_eq_false hg60))
      refine wpL_gs rfl rfl rfl hb62 rfl ?_
      refine wpL_q (U := NoB) rfl (q_pickF (v := B (false)) rfl hb62 rfl) ?_
      refine wpL_q (U := NoB) rfl (q_assign (v := B (false)) rfl rfl) ?_
      exact ⟨(Eq.trans rfl (congrArg B ((decide_eq_false (fun h => hg60 h.1)).symm))), rfl⟩
  rintro f63 _ ⟨a63_6, rfl⟩
  clear a59_12 a59_9
  refine wpF_ret ?_
  refine ⟨_, resT a63_6 resN, hS59.frame, ?_⟩
  show (B (decide (((((walkFault q (backP q n holds))).1) = 0) ∧ ((walkOk q (backP q n holds)) = true)))) = B true
  exact congrArg B (decide_eq_true (by simp [hbl.2.2.1, hbl.2.2.2]))

end Go.Um
