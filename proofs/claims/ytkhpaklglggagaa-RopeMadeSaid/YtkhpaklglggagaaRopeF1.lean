import Derived.Test.YtkhpaklglggagaaProg
import Derived.Test.YtkhpaklglggagaaRopeC1
import Derived.Test.YtkhpaklglggagaaAutoA1
import Derived.Test.YtkhpaklglggagaaRopeBoth
namespace Go.Um
open Go.Proofs
open GoT (sz ag rdc)
open KeyT (kv)



set_option maxRecDepth 100000 in
theorem ropeFact {H0 : Heap}   : CallsH Try.prog 43 #[] H0 (fun rv_ H' => Ext NoB H0 H' ∧ rv_ = B true) := by
  have hS0 : St H0 NoB NoB [] H0 := St.start (fun _ h => h.elim)
  refine callsH_of_wpF (args := []) (rs := [.tmp 0]) Try.func43 rfl Try.ntmps43 Try.results43 (by kernel_rfl) (Nat.le_of_ble_eq_true rfl) ?_
  generalize argF [] = f0 at *
  refine wpF_seq ?_
  refine wpF_cut (fun f H => H0 = H) ?_ ?_
  · refine wpF_region ?_
    refine wpL_q (U := NoB) rfl (q_assign (v := B (false)) rfl rfl) ?_
    exact rfl
  rintro f1 _ rfl
  refine wpF_seq ?_
  refine wpF_cut (fun f H => ∃ (r2 : Value), ∃ (r20 : Value), ∃ (g24 : Nat), f 1 = r20 ∧ f 2 = B (cutOk ([evenA, evenA]) ([1, 1])) ∧ f 3 = PT g24 0 ∧ St H0 NoB NoB [blkE g24 (.cells #[I ((cutFault ([evenA, evenA]) ([1, 1])).1), I ((cutFault ([evenA, evenA]) ([1, 1])).2)] 24), rdE r20 (cutList ([evenA, evenA]) ([1, 1]) : List Int), rdE r2 (evenA.Next : List (List Int))] H) ?_ ?_
  · refine wpF_region ?_
    refine wpL_o rfl ?_
    refine e_call rfl Try.call53 arr0 (even (S := SL NoB [])) ?_
    rintro _ H4 ⟨hxx, r2, r3, rfl, hrr2, hrr3⟩
    have hS5 : St H0 NoB NoB [rdE r2 (evenA.Next : List (List Int)), rdE r3 (evenA.Takes : List Bool)] H4 := (hS0.res2 hxx hrr2 hrr3)
    refine wpL_o rfl ?_
    refine e_call rfl Try.call53 arr0 (even (S := SL NoB [rdE r2 (evenA.Next : List (List Int)), rdE r3 (evenA.Takes : List Bool)])) ?_
    rintro _ H9 ⟨hxx, r7, r8, rfl, hrr7, hrr8⟩
    have hS10 : St H0 NoB NoB [rdE r7 (evenA.Next : List (List Int)), rdE r8 (evenA.Takes : List Bool), rdE r2 (evenA.Next : List (List Int)), rdE r3 (evenA.Takes : List Bool)] H9 := (hS5.res2 hxx hrr7 hrr8)
    refine wpL_o rfl ?_
    refine e_buildSlice (vs := [Value.agg #[I (evenA.Signs), r2, r3], Value.agg #[I (evenA.Signs), r7, r8]]) (xs := ([evenA, evenA] : List Auto)) rfl Try.underlying48 Try.zeroValue36 rfl Try.sizeOf36 (par2 (v0 := Value.agg #[I (evenA.Signs), r2, r3]) (v1 := Value.agg #[I (evenA.Signs), r7, r8]) rfl rfl) rfl hS10 (RdVs.cons (Rd.auto.2 ⟨_, _, rfl, evenA_sg, hS10.rdS 2 rfl, hS10.rdS 3 rfl⟩) (RdVs.cons (Rd.auto.2 ⟨_, _, rfl, evenA_sg, hS10.rdS 0 rfl, hS10.rdS 1 rfl⟩) (RdVs.nil))) (by decide) (by decide) (fun v12 H13 hS14 hxx hvv12 => ?_)
    replace hS14 : St H0 NoB NoB [rowE 36 v12 ([evenA, evenA] : List Auto), rdE r7 (evenA.Next : List (List Int)), rdE r8 (evenA.Takes : List Bool), rdE r2 (evenA.Next : List (List Int)), rdE r3 (evenA.Takes : List Bool)] H13 := hS14
    refine wpL_o rfl ?_
    refine e_buildSlice (vs := [I (1), I (1)]) (xs := ([1, 1] : List Int)) rfl Try.underlying22 Try.zeroValue3 rfl Try.sizeOf3 (par2 (v0 := I (1)) (v1 := I (1)) rfl rfl) rfl hS14 (RdVs.cons (Rd.int.2 ⟨rfl, by constructor <;> omega⟩) (RdVs.cons (Rd.int.2 ⟨rfl, by constructor <;> omega⟩) (RdVs.nil))) (by decide) (by decide) (fun v15 H16 hS17 hxx hvv15 => ?_)
    replace hS17 : St H0 NoB NoB [rowE 3 v15 ([1, 1] : List Int), rowE 36 v12 ([evenA, evenA] : List Auto), rdE r7 (evenA.Next : List (List Int)), rdE r8 (evenA.Takes : List Bool), rdE r2 (evenA.Next : List (List Int)), rdE r3 (evenA.Takes : List Bool)] H16 := hS17
    have hS18 : St H0 NoB NoB [rdE v12 ([evenA, evenA] : List Auto), rowE 3 v15 ([1, 1] : List Int), rdE r7 (evenA.Next : List (List Int)), rdE r8 (evenA.Takes : List Bool), rdE r2 (evenA.Next : List (List Int)), rdE r3 (evenA.Takes : List Bool)] H16 := St.fin (hS17.front 1 rfl)
    have hS19 : St H0 NoB NoB [rdE v15 ([1, 1] : List Int), rdE v12 ([evenA, evenA] : List Auto), rdE r7 (evenA.Next : List (List Int)), rdE r8 (evenA.Takes : List Bool), rdE r2 (evenA.Next : List (List Int)), rdE r3 (evenA.Takes : List Bool)] H16 := St.fin (hS18.front 1 rfl)
    refine wpL_o rfl ?_
    refine e_call rfl Try.call30 (arr2 (v0 := v12) (v1 := v15) rfl rfl) (rope_Cut v12 v15 ([evenA, evenA]) ([1, 1]) (hS19.rdS 1 rfl) (hS19.rdS 0 rfl)) ?_
    rintro _ H21 ⟨hxx, r20, rfl, hrr20⟩
    have hS22 : St H0 NoB NoB [rdE r20 (cutList ([evenA, evenA]) ([1, 1]) : List Int), rdE v15 ([1, 1] : List Int), rdE v12 ([evenA, evenA] : List Auto), rdE r7 (evenA.Next : List (List Int)), rdE r8 (evenA.Takes : List Bool), rdE r2 (evenA.Next : List (List Int)), rdE r3 (evenA.Takes : List Bool)] H21 := (hS19.res hxx hrr20)
    refine wpL_q (U := NoB) rfl (q_move (v := Value.tuple #[r20, B (cutOk ([evenA, evenA]) ([1, 1])), Value.agg #[I ((cutFault ([evenA, evenA]) ([1, 1])).1), I ((cutFault ([evenA, evenA]) ([1, 1])).2)]]) rfl rfl) ?_
    refine wpL_q (U := NoB) rfl (q_extract (vs := #[r20, B (cutOk ([evenA, evenA]) ([1, 1])), Value.agg #[I ((cutFault ([evenA, evenA]) ([1, 1])).1), I ((cutFault ([evenA, evenA]) ([1, 1])).2)]]) (v := r20) rfl rfl rfl) ?_
    refine wpL_q (U := NoB) rfl (q_extract (vs := #[r20, B (cutOk ([evenA, evenA]) ([1, 1])), Value.agg #[I ((cutFault ([evenA, evenA]) ([1, 1])).1), I ((cutFault ([evenA, evenA]) ([1, 1])).2)]]) (v := B (cutOk ([evenA, evenA]) ([1, 1]))) rfl rfl rfl) ?_
    refine wpL_q (U := NoB) rfl (q_extract (vs := #[r20, B (cutOk ([evenA, evenA]) ([1, 1])), Value.agg #[I ((cutFault ([evenA, evenA]) ([1, 1])).1), I ((cutFault ([evenA, evenA]) ([1, 1])).2)]]) (v := Value.agg #[I ((cutFault ([evenA, evenA]) ([1, 1])).1), I ((cutFault ([evenA, evenA]) ([1, 1])).2)]) rfl rfl rfl) ?_
    refine wpL_o rfl ?_
    refine e_alloc rfl Try.zeroValue24 hS22 (fun g24 H25 hS26 hxx => ?_)
    replace hS26 : St H0 NoB NoB [blkE g24 (.cells #[I (0), I (0)] 24), rdE r20 (cutList ([evenA, evenA]) ([1, 1]) : List Int), rdE v15 ([1, 1] : List Int), rdE v12 ([evenA, evenA] : List Auto), rdE r7 (evenA.Next : List (List Int)), rdE r8 (evenA.Takes : List Bool), rdE r2 (evenA.Next : List (List Int)), rdE r3 (evenA.Takes : List Bool)] H25 := hS26
    refine wpL_q (U := NoB) rfl (q_assign (v := r20) rfl rfl) ?_
    refine wpL_q (U := NoB) rfl (q_assign (v := B (cutOk ([evenA, evenA]) ([1, 1]))) rfl rfl) ?_
    refine wpL_o rfl ?_
    refine e_storeBlkA (cs' := #[I ((cutFault ([evenA, evenA]) ([1, 1])).1), I ((cutFault ([evenA, evenA]) ([1, 1])).2)]) rfl rfl rfl Try.sizeOf24 rfl rfl (List.forall_mem_cons.2 ⟨rfl, List.forall_mem_cons.2 ⟨rfl, List.forall_mem_nil _⟩⟩) hS26 (fun H27 hS28 hxx => ?_)
    replace hS28 : St H0 NoB NoB [blkE g24 (.cells #[I ((cutFault ([evenA, evenA]) ([1, 1])).1), I ((cutFault ([evenA, evenA]) ([1, 1])).2)] 24), rdE r20 (cutList ([evenA, evenA]) ([1, 1]) : List Int), rdE v15 ([1, 1] : List Int), rdE v12 ([evenA, evenA] : List Auto), rdE r7 (evenA.Next : List (List Int)), rdE r8 (evenA.Takes : List Bool), rdE r2 (evenA.Next : List (List Int)), rdE r3 (evenA.Takes : List Bool)] H27 := hS28
    exact ⟨r2, r20, g24, rfl, rfl, rfl, (hS28.drop (List.Sublist.cons_cons _ (List.Sublist.cons_cons _ (List.Sublist.cons _ (List.Sublist.cons _ (List.Sublist.cons _ (List.Sublist.cons _ (List.Sublist.cons_cons _ (List.Sublist.cons _ (List.Sublist.slnil))))))))))⟩
  rintro f29 H29 ⟨r2, r20, g24, a29_1, a29_2, a29_3, hS29⟩
  refine wpF_seq ?_
  refine wpF_cut (fun f H => ∃ (r38 : Value), ∃ (g42 : Nat), f 1 = r20 ∧ f 2 = B (cutOk ([evenA, evenA]) ([1, 1])) ∧ f 3 = PT g24 0 ∧ f 4 = r38 ∧ f 5 = B ((ropeAll ([-1, 2, -1]) ([5, 2, 5])).2.1) ∧ f 6 = PT g42 0 ∧ St H0 NoB NoB [blkE g42 (.cells #[I ((ropeAll ([-1, 2, -1]) ([5, 2, 5])).2.2.1), I ((ropeAll ([-1, 2, -1]) ([5, 2, 5])).2.2.2)] 24), rdE r38 ((ropeAll ([-1, 2, -1]) ([5, 2, 5])).1 : List (List Int)), blkE g24 (.cells #[I ((cutFault ([evenA, evenA]) ([1, 1])).1), I ((cutFault ([evenA, evenA]) ([1, 1])).2)] 24), rdE r20 (cutList ([evenA, evenA]) ([1, 1]) : List Int), rdE r2 (evenA.Next : List (List Int))] H) ?_ ?_
  · refine wpF_region ?_
    refine wpL_o rfl ?_
    refine e_buildSlice (vs := [I (-1), I (2), I (-1)]) (xs := ([-1, 2, -1] : List Int)) rfl Try.underlying22 Try.zeroValue3 rfl Try.sizeOf3 (par3 (v0 := I (-1)) (v1 := I (2)) (v2 := I (-1)) rfl rfl rfl) rfl hS29 (RdVs.cons (Rd.int.2 ⟨rfl, by constructor <;> omega⟩) (RdVs.cons (Rd.int.2 ⟨rfl, by constructor <;> omega⟩) (RdVs.cons (Rd.int.2 ⟨rfl, by constructor <;> omega⟩) (RdVs.nil)))) (by decide) (by decide) (fun v30 H31 hS32 hxx hvv30 => ?_)
    replace hS32 : St H0 NoB NoB [rowE 3 v30 ([-1, 2, -1] : List Int), blkE g24 (.cells #[I ((cutFault ([evenA, evenA]) ([1, 1])).1), I ((cutFault ([evenA, evenA]) ([1, 1])).2)] 24), rdE r20 (cutList ([evenA, evenA]) ([1, 1]) : List Int), rdE r2 (evenA.Next : List (List Int))] H31 := hS32
    refine wpL_o rfl ?_
    refine e_buildSlice (vs := [I (5), I (2), I (5)]) (xs := ([5, 2, 5] : List Int)) rfl Try.underlying22 Try.zeroValue3 rfl Try.sizeOf3 (par3 (v0 := I (5)) (v1 := I (2)) (v2 := I (5)) rfl rfl rfl) rfl hS32 (RdVs.cons (Rd.int.2 ⟨rfl, by constructor <;> omega⟩) (RdVs.cons (Rd.int.2 ⟨rfl, by constructor <;> omega⟩) (RdVs.cons (Rd.int.2 ⟨rfl, by constructor <;> omega⟩) (RdVs.nil)))) (by decide) (by decide) (fun v33 H34 hS35 hxx hvv33 => ?_)
    replace hS35 : St H0 NoB NoB [rowE 3 v33 ([5, 2, 5] : List Int), rowE 3 v30 ([-1, 2, -1] : List Int), blkE g24 (.cells #[I ((cutFault ([evenA, evenA]) ([1, 1])).1), I ((cutFault ([evenA, evenA]) ([1, 1])).2)] 24), rdE r20 (cutList ([evenA, evenA]) ([1, 1]) : List Int), rdE r2 (evenA.Next : List (List Int))] H34 := hS35
    have hS36 : St H0 NoB NoB [rdE v30 ([-1, 2, -1] : List Int), rowE 3 v33 ([5, 2, 5] : List Int), blkE g24 (.cells #[I ((cutFault ([evenA, evenA]) ([1, 1])).1), I ((cutFault ([evenA, evenA]) ([1, 1])).2)] 24), rdE r20 (cutList ([evenA, evenA]) ([1, 1]) : List Int), rdE r2 (evenA.Next : List (List Int))] H34 := St.fin (hS35.front 1 rfl)
    have hS37 : St H0 NoB NoB [rdE v33 ([5, 2, 5] : List Int), rdE v30 ([-1, 2, -1] : List Int), blkE g24 (.cells #[I ((cutFault ([evenA, evenA]) ([1, 1])).1), I ((cutFault ([evenA, evenA]) ([1, 1])).2)] 24), rdE r20 (cutList ([evenA, evenA]) ([1, 1]) : List Int), rdE r2 (evenA.Next : List (List Int))] H34 := St.fin (hS36.front 1 rfl)
    refine wpL_o rfl ?_
    refine e_call rfl Try.call17 (arr2 (v0 := v30) (v1 := v33) rfl rfl) (rope_Fit v30 v33 ([-1, 2, -1]) ([5, 2, 5]) (hS37.rdS 1 rfl) (hS37.rdS 0 rfl)) ?_
    rintro _ H39 ⟨hxx, r38, rfl, hrr38⟩
    have hS40 : St H0 NoB NoB [rdE r38 ((ropeAll ([-1, 2, -1]) ([5, 2, 5])).1 : List (List Int)), rdE v33 ([5, 2, 5] : List Int), rdE v30 ([-1, 2, -1] : List Int), blkE g24 (.cells #[I ((cutFault ([evenA, evenA]) ([1, 1])).1), I ((cutFault ([evenA, evenA]) ([1, 1])).2)] 24), rdE r20 (cutList ([evenA, evenA]) ([1, 1]) : List Int), rdE r2 (evenA.Next : List (List Int))] H39 := hS37.res hxx hrr38
    refine wpL_q (U := NoB) rfl (q_move (v := Value.tuple #[r38, B ((ropeAll ([-1, 2, -1]) ([5, 2, 5])).2.1), Value.agg #[I ((ropeAll ([-1, 2, -1]) ([5, 2, 5])).2.2.1), I ((ropeAll ([-1, 2, -1]) ([5, 2, 5])).2.2.2)]]) rfl rfl) ?_
    refine wpL_q (U := NoB) rfl (q_extract (vs := #[r38, B ((ropeAll ([-1, 2, -1]) ([5, 2, 5])).2.1), Value.agg #[I ((ropeAll ([-1, 2, -1]) ([5, 2, 5])).2.2.1), I ((ropeAll ([-1, 2, -1]) ([5, 2, 5])).2.2.2)]]) (v := r38) rfl rfl rfl) ?_
    refine wpL_q (U := NoB) rfl (q_extract (vs := #[r38, B ((ropeAll ([-1, 2, -1]) ([5, 2, 5])).2.1), Value.agg #[I ((ropeAll ([-1, 2, -1]) ([5, 2, 5])).2.2.1), I ((ropeAll ([-1, 2, -1]) ([5, 2, 5])).2.2.2)]]) (v := B ((ropeAll ([-1, 2, -1]) ([5, 2, 5])).2.1)) rfl rfl rfl) ?_
    refine wpL_q (U := NoB) rfl (q_extract (vs := #[r38, B ((ropeAll ([-1, 2, -1]) ([5, 2, 5])).2.1), Value.agg #[I ((ropeAll ([-1, 2, -1]) ([5, 2, 5])).2.2.1), I ((ropeAll ([-1, 2, -1]) ([5, 2, 5])).2.2.2)]]) (v := Value.agg #[I ((ropeAll ([-1, 2, -1]) ([5, 2, 5])).2.2.1), I ((ropeAll ([-1, 2, -1]) ([5, 2, 5])).2.2.2)]) rfl rfl rfl) ?_
    refine wpL_o rfl ?_
    refine e_alloc rfl Try.zeroValue24 hS40 (fun g42 H43 hS44 hxx => ?_)
    replace hS44 : St H0 NoB NoB [blkE g42 (.cells #[I (0), I (0)] 24), rdE r38 ((ropeAll ([-1, 2, -1]) ([5, 2, 5])).1 : List (List Int)), rdE v33 ([5, 2, 5] : List Int), rdE v30 ([-1, 2, -1] : List Int), blkE g24 (.cells #[I ((cutFault ([evenA, evenA]) ([1, 1])).1), I ((cutFault ([evenA, evenA]) ([1, 1])).2)] 24), rdE r20 (cutList ([evenA, evenA]) ([1, 1]) : List Int), rdE r2 (evenA.Next : List (List Int))] H43 := hS44
    refine wpL_q (U := NoB) rfl (q_assign (v := r38) rfl rfl) ?_
    refine wpL_q (U := NoB) rfl (q_assign (v := B ((ropeAll ([-1, 2, -1]) ([5, 2, 5])).2.1)) rfl rfl) ?_
    refine wpL_o rfl ?_
    refine e_storeBlkA (cs' := #[I ((ropeAll ([-1, 2, -1]) ([5, 2, 5])).2.2.1), I ((ropeAll ([-1, 2, -1]) ([5, 2, 5])).2.2.2)]) rfl rfl rfl Try.sizeOf24 rfl rfl (List.forall_mem_cons.2 ⟨rfl, List.forall_mem_cons.2 ⟨rfl, List.forall_mem_nil _⟩⟩) hS44 (fun H45 hS46 hxx => ?_)
    replace hS46 : St H0 NoB NoB [blkE g42 (.cells #[I ((ropeAll ([-1, 2, -1]) ([5, 2, 5])).2.2.1), I ((ropeAll ([-1, 2, -1]) ([5, 2, 5])).2.2.2)] 24), rdE r38 ((ropeAll ([-1, 2, -1]) ([5, 2, 5])).1 : List (List Int)), rdE v33 ([5, 2, 5] : List Int), rdE v30 ([-1, 2, -1] : List Int), blkE g24 (.cells #[I ((cutFault ([evenA, evenA]) ([1, 1])).1), I ((cutFault ([evenA, evenA]) ([1, 1])).2)] 24), rdE r20 (cutList ([evenA, evenA]) ([1, 1]) : List Int), rdE r2 (evenA.Next : List (List Int))] H45 := hS46
    exact ⟨r38, g42, a29_1, a29_2, a29_3, rfl, rfl, rfl, (hS46.drop (List.Sublist.cons_cons _ (List.Sublist.cons_cons _ (List.Sublist.cons _ (List.Sublist.cons _ (List.Sublist.cons_cons _ (List.Sublist.cons_cons _ (List.Sublist.cons_cons _ (List.Sublist.slnil)))))))))⟩
  rintro f47 H47 ⟨r38, g42, a47_1, a47_2, a47_3, a47_4, a47_5, a47_6, hS47⟩
  clear a29_1 a29_2 a29_3
  refine wpF_seq ?_
  refine wpF_cut (fun f H => f 0 = B (decide ((((((((cutFault ([evenA, evenA]) ([1, 1])).1) = 0) ∧ (((ropeAll ([-1, 2, -1]) ([5, 2, 5])).2.2.1) = 0)) ∧ ((cutOk ([evenA, evenA]) ([1, 1])) = true)) ∧ (((ropeAll ([-1, 2, -1]) ([5, 2, 5])).2.1) = true)) ∧ ((cutList ([evenA, evenA]) ([1, 1])) = ([0, 2]))) ∧ (((ropeAll ([-1, 2, -1]) ([5, 2, 5])).1) = ([[5]])))) ∧ St H0 NoB NoB [blkE g42 (.cells #[I ((ropeAll ([-1, 2, -1]) ([5, 2, 5])).2.2.1), I ((ropeAll ([-1, 2, -1]) ([5, 2, 5])).2.2.2)] 24), blkE g24 (.cells #[I ((cutFault ([evenA, evenA]) ([1, 1])).1), I ((cutFault ([evenA, evenA]) ([1, 1])).2)] 24)] H) ?_ ?_
  · refine wpF_region ?_
    refine wpL_q (U := NoB) rfl (q_fieldAddr rfl Try.underlying24 rfl Try.sizeOf3 a47_3) ?_
    refine wpL_q (U := NoB) rfl (q_loadBlk rfl rfl Try.isAgg3 (hS47.blk 2 rfl) rfl (fun h => h)) ?_
    refine wpL_q (U := NoB) rfl (q_eql rfl rfl rfl) ?_
    refine wpL_q (U := NoB) rfl (q_move (v := B (decide (((cutFault ([evenA, evenA]) ([1, 1])).1) = 0))) rfl rfl) ?_
    by_cases hg48 : ((cutFault ([evenA, evenA]) ([1, 1])).1) = 0
    · have hb49 := Eq.trans rfl (congrArg B (decide_eq_true hg48))
      refine wpL_gq (U := NoB) rfl rfl rfl hb49 (q_fieldAddr rfl Try.underlying24 rfl Try.sizeOf3 a47_6) ?_
      refine wpL_gq (U := NoB) rfl rfl rfl hb49 (q_loadBlk rfl rfl Try.isAgg3 (hS47.blk 0 rfl) rfl (fun h => h)) ?_
      refine wpL_gq (U := NoB) rfl rfl rfl hb49 (q_eql rfl rfl rfl) ?_
      refine wpL_q (U := NoB) rfl (q_pickT (v := B (decide (((ropeAll ([-1, 2, -1]) ([5, 2, 5])).2.2.1) = 0))) rfl hb49 rfl) ?_
      refine wpL_q (U := NoB) rfl (q_move (v := B (decide (((ropeAll ([-1, 2, -1]) ([5, 2, 5])).2.2.1) = 0))) rfl rfl) ?_
      by_cases hg51 : ((ropeAll ([-1, 2, -1]) ([5, 2, 5])).2.2.1) = 0
      · have hb52 := Eq.trans rfl (congrArg B (decide_eq_true hg51))
        refine wpL_gq (U := NoB) rfl rfl rfl hb52 (q_move (v := B (cutOk ([evenA, evenA]) ([1, 1]))) rfl a47_2) ?_
        refine wpL_q (U := NoB) rfl (q_pickT (v := B (cutOk ([evenA, evenA]) ([1, 1]))) rfl hb52 rfl) ?_
        refine wpL_q (U := NoB) rfl (q_move (v := B (cutOk ([evenA, evenA]) ([1, 1]))) rfl rfl) ?_
        by_cases hg54 : (cutOk ([evenA, evenA]) ([1, 1])) = true
        · have hb55 := Eq.trans rfl (congrArg B hg54)
          refine wpL_gq (U := NoB) rfl rfl rfl hb55 (q_move (v := B ((ropeAll ([-1, 2, -1]) ([5, 2, 5])).2.1)) rfl a47_5) ?_
          refine wpL_q (U := NoB) rfl (q_pickT (v := B ((ropeAll ([-1, 2, -1]) ([5, 2, 5])).2.1)) rfl hb55 rfl) ?_
          refine wpL_q (U := NoB) rfl (q_move (v := B ((ropeAll ([-1, 2, -1]) ([5, 2, 5])).2.1)) rfl rfl) ?_
          by_cases hg57 : ((ropeAll ([-1, 2, -1]) ([5, 2, 5])).2.1) = true
          · have hb58 := Eq.trans rfl (congrArg B hg57)
            refine wpL_gq (U := NoB) rfl rfl rfl hb58 (q_move (v := r20) rfl a47_1) ?_
            refine wpL_go rfl rfl rfl hb58 ?_
            refine e_buildSlice (vs := [I (0), I (2)]) (xs := ([0, 2] : List Int)) rfl Try.underlying22 Try.zeroValue3 rfl Try.sizeOf3 (par2 (v0 := I (0)) (v1 := I (2)) rfl rfl) rfl hS47 (RdVs.cons (Rd.int.2 ⟨rfl, by constructor <;> omega⟩) (RdVs.cons (Rd.int.2 ⟨rfl, by constructor <;> omega⟩) (RdVs.nil))) (by decide) (by decide) (fun v60 H61 hS62 hxx hvv60 => ?_)
            replace hS62 : St H0 NoB NoB [rowE 3 v60 ([0, 2] : List Int), blkE g42 (.cells #[I ((ropeAll ([-1, 2, -1]) ([5, 2, 5])).2.2.1), I ((ropeAll ([-1, 2, -1]) ([5, 2, 5])).2.2.2)] 24), rdE r38 ((ropeAll ([-1, 2, -1]) ([5, 2, 5])).1 : List (List Int)), blkE g24 (.cells #[I ((cutFault ([evenA, evenA]) ([1, 1])).1), I ((cutFault ([evenA, evenA]) ([1, 1])).2)] 24), rdE r20 (cutList ([evenA, evenA]) ([1, 1]) : List Int), rdE r2 (evenA.Next : List (List Int))] H61 := hS62
            refine wpL_go rfl rfl rfl hb58 ?_
            refine e_call rfl Try.call32 (arr2 (v0 := r20) (v1 := v60) rfl rfl) (Ints r20 v60 _ _ (hS62.rdN 4 rfl) (hS62.rowN 0 rfl)) ?_
            rintro _ H63 ⟨hxx, rfl⟩
            have hS64 : St H0 NoB NoB [rowE 3 v60 ([0, 2] : List Int), blkE g42 (.cells #[I ((ropeAll ([-1, 2, -1]) ([5, 2, 5])).2.2.1), I ((ropeAll ([-1, 2, -1]) ([5, 2, 5])).2.2.2)] 24), rdE r38 ((ropeAll ([-1, 2, -1]) ([5, 2, 5])).1 : List (List Int)), blkE g24 (.cells #[I ((cutFault ([evenA, evenA]) ([1, 1])).1), I ((cutFault ([evenA, evenA]) ([1, 1])).2)] 24), rdE r20 (cutList ([evenA, evenA]) ([1, 1]) : List Int), rdE r2 (evenA.Next : List (List Int))] H63 := hS62.ext hxx
            refine wpL_q (U := NoB) rfl (q_pickT (v := B (decide ((cutList ([evenA, evenA]) ([1, 1])) = ([0, 2])))) rfl hb58 rfl) ?_
            refine wpL_q (U := NoB) rfl (q_move (v := B (decide ((cutList ([evenA, evenA]) ([1, 1])) = ([0, 2])))) rfl rfl) ?_
            by_cases hg66 : (cutList ([evenA, evenA]) ([1, 1])) = ([0, 2])
            · have hb67 := Eq.trans rfl (congrArg B (decide_eq_true hg66))
              refine wpL_gq (U := NoB) rfl rfl rfl hb67 (q_move (v := r38) rfl a47_4) ?_
              refine wpL_go rfl rfl rfl hb67 ?_
              refine e_buildSlice (vs := [I (5)]) (xs := ([5] : List Int)) rfl Try.underlying22 Try.zeroValue3 rfl Try.sizeOf3 (par1 (v0 := I (5)) rfl) rfl hS64 (RdVs.cons (Rd.int.2 ⟨rfl, by constructor <;> omega⟩) (RdVs.nil)) (by decide) (by decide) (fun v69 H70 hS71 hxx hvv69 => ?_)
              replace hS71 : St H0 NoB NoB [rowE 3 v69 ([5] : List Int), rowE 3 v60 ([0, 2] : List Int), blkE g42 (.cells #[I ((ropeAll ([-1, 2, -1]) ([5, 2, 5])).2.2.1), I ((ropeAll ([-1, 2, -1]) ([5, 2, 5])).2.2.2)] 24), rdE r38 ((ropeAll ([-1, 2, -1]) ([5, 2, 5])).1 : List (List Int)), blkE g24 (.cells #[I ((cutFault ([evenA, evenA]) ([1, 1])).1), I ((cutFault ([evenA, evenA]) ([1, 1])).2)] 24), rdE r20 (cutList ([evenA, evenA]) ([1, 1]) : List Int), rdE r2 (evenA.Next : List (List Int))] H70 := hS71
              have hS72 : St H0 NoB NoB [rdE v69 ([5] : List Int), rowE 3 v60 ([0, 2] : List Int), blkE g42 (.cells #[I ((ropeAll ([-1, 2, -1]) ([5, 2, 5])).2.2.1), I ((ropeAll ([-1, 2, -1]) ([5, 2, 5])).2.2.2)] 24), rdE r38 ((ropeAll ([-1, 2, -1]) ([5, 2, 5])).1 : List (List Int)), blkE g24 (.cells #[I ((cutFault ([evenA, evenA]) ([1, 1])).1), I ((cutFault ([evenA, evenA]) ([1, 1])).2)] 24), rdE r20 (cutList ([evenA, evenA]) ([1, 1]) : List Int), rdE r2 (evenA.Next : List (List Int))] H70 := St.fin hS71
              refine wpL_go rfl rfl rfl hb67 ?_
              refine e_buildSlice (vs := [v69]) (xs := ([[5]] : List (List Int))) rfl Try.underlying27 Try.zeroValue22 rfl Try.sizeOf22 (par1 (v0 := v69) rfl) rfl hS72 (RdVs.cons (hS72.rdS 0 rfl) (RdVs.nil)) (by decide) (by decide) (fun v73 H74 hS75 hxx hvv73 => ?_)
              replace hS75 : St H0 NoB NoB [rowE 22 v73 ([[5]] : List (List Int)), rdE v69 ([5] : List Int), rowE 3 v60 ([0, 2] : List Int), blkE g42 (.cells #[I ((ropeAll ([-1, 2, -1]) ([5, 2, 5])).2.2.1), I ((ropeAll ([-1, 2, -1]) ([5, 2, 5])).2.2.2)] 24), rdE r38 ((ropeAll ([-1, 2, -1]) ([5, 2, 5])).1 : List (List Int)), blkE g24 (.cells #[I ((cutFault ([evenA, evenA]) ([1, 1])).1), I ((cutFault ([evenA, evenA]) ([1, 1])).2)] 24), rdE r20 (cutList ([evenA, evenA]) ([1, 1]) : List Int), rdE r2 (evenA.Next : List (List Int))] H74 := hS75
              refine wpL_go rfl rfl rfl hb67 ?_
              refine e_call rfl Try.call19 (arr2 (v0 := r38) (v1 := v73) rfl rfl) (rows_L r38 v73 _ _ (hS75.rdN 4 rfl) (hS75.rowN 0 rfl)) ?_
              rintro _ H76 ⟨hxx, rfl⟩
              have hS77 : St H0 NoB NoB [rowE 22 v73 ([[5]] : List (List Int)), rdE v69 ([5] : List Int), rowE 3 v60 ([0, 2] : List Int), blkE g42 (.cells #[I ((ropeAll ([-1, 2, -1]) ([5, 2, 5])).2.2.1), I ((ropeAll ([-1, 2, -1]) ([5, 2, 5])).2.2.2)] 24), rdE r38 ((ropeAll ([-1, 2, -1]) ([5, 2, 5])).1 : List (List Int)), blkE g24 (.cells #[I ((cutFault ([evenA, evenA]) ([1, 1])).1), I ((cutFault ([evenA, evenA]) ([1, 1])).2)] 24), rdE r20 (cutList ([evenA, evenA]) ([1, 1]) : List Int), rdE r2 (evenA.Next : List (List Int))] H76 := hS75.ext hxx
              refine wpL_q (U := NoB) rfl (q_pickT (v := B (decide (((ropeAll ([-1, 2, -1]) ([5, 2, 5])).1) = ([[5]])))) rfl hb67 rfl) ?_
              refine wpL_q (U := NoB) rfl (q_assign (v := B (decide (((ropeAll ([-1, 2, -1]) ([5, 2, 5])).1) = ([[5]])))) rfl rfl) ?_
              exact ⟨(Eq.trans rfl (congrArg B (decide_congr_of ((Iff.rfl).trans (((and_iff_right ⟨⟨⟨⟨hg48, hg51⟩, hg54⟩, hg57⟩, hg66⟩).trans Iff.rfl)).symm)))), (hS77.drop (List.Sublist.cons _ (List.Sublist.cons _ (List.Sublist.cons _ (List.Sublist.cons_cons _ (List.Sublist.cons _ (List.Sublist.cons_cons _ (List.Sublist.cons _ (List.Sublist.cons _ (List.Sublist.slnil))))))))))⟩
            · have hb68 := Eq.trans rfl (congrArg B (decide_eq_false hg66))
              refine wpL_gs rfl rfl rfl hb68 rfl ?_
              refine wpL_gs rfl rfl rfl hb68 rfl ?_
              refine wpL_gs rfl rfl rfl hb68 rfl ?_
              refine wpL_gs rfl rfl rfl hb68 rfl ?_
              refine wpL_q (U := NoB) rfl (q_pickF (v := B (false)) rfl hb68 rfl) ?_
              refine wpL_q (U := NoB) rfl (q_assign (v := B (false)) rfl rfl) ?_
              exact ⟨(Eq.trans rfl (congrArg B ((decide_eq_false (fun h => (fun h => hg66 h.2) h.1)).symm))), (hS64.drop (List.Sublist.cons _ (List.Sublist.cons_cons _ (List.Sublist.cons _ (List.Sublist.cons_cons _ (List.Sublist.cons _ (List.Sublist.cons _ (List.Sublist.slnil))))))))⟩
          · have hb59 := Eq.trans rfl (congrArg B (Bool.eq_false_iff.2 hg57))
            refine wpL_gs rfl rfl rfl hb59 rfl ?_
            refine wpL_gs rfl rfl rfl hb59 rfl ?_
            refine wpL_gs rfl rfl rfl hb59 rfl ?_
            refine wpL_q (U := NoB) rfl (q_pickF (v := B (false)) rfl hb59 rfl) ?_
            refine wpL_q (U := NoB) rfl (q_move (v := B (false)) rfl rfl) ?_
            refine wpL_gs rfl rfl rfl rfl rfl ?_
            refine wpL_gs rfl rfl rfl rfl rfl ?_
            refine wpL_gs rfl rfl rfl rfl rfl ?_
            refine wpL_gs rfl rfl rfl rfl rfl ?_
            refine wpL_q (U := NoB) rfl (q_pickF (v := B (false)) rfl rfl rfl) ?_
            refine wpL_q (U := NoB) rfl (q_assign (v := B (false)) rfl rfl) ?_
            exact ⟨(Eq.trans rfl (congrArg B ((decide_eq_false (fun h => (fun h => (fun h => hg57 h.2) h.1) h.1)).symm))), (hS47.drop (List.Sublist.cons_cons _ (List.Sublist.cons _ (List.Sublist.cons_cons _ (List.Sublist.cons _ (List.Sublist.cons _ (List.Sublist.slnil)))))))⟩
        · have hb56 := Eq.trans rfl (congrArg B (Bool.eq_false_iff.2 hg54))
          refine wpL_gs rfl rfl rfl hb56 rfl ?_
          refine wpL_q (U := NoB) rfl (q_pickF (v := B (false)) rfl hb56 rfl) ?_
          refine wpL_q (U := NoB) rfl (q_move (v := B (false)) rfl rfl) ?_
          refine wpL_gs rfl rfl rfl rfl rfl ?_
          refine wpL_gs rfl rfl rfl rfl rfl ?_
          refine wpL_gs rfl rfl rfl rfl rfl ?_
          refine wpL_q (U := NoB) rfl (q_pickF (v := B (false)) rfl rfl rfl) ?_
          refine wpL_q (U := NoB) rfl (q_move (v := B (false)) rfl rfl) ?_
          refine wpL_gs rfl rfl rfl rfl rfl ?_
          refine wpL_gs rfl rfl rfl rfl rfl ?_
          refine wpL_gs rfl rfl rfl rfl rfl ?_
          refine wpL_gs rfl rfl rfl rfl rfl ?_
          refine wpL_q (U := NoB) rfl (q_pickF (v := B (false)) rfl rfl rfl) ?_
          refine wpL_q (U := NoB) rfl (q_assign (v := B (false)) rfl rfl) ?_
          exact ⟨(Eq.trans rfl (congrArg B ((decide_eq_false (fun h => (fun h => (fun h => (fun h => hg54 h.2) h.1) h.1) h.1)).symm))), (hS47.drop (List.Sublist.cons_cons _ (List.Sublist.cons _ (List.Sublist.cons_cons _ (List.Sublist.cons _ (List.Sublist.cons _ (List.Sublist.slnil)))))))⟩
      · have hb53 := Eq.trans rfl (congrArg B (decide_eq_false hg51))
        refine wpL_gs rfl rfl rfl hb53 rfl ?_
        refine wpL_q (U := NoB) rfl (q_pickF (v := B (false)) rfl hb53 rfl) ?_
        refine wpL_q (U := NoB) rfl (q_move (v := B (false)) rfl rfl) ?_
        refine wpL_gs rfl rfl rfl rfl rfl ?_
        refine wpL_q (U := NoB) rfl (q_pickF (v := B (false)) rfl rfl rfl) ?_
        refine wpL_q (U := NoB) rfl (q_move (v := B (false)) rfl rfl) ?_
        refine wpL_gs rfl rfl rfl rfl rfl ?_
        refine wpL_gs rfl rfl rfl rfl rfl ?_
        refine wpL_gs rfl rfl rfl rfl rfl ?_
        refine wpL_q (U := NoB) rfl (q_pickF (v := B (false)) rfl rfl rfl) ?_
        refine wpL_q (U := NoB) rfl (q_move (v := B (false)) rfl rfl) ?_
        refine wpL_gs rfl rfl rfl rfl rfl ?_
        refine wpL_gs rfl rfl rfl rfl rfl ?_
        refine wpL_gs rfl rfl rfl rfl rfl ?_
        refine wpL_gs rfl rfl rfl rfl rfl ?_
        refine wpL_q (U := NoB) rfl (q_pickF (v := B (false)) rfl rfl rfl) ?_
        refine wpL_q (U := NoB) rfl (q_assign (v := B (false)) rfl rfl) ?_
        exact ⟨(Eq.trans rfl (congrArg B ((decide_eq_false (fun h => (fun h => (fun h => (fun h => (fun h => hg51 h.2) h.1) h.1) h.1) h.1)).symm))), (hS47.drop (List.Sublist.cons_cons _ (List.Sublist.cons _ (List.Sublist.cons_cons _ (List.Sublist.cons _ (List.Sublist.cons _ (List.Sublist.slnil)))))))⟩
    · have hb50 := Eq.trans rfl (congrArg B (decide_eq_false hg48))
      refine wpL_gs rfl rfl rfl hb50 rfl ?_
      refine wpL_gs rfl rfl rfl hb50 rfl ?_
      refine wpL_gs rfl rfl rfl hb50 rfl ?_
      refine wpL_q (U := NoB) rfl (q_pickF (v := B (false)) rfl hb50 rfl) ?_
      refine wpL_q (U := NoB) rfl (q_move (v := B (false)) rfl rfl) ?_
      refine wpL_gs rfl rfl rfl rfl rfl ?_
      refine wpL_q (U := NoB) rfl (q_pickF (v := B (false)) rfl rfl rfl) ?_
      refine wpL_q (U := NoB) rfl (q_move (v := B (false)) rfl rfl) ?_
      refine wpL_gs rfl rfl rfl rfl rfl ?_
      refine wpL_q (U := NoB) rfl (q_pickF (v := B (false)) rfl rfl rfl) ?_
      refine wpL_q (U := NoB) rfl (q_move (v := B (false)) rfl rfl) ?_
      refine wpL_gs rfl rfl rfl rfl rfl ?_
      refine wpL_gs rfl rfl rfl rfl rfl ?_
      refine wpL_gs rfl rfl rfl rfl rfl ?_
      refine wpL_q (U := NoB) rfl (q_pickF (v := B (false)) rfl rfl rfl) ?_
      refine wpL_q (U := NoB) rfl (q_move (v := B (false)) rfl rfl) ?_
      refine wpL_gs rfl rfl rfl rfl rfl ?_
      refine wpL_gs rfl rfl rfl rfl rfl ?_
      refine wpL_gs rfl rfl rfl rfl rfl ?_
      refine wpL_gs rfl rfl rfl rfl rfl ?_
      refine wpL_q (U := NoB) rfl (q_pickF (v := B (false)) rfl rfl rfl) ?_
      refine wpL_q (U := NoB) rfl (q_assign (v := B (false)) rfl rfl) ?_
      exact ⟨(Eq.trans rfl (congrArg B ((decide_eq_false (fun h => (fun h => (fun h => (fun h => (fun h => hg48 h.1) h.1) h.1) h.1) h.1)).symm))), (hS47.drop (List.Sublist.cons_cons _ (List.Sublist.cons _ (List.Sublist.cons_cons _ (List.Sublist.cons _ (List.Sublist.cons _ (List.Sublist.slnil)))))))⟩
  rintro f79 H79 ⟨a79_0, hS79⟩
  clear a47_1 a47_2 a47_3 a47_4 a47_5 a47_6
  refine wpF_ret ?_
  refine ⟨_, resT a79_0 resN, hS79.frame, ?_⟩
  show (B (decide ((((((((cutFault ([evenA, evenA]) ([1, 1])).1) = 0) ∧ (((ropeAll ([-1, 2, -1]) ([5, 2, 5])).2.2.1) = 0)) ∧ ((cutOk ([evenA, evenA]) ([1, 1])) = true)) ∧ (((ropeAll ([-1, 2, -1]) ([5, 2, 5])).2.1) = true)) ∧ ((cutList ([evenA, evenA]) ([1, 1])) = ([0, 2]))) ∧ (((ropeAll ([-1, 2, -1]) ([5, 2, 5])).1) = ([[5]]))))) = B true
  exact congrArg B (decide_eq_true (by rw [evenCut_f, evenCut_o, evenCut_l, evenFit]; simp))

end Go.Um
